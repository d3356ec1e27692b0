/- Texts of the walk, merged. -/
import Derived.Test.YtlagndfhibkjpaaGreatMg8
import Derived.Test.YtlagndfhibkjpaaGreatMg7
set_option linter.unusedVariables false
set_option linter.unusedSimpArgs false
namespace Go.Proofs.YtlagndfhibkjpaaGreat.Sx
section
open Go
set_option maxRecDepth 20000
noncomputable abbrev dhull_S1 (y1:Value) (y2:L3) (y3 y4 y5 y6:Int) (y7 y8 y9:L3):St := St.mk (some (SV.ros y1 kP y2) :: nn 3 (some (SV.sl (nat_lit 0)) :: some (SV.sl (nat_lit 1)) :: some (SV.int .i64 y3) :: some (SV.int .i64 y4) :: some (SV.int .i64 y5) :: nn 4 (some (SV.sl (nat_lit 2)) :: some (SV.int .i64 y6) :: nn 125 ([])))) [.seq kP y7 (nat_lit 23),.seq kP y8 (nat_lit 23),.seq kP y9 (nat_lit 23)]
noncomputable abbrev dhull_S2 (y1:Value) (y2:L3) (y3 y4 y5:Int) (y6 y7:L3):St := St.mk (some (SV.ros y1 kP y2) :: nn 3 (some (SV.sl (nat_lit 0)) :: some (SV.sl (nat_lit 1)) :: some (SV.int .i64 y3) :: some (SV.int .i64 y4) :: some (SV.int .i64 y5) :: nn 131 ([]))) [.seq kP y6 (nat_lit 23),.seq kP y7 (nat_lit 23)]
noncomputable abbrev dhull_S3:St := St.mk (some (SV.ros undef kP []) :: nn 3 (some (SV.sl (nat_lit 0)) :: some (SV.sl (nat_lit 1)) :: some (SV.int .i64 (0:Int)) :: some (SV.int .i64 (0:Int)) :: some (SV.int .i64 (0:Int)) :: nn 4 (some (SV.sl (nat_lit 2)) :: some (SV.int .i64 (0:Int)) :: nn 125 ([])))) [.seq kP [] (nat_lit 23),.seq kP [] (nat_lit 23),.seq kP [] (nat_lit 23)]
noncomputable abbrev dhull_S4 (y1:Value) (y2:L3) (y3 y4:Int) (y5 y6:L3):St := St.mk (some (SV.ros y1 kP y2) :: nn 3 (some (SV.sl (nat_lit 0)) :: some (SV.sl (nat_lit 1)) :: some (SV.int .i64 y3) :: some (SV.int .i64 y4) :: nn 132 ([]))) [.seq kP y5 (nat_lit 23),.seq kP y6 (nat_lit 23)]
noncomputable abbrev dhull_S5:St := St.mk (some (SV.ros undef kP []) :: nn 3 (some (SV.sl (nat_lit 0)) :: some (SV.sl (nat_lit 1)) :: some (SV.int .i64 (0:Int)) :: some (SV.int .i64 (0:Int)) :: some (SV.int .i64 (0:Int)) :: nn 131 ([]))) [.seq kP [] (nat_lit 23),.seq kP [] (nat_lit 23)]
noncomputable abbrev dhull_S6 (y1:Value) (y2:L3) (y3:Int) (y4 y5:L3):St := St.mk (some (SV.ros y1 kP y2) :: nn 3 (some (SV.sl (nat_lit 0)) :: some (SV.sl (nat_lit 1)) :: some (SV.int .i64 y3) :: nn 133 ([]))) [.seq kP y4 (nat_lit 23),.seq kP y5 (nat_lit 23)]
noncomputable abbrev dhull_S7:St := St.mk (some (SV.ros undef kP []) :: nn 3 (some (SV.sl (nat_lit 0)) :: some (SV.sl (nat_lit 1)) :: some (SV.int .i64 (0:Int)) :: some (SV.int .i64 (0:Int)) :: nn 132 ([]))) [.seq kP [] (nat_lit 23),.seq kP [] (nat_lit 23)]
noncomputable abbrev dhull_S8 (y1 y2:L3):St := St.mk (nn 4 (some (SV.sl (nat_lit 0)) :: some (SV.sl (nat_lit 1)) :: nn 134 ([]))) [.seq kP y1 (nat_lit 23),.seq kP y2 (nat_lit 23)]
noncomputable abbrev dhull_S9:St := St.mk (some (SV.ros undef kP []) :: nn 3 (some (SV.sl (nat_lit 0)) :: some (SV.sl (nat_lit 1)) :: some (SV.int .i64 (0:Int)) :: nn 133 ([]))) [.seq kP [] (nat_lit 23),.seq kP [] (nat_lit 23)]
abbrev dhull_P1:List Bool := [false,true,true,true,true,true,true,true,true,false,false,true,false,false,true,false,false,true,false,false,true,false,false,true,false,false,true,false,true,true,true]
abbrev dhull_P2:List Bool := [false,true,false,false,true,false,false,true,false,false,true,false,false,true,false,true,true,true]
abbrev dhull_P3:List Bool := [false,true,false,false,true,false,false,true,false,true,true,true]
abbrev dhull_P4:List Bool := [false,true,false,true,true,true]
noncomputable def M.dhull_l0_step {α:Type} (x54:L3) (kn:Int → L3 → Option α) (k1:L3 → Option α) (x51:Int) (x53:L3):Option α := if cLt x51 (3:Int) = true then if (0:Int) ≤ x51 ∧ x51 < (↑(List.length x54):Int) then if V.lenB (List.length x53) = true then if (!V.has2 x53 (List.getD x54 (Int.toNat x51) ((0:Int),(0:Int),(0:Int))) true) = true then if (0:Int) ≤ x51 ∧ x51 < (↑(List.length x54):Int) then if (List.length x53 + ((0:Nat) + (1:Nat))) * (24:Nat) ≤ (140737488355328:Nat) then kn (IntKind.wrap .i64 (x51 + (1:Int))) (x53 ++ [List.getD x54 (Int.toNat x51) ((0:Int),(0:Int),(0:Int))]) else none else none else kn (IntKind.wrap .i64 (x51 + (1:Int))) x53 else none else none else k1 x53
noncomputable def M.dhull_l0 {α:Type} (x54:L3) (k1:L3 → Option α):Nat → Int → L3 → Option α
 | 0,_,_ => none
 | n + 1,x51,x53 => M.dhull_l0_step x54 (M.dhull_l0 x54 k1 n) k1 x51 x53
theorem dhull_l0_step_eq {α:Type} (x46:Value) (x47:L3) (x48 x49 x50 x51:Int) (x52 x53 x54:L3) (Q:Ex → St → Option α):(loopStep E (exec E look_dside noLps 400) 10 dhull_P1 0 (codeAt E.P 10 dhull_P1)) (dhull_S1 x46 x47 x48 x49 x50 x51 x52 x53 x54) Q = M.dhull_l0_step x54 (fun (x56:Int) (x57:L3) => Q .normal (dhull_S1 x46 x47 x48 x49 x50 x56 x52 x57 x54)) (fun (x55:L3) => Q (.exit 6) (dhull_S2 x46 x47 x48 x49 x50 x52 x55)) x51 x53 := by kernel_rfl
theorem dhull_l0_iter {α:Type} (x46:Value) (x47:L3) (x48 x49 x50:Int) (x52 x54:L3) (Q:Ex → St → Option α):∀ (n:Nat) (x51:Int) (x53:L3),iter (loopStep E (exec E look_dside noLps 400) 10 dhull_P1 0 (codeAt E.P 10 dhull_P1)) n (dhull_S1 x46 x47 x48 x49 x50 x51 x52 x53 x54) Q = M.dhull_l0 x54 (fun (x55:L3) => Q (.exit 6) (dhull_S2 x46 x47 x48 x49 x50 x52 x55)) n x51 x53
 | 0,_,_ => rfl
 | n + 1,x51,x53 => (dhull_l0_step_eq x46 x47 x48 x49 x50 x51 x52 x53 x54 (iterK (loopStep E (exec E look_dside noLps 400) 10 dhull_P1 0 (codeAt E.P 10 dhull_P1)) n Q)).trans (congrArg (fun kn => M.dhull_l0_step x54 kn (fun (x55:L3) => Q (.exit 6) (dhull_S2 x46 x47 x48 x49 x50 x52 x55)) x51 x53) (funext fun x51 => funext fun x53 => dhull_l0_iter x46 x47 x48 x49 x50 x52 x54 Q n x51 x53))
noncomputable def dhull_l0_go {α:Type} (ds:List D) (Q:Ex → St → Option α):Option α :=
 dV ds fun x46 ds => dL kP ds fun x47 ds => dI ds fun x48 ds => dI ds fun x49 ds => dI ds fun x50 ds => dI ds fun x51 ds => dL kP ds fun x52 ds => dL kP ds fun x53 ds => dL kP ds fun x54 ds => dE ds (M.dhull_l0 x54 (fun (x55:L3) => Q (.exit 6) (dhull_S2 x46 x47 x48 x49 x50 x52 x55)) (100 + x47.length + x52.length + x53.length + x54.length) x51 x53)
theorem dhull_l0_ok {α:Type}:LoopOk E.P 10 dhull_P1 0 (lEnt (α := α) (dhull_S3) dhull_l0_go) :=
 lEnt_ok E (exec_sound E E_ok (look_dside_ok) (noLps_ok _) 400) fun ds Q r h S hS => by
   unfold dhull_l0_go at h
   obtain ⟨x46,ds,rfl,h1⟩ := dV_inv h
   obtain ⟨x47,ds,rfl,h2⟩ := dL_inv h1
   obtain ⟨x48,ds,rfl,h3⟩ := dI_inv h2
   obtain ⟨x49,ds,rfl,h4⟩ := dI_inv h3
   obtain ⟨x50,ds,rfl,h5⟩ := dI_inv h4
   obtain ⟨x51,ds,rfl,h6⟩ := dI_inv h5
   obtain ⟨x52,ds,rfl,h7⟩ := dL_inv h6
   obtain ⟨x53,ds,rfl,h8⟩ := dL_inv h7
   obtain ⟨x54,ds,rfl,h9⟩ := dL_inv h8
   obtain ⟨rfl,hE⟩ := dE_inv h9
   have e:fillS (dhull_S3) [.v x46,.l kP x47,.i x48,.i x49,.i x50,.i x51,.l kP x52,.l kP x53,.l kP x54] = some (dhull_S1 x46 x47 x48 x49 x50 x51 x52 x53 x54) := by kernel_rfl
   rw [e] at hS
   cases hS
   exact ⟨_,(dhull_l0_iter x46 x47 x48 x49 x50 x52 x54 Q _ x51 x53).trans hE⟩
noncomputable def dhull_l0_lps {α:Type}:LookL α := addLp 10 dhull_P1 0 (lEnt (dhull_S3) dhull_l0_go) noLps
theorem dhull_l0_lps_ok {α:Type}:LoopsOk E.P (dhull_l0_lps (α := α)) := addLp_ok dhull_l0_ok (noLps_ok _)
noncomputable def M.dhull_l1_step {α:Type} (x59:L3) (x60 x61:Int) (kn:Int → L3 → L3 → Option α) (k1:L3 → L3 → Option α) (x62:Int) (x63 x64:L3):Option α := let s67:Nat := List.length x59; let s68:Nat := List.length x64; let s69:Nat := List.length x63; let s70:Int := (↑s67:Int); let s71:K.T kP := List.getD x59 (Int.toNat x61) ((0:Int),(0:Int),(0:Int)); let s72:K.T kP := List.getD x59 (Int.toNat x60) ((0:Int),(0:Int),(0:Int)); let s73:P3 := V.pSub (List.getD x59 (Int.toNat x62) ((0:Int),(0:Int),(0:Int))) s72; let s74:P3 := V.pSub s71 s72; let s75:P3 := V.pCross s74 s73; let s76:Int := Prod.fst s75; let s77:Int × Int := Prod.snd s75; let s78:Int := Prod.snd s77; let s79:Int := Prod.fst s77; let s80:Int := V.sideP x59 s75 s72; let s81:P3 := V.pShort (IntKind.wrap .i64 (s80 * s76),IntKind.wrap .i64 (s80 * s79),IntKind.wrap .i64 (s80 * s78)); let s82:List (K.T kP) := x63 ++ [s81]; if cLt x62 s70 = true then if (0:Int) ≤ x60 ∧ x60 < s70 then if (0:Int) ≤ x61 ∧ x61 < s70 then if (0:Int) ≤ x62 ∧ x62 < s70 then if (0:Int) ≤ x60 ∧ x60 < s70 then if V.lenB (List.length x59) = true then if (cEq s76 (0:Int) && (cEq s79 (0:Int) && (cEq s78 (0:Int) && true))) = true then kn (IntKind.wrap .i64 (x62 + (1:Int))) x63 x64 else if cEq s80 (0:Int) = true then kn (IntKind.wrap .i64 (x62 + (1:Int))) x63 x64 else if V.lenB (List.length x63) = true then if (!V.has2 x63 s81 false) = true then if (s69 + ((0:Nat) + (1:Nat))) * (24:Nat) ≤ (140737488355328:Nat) then if (0:Int) ≤ x61 ∧ x61 < s70 then if (0:Int) ≤ x60 ∧ x60 < s70 then if (0:Int) ≤ x62 ∧ x62 < s70 then if (0:Int) ≤ x60 ∧ x60 < s70 then if (0:Int) ≤ x62 ∧ x62 < s70 then if (0:Int) ≤ x61 ∧ x61 < s70 then M.dhull_l0 [V.pShort s74,V.pShort s73,V.pShort (V.pSub (List.getD x59 (Int.toNat x62) ((0:Int),(0:Int),(0:Int))) s71)] (fun (x65:L3) ↦ kn (IntKind.wrap .i64 (x62 + (1:Int))) s82 x65) ((100:Nat) + s67 + List.length s82 + s68 + ((2:Nat) + (1:Nat))) (0:Int) x64 else none else none else none else none else none else none else none else if (0:Int) ≤ x61 ∧ x61 < s70 then if (0:Int) ≤ x60 ∧ x60 < s70 then if (0:Int) ≤ x62 ∧ x62 < s70 then if (0:Int) ≤ x60 ∧ x60 < s70 then if (0:Int) ≤ x62 ∧ x62 < s70 then if (0:Int) ≤ x61 ∧ x61 < s70 then M.dhull_l0 [V.pShort s74,V.pShort s73,V.pShort (V.pSub (List.getD x59 (Int.toNat x62) ((0:Int),(0:Int),(0:Int))) s71)] (fun (x66:L3) ↦ kn (IntKind.wrap .i64 (x62 + (1:Int))) x63 x66) ((100:Nat) + s67 + s69 + s68 + ((2:Nat) + (1:Nat))) (0:Int) x64 else none else none else none else none else none else none else none else none else none else none else none else none else k1 x63 x64
noncomputable def M.dhull_l1 {α:Type} (x59:L3) (x60 x61:Int) (k1:L3 → L3 → Option α):Nat → Int → L3 → L3 → Option α
 | 0,_,_,_ => none
 | n + 1,x62,x63,x64 => M.dhull_l1_step x59 x60 x61 (M.dhull_l1 x59 x60 x61 k1 n) k1 x62 x63 x64
theorem dhull_l1_step_eq {α:Type} (x58:Value) (x59:L3) (x60 x61 x62:Int) (x63 x64:L3) (Q:Ex → St → Option α):(loopStep E (exec E look_dside dhull_l0_lps 400) 10 dhull_P2 0 (codeAt E.P 10 dhull_P2)) (dhull_S2 x58 x59 x60 x61 x62 x63 x64) Q = M.dhull_l1_step x59 x60 x61 (fun (x85:Int) (x86 x87:L3) => Q .normal (dhull_S2 x58 x59 x60 x61 x85 x86 x87)) (fun (x83 x84:L3) => Q (.exit 4) (dhull_S4 x58 x59 x60 x61 x83 x84)) x62 x63 x64 := by kernel_rfl
theorem dhull_l1_iter {α:Type} (x58:Value) (x59:L3) (x60 x61:Int) (Q:Ex → St → Option α):∀ (n:Nat) (x62:Int) (x63 x64:L3),iter (loopStep E (exec E look_dside dhull_l0_lps 400) 10 dhull_P2 0 (codeAt E.P 10 dhull_P2)) n (dhull_S2 x58 x59 x60 x61 x62 x63 x64) Q = M.dhull_l1 x59 x60 x61 (fun (x83 x84:L3) => Q (.exit 4) (dhull_S4 x58 x59 x60 x61 x83 x84)) n x62 x63 x64
 | 0,_,_,_ => rfl
 | n + 1,x62,x63,x64 => (dhull_l1_step_eq x58 x59 x60 x61 x62 x63 x64 (iterK (loopStep E (exec E look_dside dhull_l0_lps 400) 10 dhull_P2 0 (codeAt E.P 10 dhull_P2)) n Q)).trans (congrArg (fun kn => M.dhull_l1_step x59 x60 x61 kn (fun (x83 x84:L3) => Q (.exit 4) (dhull_S4 x58 x59 x60 x61 x83 x84)) x62 x63 x64) (funext fun x62 => funext fun x63 => funext fun x64 => dhull_l1_iter x58 x59 x60 x61 Q n x62 x63 x64))
noncomputable def dhull_l1_go {α:Type} (ds:List D) (Q:Ex → St → Option α):Option α :=
 dV ds fun x58 ds => dL kP ds fun x59 ds => dI ds fun x60 ds => dI ds fun x61 ds => dI ds fun x62 ds => dL kP ds fun x63 ds => dL kP ds fun x64 ds => dE ds (M.dhull_l1 x59 x60 x61 (fun (x83 x84:L3) => Q (.exit 4) (dhull_S4 x58 x59 x60 x61 x83 x84)) (100 + x59.length + x63.length + x64.length) x62 x63 x64)
theorem dhull_l1_ok {α:Type}:LoopOk E.P 10 dhull_P2 0 (lEnt (α := α) (dhull_S5) dhull_l1_go) :=
 lEnt_ok E (exec_sound E E_ok (look_dside_ok) (dhull_l0_lps_ok) 400) fun ds Q r h S hS => by
   unfold dhull_l1_go at h
   obtain ⟨x58,ds,rfl,h1⟩ := dV_inv h
   obtain ⟨x59,ds,rfl,h2⟩ := dL_inv h1
   obtain ⟨x60,ds,rfl,h3⟩ := dI_inv h2
   obtain ⟨x61,ds,rfl,h4⟩ := dI_inv h3
   obtain ⟨x62,ds,rfl,h5⟩ := dI_inv h4
   obtain ⟨x63,ds,rfl,h6⟩ := dL_inv h5
   obtain ⟨x64,ds,rfl,h7⟩ := dL_inv h6
   obtain ⟨rfl,hE⟩ := dE_inv h7
   have e:fillS (dhull_S5) [.v x58,.l kP x59,.i x60,.i x61,.i x62,.l kP x63,.l kP x64] = some (dhull_S2 x58 x59 x60 x61 x62 x63 x64) := by kernel_rfl
   rw [e] at hS
   cases hS
   exact ⟨_,(dhull_l1_iter x58 x59 x60 x61 Q _ x62 x63 x64).trans hE⟩
noncomputable def dhull_l1_lps {α:Type}:LookL α := addLp 10 dhull_P2 0 (lEnt (dhull_S5) dhull_l1_go) dhull_l0_lps
theorem dhull_l1_lps_ok {α:Type}:LoopsOk E.P (dhull_l1_lps (α := α)) := addLp_ok dhull_l1_ok (dhull_l0_lps_ok)
noncomputable def M.dhull_l2_step {α:Type} (x89:L3) (x90:Int) (kn:Int → L3 → L3 → Option α) (k1:L3 → L3 → Option α) (x91:Int) (x92 x93:L3):Option α := if cLt x91 (↑(List.length x89):Int) = true then M.dhull_l1 x89 x90 x91 (fun (x94 x95:L3) ↦ kn (IntKind.wrap .i64 (x91 + (1:Int))) x94 x95) ((100:Nat) + List.length x89 + List.length x92 + List.length x93) (IntKind.wrap .i64 (x91 + (1:Int))) x92 x93 else k1 x92 x93
noncomputable def M.dhull_l2 {α:Type} (x89:L3) (x90:Int) (k1:L3 → L3 → Option α):Nat → Int → L3 → L3 → Option α
 | 0,_,_,_ => none
 | n + 1,x91,x92,x93 => M.dhull_l2_step x89 x90 (M.dhull_l2 x89 x90 k1 n) k1 x91 x92 x93
theorem dhull_l2_step_eq {α:Type} (x88:Value) (x89:L3) (x90 x91:Int) (x92 x93:L3) (Q:Ex → St → Option α):(loopStep E (exec E look_dside dhull_l1_lps 400) 10 dhull_P3 0 (codeAt E.P 10 dhull_P3)) (dhull_S4 x88 x89 x90 x91 x92 x93) Q = M.dhull_l2_step x89 x90 (fun (x98:Int) (x99 x100:L3) => Q .normal (dhull_S4 x88 x89 x90 x98 x99 x100)) (fun (x96 x97:L3) => Q (.exit 2) (dhull_S6 x88 x89 x90 x96 x97)) x91 x92 x93 := by kernel_rfl
theorem dhull_l2_iter {α:Type} (x88:Value) (x89:L3) (x90:Int) (Q:Ex → St → Option α):∀ (n:Nat) (x91:Int) (x92 x93:L3),iter (loopStep E (exec E look_dside dhull_l1_lps 400) 10 dhull_P3 0 (codeAt E.P 10 dhull_P3)) n (dhull_S4 x88 x89 x90 x91 x92 x93) Q = M.dhull_l2 x89 x90 (fun (x96 x97:L3) => Q (.exit 2) (dhull_S6 x88 x89 x90 x96 x97)) n x91 x92 x93
 | 0,_,_,_ => rfl
 | n + 1,x91,x92,x93 => (dhull_l2_step_eq x88 x89 x90 x91 x92 x93 (iterK (loopStep E (exec E look_dside dhull_l1_lps 400) 10 dhull_P3 0 (codeAt E.P 10 dhull_P3)) n Q)).trans (congrArg (fun kn => M.dhull_l2_step x89 x90 kn (fun (x96 x97:L3) => Q (.exit 2) (dhull_S6 x88 x89 x90 x96 x97)) x91 x92 x93) (funext fun x91 => funext fun x92 => funext fun x93 => dhull_l2_iter x88 x89 x90 Q n x91 x92 x93))
noncomputable def dhull_l2_go {α:Type} (ds:List D) (Q:Ex → St → Option α):Option α :=
 dV ds fun x88 ds => dL kP ds fun x89 ds => dI ds fun x90 ds => dI ds fun x91 ds => dL kP ds fun x92 ds => dL kP ds fun x93 ds => dE ds (M.dhull_l2 x89 x90 (fun (x96 x97:L3) => Q (.exit 2) (dhull_S6 x88 x89 x90 x96 x97)) (100 + x89.length + x92.length + x93.length) x91 x92 x93)
theorem dhull_l2_ok {α:Type}:LoopOk E.P 10 dhull_P3 0 (lEnt (α := α) (dhull_S7) dhull_l2_go) :=
 lEnt_ok E (exec_sound E E_ok (look_dside_ok) (dhull_l1_lps_ok) 400) fun ds Q r h S hS => by
   unfold dhull_l2_go at h
   obtain ⟨x88,ds,rfl,h1⟩ := dV_inv h
   obtain ⟨x89,ds,rfl,h2⟩ := dL_inv h1
   obtain ⟨x90,ds,rfl,h3⟩ := dI_inv h2
   obtain ⟨x91,ds,rfl,h4⟩ := dI_inv h3
   obtain ⟨x92,ds,rfl,h5⟩ := dL_inv h4
   obtain ⟨x93,ds,rfl,h6⟩ := dL_inv h5
   obtain ⟨rfl,hE⟩ := dE_inv h6
   have e:fillS (dhull_S7) [.v x88,.l kP x89,.i x90,.i x91,.l kP x92,.l kP x93] = some (dhull_S4 x88 x89 x90 x91 x92 x93) := by kernel_rfl
   rw [e] at hS
   cases hS
   exact ⟨_,(dhull_l2_iter x88 x89 x90 Q _ x91 x92 x93).trans hE⟩
noncomputable def dhull_l2_lps {α:Type}:LookL α := addLp 10 dhull_P3 0 (lEnt (dhull_S7) dhull_l2_go) dhull_l1_lps
theorem dhull_l2_lps_ok {α:Type}:LoopsOk E.P (dhull_l2_lps (α := α)) := addLp_ok dhull_l2_ok (dhull_l1_lps_ok)
noncomputable def M.dhull_l3_step {α:Type} (x102:L3) (kn:Int → L3 → L3 → Option α) (k1:L3 → L3 → Option α) (x103:Int) (x104 x105:L3):Option α := if cLt x103 (↑(List.length x102):Int) = true then M.dhull_l2 x102 x103 (fun (x106 x107:L3) ↦ kn (IntKind.wrap .i64 (x103 + (1:Int))) x106 x107) ((100:Nat) + List.length x102 + List.length x104 + List.length x105) (IntKind.wrap .i64 (x103 + (1:Int))) x104 x105 else k1 x104 x105
noncomputable def M.dhull_l3 {α:Type} (x102:L3) (k1:L3 → L3 → Option α):Nat → Int → L3 → L3 → Option α
 | 0,_,_,_ => none
 | n + 1,x103,x104,x105 => M.dhull_l3_step x102 (M.dhull_l3 x102 k1 n) k1 x103 x104 x105
theorem dhull_l3_step_eq {α:Type} (x101:Value) (x102:L3) (x103:Int) (x104 x105:L3) (Q:Ex → St → Option α):(loopStep E (exec E look_dside dhull_l2_lps 400) 10 dhull_P4 0 (codeAt E.P 10 dhull_P4)) (dhull_S6 x101 x102 x103 x104 x105) Q = M.dhull_l3_step x102 (fun (x110:Int) (x111 x112:L3) => Q .normal (dhull_S6 x101 x102 x110 x111 x112)) (fun (x108 x109:L3) => Q (.exit 0) (dhull_S8 x108 x109)) x103 x104 x105 := by kernel_rfl
theorem dhull_l3_iter {α:Type} (x101:Value) (x102:L3) (Q:Ex → St → Option α):∀ (n:Nat) (x103:Int) (x104 x105:L3),iter (loopStep E (exec E look_dside dhull_l2_lps 400) 10 dhull_P4 0 (codeAt E.P 10 dhull_P4)) n (dhull_S6 x101 x102 x103 x104 x105) Q = M.dhull_l3 x102 (fun (x108 x109:L3) => Q (.exit 0) (dhull_S8 x108 x109)) n x103 x104 x105
 | 0,_,_,_ => rfl
 | n + 1,x103,x104,x105 => (dhull_l3_step_eq x101 x102 x103 x104 x105 (iterK (loopStep E (exec E look_dside dhull_l2_lps 400) 10 dhull_P4 0 (codeAt E.P 10 dhull_P4)) n Q)).trans (congrArg (fun kn => M.dhull_l3_step x102 kn (fun (x108 x109:L3) => Q (.exit 0) (dhull_S8 x108 x109)) x103 x104 x105) (funext fun x103 => funext fun x104 => funext fun x105 => dhull_l3_iter x101 x102 Q n x103 x104 x105))
noncomputable def dhull_l3_go {α:Type} (ds:List D) (Q:Ex → St → Option α):Option α :=
 dV ds fun x101 ds => dL kP ds fun x102 ds => dI ds fun x103 ds => dL kP ds fun x104 ds => dL kP ds fun x105 ds => dE ds (M.dhull_l3 x102 (fun (x108 x109:L3) => Q (.exit 0) (dhull_S8 x108 x109)) (100 + x102.length + x104.length + x105.length) x103 x104 x105)
theorem dhull_l3_ok {α:Type}:LoopOk E.P 10 dhull_P4 0 (lEnt (α := α) (dhull_S9) dhull_l3_go) :=
 lEnt_ok E (exec_sound E E_ok (look_dside_ok) (dhull_l2_lps_ok) 400) fun ds Q r h S hS => by
   unfold dhull_l3_go at h
   obtain ⟨x101,ds,rfl,h1⟩ := dV_inv h
   obtain ⟨x102,ds,rfl,h2⟩ := dL_inv h1
   obtain ⟨x103,ds,rfl,h3⟩ := dI_inv h2
   obtain ⟨x104,ds,rfl,h4⟩ := dL_inv h3
   obtain ⟨x105,ds,rfl,h5⟩ := dL_inv h4
   obtain ⟨rfl,hE⟩ := dE_inv h5
   have e:fillS (dhull_S9) [.v x101,.l kP x102,.i x103,.l kP x104,.l kP x105] = some (dhull_S6 x101 x102 x103 x104 x105) := by kernel_rfl
   rw [e] at hS
   cases hS
   exact ⟨_,(dhull_l3_iter x101 x102 Q _ x103 x104 x105).trans hE⟩
noncomputable def dhull_l3_lps {α:Type}:LookL α := addLp 10 dhull_P4 0 (lEnt (dhull_S9) dhull_l3_go) dhull_l2_lps
theorem dhull_l3_lps_ok {α:Type}:LoopsOk E.P (dhull_l3_lps (α := α)) := addLp_ok dhull_l3_ok (dhull_l2_lps_ok)
noncomputable def M.dhull {α:Type} (l:L3) (k0:L3 → L3 → Option α):Option α := M.dhull_l3 l (fun (x114 x115:L3) ↦ k0 x114 x115) ((100:Nat) + List.length l + (0:Nat) + (0:Nat)) (0:Int) [] []
theorem dhull_eq {α:Type} (l:L3) (v113:Value) (Q:SV → Hp → Option α):callI E look_dside (exec E look_dside dhull_l3_lps 400) 10 ([SV.ros v113 kP l]) ([]) Q = M.dhull l (fun (x116 x117:L3) => Q (SV.tup [SV.sl (nat_lit 0),SV.sl (nat_lit 1)]) ([.seq kP x116 (nat_lit 23),.seq kP x117 (nat_lit 23)])) := by kernel_rfl
def dhull_sp:List AS := [.ro kP]
theorem pt_map (f:P3 → P3) (l:List P3) (i:Nat) (h:i < l.length):pt (l.map f) i = f (pt l i) := by simp [pt,List.getD_eq_getElem?_getD,h]
theorem hulE_val {α:Type} (es:List P3) (he:es.length = 3) (k1:List P3 → Option α):∀ (fuel i:Nat) (E:List P3),i ≤ 3 → 3 - i < fuel → E.length + (3 - i) < 1000000 →
   M.dhull_l0 (es.map V.pShort) k1 fuel (i:Int) E = k1 ((es.drop i).foldl addE E)
 | 0,i,E,h1,h2,h3 => by omega
 | f + 1,i,E,h1,h2,h3 => by
   unfold M.dhull_l0 M.dhull_l0_step
   rw [show cLt (i:Int) (3:Int) = decide (i < 3) from cLt_nat i 3]
   by_cases hi:i < 3
   · have a2 := addE_len E (pt es i)
     have hd := drop_pt es i (by omega)
     have hm:((es.map V.pShort).length:Int) = 3 := by simp [he]
     have hp:List.getD (es.map V.pShort) (Int.toNat (i:Int)) (0,0,0) = V.pShort (pt es i) := pt_map _ es i (by omega)
     rw [w_next (by omega),if_pos (by simpa using hi),hm,if_pos (by omega:(0:Int) ≤ (i:Int) ∧ (i:Int) < 3),if_pos (lenB_of (n := E.length) (by omega)),hp]
     rw [if_pos (by omega:(0:Int) ≤ (i:Int) ∧ (i:Int) < 3),if_pos (by omega:(E.length + (0 + 1)) * 24 ≤ 140737488355328),hd,List.foldl_cons]
     have e:∀ X,X = addE E (pt es i) → M.dhull_l0 (es.map V.pShort) k1 f ((i + 1:Nat):Int) X = k1 ((es.drop (i + 1)).foldl addE (addE E (pt es i))) := by
       intro X hX
       rw [hX]
       exact hulE_val es he k1 f (i + 1) _ (by omega) (by omega) (by omega)
     unfold V.has2 V.hasP
     by_cases c1:V.pShort (pt es i) ∈ E ∨ negP (V.pShort (pt es i)) ∈ E
     · rw [if_neg (by simp; intro h; exact c1.resolve_left h)]
       exact e E (by unfold addE; rw [if_pos c1])
     · rw [if_pos (by simp; exact ⟨fun h => c1 (.inl h), fun h => c1 (.inr h)⟩)]
       exact e _ (by unfold addE; rw [if_neg c1])
   · have : i = 3 := by omega
     subst this
     rw [if_neg (by simp),List.drop_of_length_le (by omega)]
     rfl
theorem has2_false (l:List P3) (p:P3):V.has2 l p false = V.hasP l p := by unfold V.has2; simp
theorem dtri_val {α:Type} (l:List P3) (hl:l.length ≤ 12) (i j k:Nat) (hi:i < l.length) (hj:j < l.length) (hk:k < l.length) (A E:List P3) (hA:A.length + E.length < 900000) (k1:List P3 → List P3 → Option α) (kn:Int → List P3 → List P3 → Option α) :
   M.dhull_l1_step l (i:Int) (j:Int) kn k1 (k:Int) A E = kn ((k + 1:Nat):Int) (trip l i j k (A,E)).1 (trip l i j k (A,E)).2 := by
 unfold M.dhull_l1_step
 try simp only
 have ci:(0:Int) ≤ (i:Int) ∧ (i:Int) < (l.length:Int) := by omega
 have cj:(0:Int) ≤ (j:Int) ∧ (j:Int) < (l.length:Int) := by omega
 have ck:(0:Int) ≤ (k:Int) ∧ (k:Int) < (l.length:Int) := by omega
 rw [cLt_nat,if_pos (by simpa using hk),if_pos ci,if_pos cj,if_pos ck,if_pos ci,if_pos (lenB_of (n := l.length) (by omega)),w_next (by omega)]
 have hN:(cEq (triN l i j k).1 (0:Int) && (cEq (triN l i j k).2.1 (0:Int) && (cEq (triN l i j k).2.2 (0:Int) && true))) = decide (triN l i j k = (0,0,0)) := eq3 _ _ _ (0,0,0)
 show (if (cEq (triN l i j k).1 (0:Int) && (cEq (triN l i j k).2.1 (0:Int) && (cEq (triN l i j k).2.2 (0:Int) && true))) = true then kn _ A E else if cEq (triS l i j k) 0 = true then kn _ A E else _) = _
 rw [hN,cEq_eq]
 by_cases c1:triN l i j k = (0,0,0)
 · have e : trip l i j k (A, E) = (A, E) := by unfold trip; rw [if_pos c1]
   rw [if_pos (by simpa using c1),e]
 · rw [if_neg (by simpa using c1)]
   by_cases c2:triS l i j k = 0
   · have e : trip l i j k (A, E) = (A, E) := by unfold trip; rw [if_neg c1, if_pos c2]
     rw [if_pos (by simpa using c2),e]
   · rw [if_neg (by simpa using c2), if_pos (lenB_of (n := A.length) (by omega))]
     have e:trip l i j k (A,E) = (if triA l i j k ∈ A then A else A ++ [triA l i j k],(triE l i j k).foldl addE E) := by unfold trip; rw [if_neg c1,if_neg c2]
     rw [e]
     show (if (!V.has2 A (triA l i j k) false) = true then _ else _) = _
     rw [has2_false]
     unfold V.hasP
     have h2:∀ (fuel:Nat) (k1:List P3 → Option α),3 < fuel → M.dhull_l0 ((triE l i j k).map V.pShort) k1 fuel (0:Int) E = k1 ((triE l i j k).foldl addE E) := by
       intro fuel k1 hf
       exact hulE_val (triE l i j k) rfl k1 fuel 0 E (Nat.zero_le _) (by omega) (by omega)
     by_cases c3:triA l i j k ∈ A
     · rw [if_neg (by simp [c3]), if_pos cj, if_pos ci, if_pos ck, if_pos ci, if_pos ck, if_pos cj, if_pos c3]
       refine (h2 _ _ (by omega)).trans ?_
       rfl
     · rw [if_pos (by simp [c3]),if_pos (by omega:(A.length + (0 + 1)) * 24 ≤ 140737488355328),if_pos cj,if_pos ci,if_pos ck,if_pos ci,if_pos ck,if_pos cj,if_neg c3]
       refine (h2 _ _ (by omega)).trans ?_
       rfl
theorem dk_val {α:Type} (l:List P3) (hl:l.length ≤ 12) (i j:Nat) (hi:i < l.length) (hj:j < l.length) (k1:List P3 → List P3 → Option α):∀ (fuel k:Nat) (st:St2),k ≤ l.length → l.length - k < fuel → sz2 st + 4 * (l.length - k) < 900000 →
   M.dhull_l1 l (i:Int) (j:Int) k1 fuel (k:Int) st.1 st.2 = k1 (kF l i j (l.length - k) k st).1 (kF l i j (l.length - k) k st).2
 | 0,k,st,h1,h2,h3 => by omega
 | fu + 1,k,st,h1,h2,h3 => by
   unfold M.dhull_l1
   by_cases hk:k < l.length
   · have hs := trip_len l i j k st
     rw [dtri_val l hl i j k hi hj hk _ _ (by unfold sz2 at h3; omega)]
     rw [dk_val l hl i j hi hj k1 fu (k + 1) (trip l i j k (st.1,st.2)) (by omega) (by omega) (by show sz2 (trip l i j k st) + _ < _; omega)]
     have hq:l.length - k = (l.length - (k + 1)) + 1 := by omega
     rw [hq]
     rfl
   · have hk' : k = l.length := by omega
     subst hk'
     unfold M.dhull_l1_step
     try simp only
     rw [cLt_nat,if_neg (by simp),Nat.sub_self]
     simp only [kF]
theorem dj_val {α:Type} (l:List P3) (hl:l.length ≤ 12) (i:Nat) (hi:i < l.length) (kk:List P3 → List P3 → Option α):∀ (fuel j:Nat) (st:St2),i < j → j ≤ l.length → l.length - j < fuel → sz2 st + 48 * (l.length - j) < 800000 →
   M.dhull_l2 l (i:Int) kk fuel (j:Int) st.1 st.2 = kk (jF l i (l.length - j) j st).1 (jF l i (l.length - j) j st).2
 | 0,j,st,h0,h1,h2,h3 => by omega
 | fu + 1,j,st,h0,h1,h2,h3 => by
   unfold M.dhull_l2 M.dhull_l2_step
   rw [cLt_nat]
   by_cases hj:j < l.length
   · have hs := kF_len l i j (l.length - (j + 1)) (j + 1) st
     rw [if_pos (by simpa using hj),w_next (by omega)]
     rw [dk_val l hl i j hi hj _ _ (j + 1) st (by omega) (by omega) (by omega)]
     have hq:l.length - j = (l.length - (j + 1)) + 1 := by omega
     rw [hq]
     simp only [jF]
     exact dj_val l hl i hi kk fu (j + 1) (kF l i j (l.length - (j + 1)) (j + 1) st) (by omega) (by omega) (by omega) (by omega)
   · have hj' : j = l.length := by omega
     subst hj'
     rw [if_neg (by simp),Nat.sub_self]
     simp only [jF]
theorem di_val {α:Type} (l:List P3) (hl:l.length ≤ 12) (k1:List P3 → List P3 → Option α):∀ (fuel i:Nat) (st:St2),i ≤ l.length → l.length - i < fuel → sz2 st + 576 * (l.length - i) < 700000 →
   M.dhull_l3 l k1 fuel (i:Int) st.1 st.2 = k1 (iF l (l.length - i) i st).1 (iF l (l.length - i) i st).2
 | 0,i,st,h1,h2,h3 => by omega
 | fu + 1,i,st,h1,h2,h3 => by
   unfold M.dhull_l3 M.dhull_l3_step
   rw [cLt_nat]
   by_cases hi:i < l.length
   · have hs := jF_len l i hl (l.length - (i + 1)) (i + 1) st
     rw [if_pos (by simpa using hi),w_next (by omega)]
     rw [dj_val l hl i hi _ _ (i + 1) st (by omega) (by omega) (by omega) (by omega)]
     have hq:l.length - i = (l.length - (i + 1)) + 1 := by omega
     rw [hq]
     simp only [iF]
     exact di_val l hl k1 fu (i + 1) (jF l i (l.length - (i + 1)) (i + 1) st) (by omega) (by omega) (by omega)
   · have hi' : i = l.length := by omega
     subst hi'
     rw [if_neg (by simp),Nat.sub_self]
     simp only [iF]
noncomputable def _root_.Go.Proofs.YtlagndfhibkjpaaGreat.V.hulG (l:List P3):Bool := V.gB (l.length ≤ 12)
noncomputable def _root_.Go.Proofs.YtlagndfhibkjpaaGreat.V.hulP (l:List P3):List P3 × List P3 := hid (facesP l)
theorem dhull_v {α:Type} (l:List P3) (hg:V.hulG l = true) (k0:List P3 → List P3 → Option α):M.dhull l k0 = k0 (V.hulP l).1 (V.hulP l).2 := by
 have hl := gB_iff hg
 unfold M.dhull V.hulP
 rw [hid_eq]
 exact di_val l hl k0 _ 0 ([],[]) (by omega) (by omega) (by show 0 + 576 * _ < 700000; omega)
noncomputable def dhull_h {α:Type} (ds:List D) (Q:SV → Hp → Option α):Option α :=
 dL kP ds fun l ds => dE ds (if V.hulG l = true then Q (.tup [.sl 0,.sl 1]) ([.seq (.st (.i .i64) [.i .i64,.i .i64]) (V.hulP l).1 23,.seq (.st (.i .i64) [.i .i64,.i .i64]) (V.hulP l).2 23]) else none)
theorem dhull_h_ok {α:Type}:FnOk E.P 10 (fEnt (α := α) dhull_sp dhull_h) :=
 fEntR_ok E (look_dside_ok) (exec_sound E E_ok (look_dside_ok) (dhull_l3_lps_ok) 400) fun ds Q r h => by
   unfold dhull_h at h
   obtain ⟨l,ds,rfl,h1⟩ := dL_inv h
   obtain ⟨rfl,hE⟩ := dE_inv h1
   split at hE
   · rename_i hg
     exact ⟨_,_,hE,fun vs => ⟨_,_,by kernel_rfl,(dhull_eq l (vs.headD undef) _).trans (dhull_v l hg _)⟩⟩
   · cases hE
noncomputable def look_dhull {α:Type}:LookF α := addFn 10 (fEnt dhull_sp dhull_h) look_dside
theorem look_dhull_ok {α:Type}:LookOk E.P (look_dhull (α := α)) := addFn_ok dhull_h_ok (look_dside_ok)
end
section
open Go
set_option maxRecDepth 20000
noncomputable def look_SrI_radd {α:Type}:LookF α := addFn 87 (fEnt radd_sp radd_h) look_dhull
theorem look_SrI_radd_ok {α:Type}:LookOk E.P (look_SrI_radd (α := α)) := addFn_ok radd_h_ok (look_dhull_ok)
noncomputable def look_SrI_rratio {α:Type}:LookF α := addFn 84 (fEnt rratio_sp rratio_h) look_SrI_radd
theorem look_SrI_rratio_ok {α:Type}:LookOk E.P (look_SrI_rratio (α := α)) := addFn_ok rratio_h_ok (look_SrI_radd_ok)
noncomputable abbrev dcore_S1 (y1 y2 y3 y4 y5 y6:Int) (y7:Value) (y8:L3) (y9:Int) (y10 y11 y12:L3) (y13:Int) (y14 y15 y16:L3):St := St.mk (none :: some (SV.ptr (nat_lit 0) (nat_lit 0)) :: some (SV.ptr (nat_lit 1) (nat_lit 0)) :: none :: none :: some (SV.ptr (nat_lit 5) (nat_lit 0)) :: some (SV.int .i64 y1) :: nn 98 ([])) [.cells [SV.int .i64 y2,SV.int .i64 y3,SV.int .i64 y4,SV.int .i64 y5,SV.int .i64 y6,SV.ros y7 kP y8] (nat_lit 37),.cells [SV.sl (nat_lit 2),SV.sl (nat_lit 3),SV.sl (nat_lit 4),SV.int .i64 y9] (nat_lit 33),.seq kP y10 (nat_lit 23),.seq kP y11 (nat_lit 23),.seq kP y12 (nat_lit 23),.cells [SV.sl (nat_lit 6),SV.sl (nat_lit 7),SV.sl (nat_lit 8),SV.int .i64 y13] (nat_lit 33),.seq kP y14 (nat_lit 23),.seq kP y15 (nat_lit 23),.seq kP y16 (nat_lit 23)]
noncomputable abbrev dcore_S2 (y1:Int) (y2 y3 y4:L3) (y5:Int) (y6 y7 y8:L3):St := St.mk (none :: none :: some (SV.ptr (nat_lit 0) (nat_lit 0)) :: none :: none :: some (SV.ptr (nat_lit 4) (nat_lit 0)) :: nn 99 ([])) [.cells [SV.sl (nat_lit 1),SV.sl (nat_lit 2),SV.sl (nat_lit 3),SV.int .i64 y1] (nat_lit 33),.seq kP y2 (nat_lit 23),.seq kP y3 (nat_lit 23),.seq kP y4 (nat_lit 23),.cells [SV.sl (nat_lit 5),SV.sl (nat_lit 6),SV.sl (nat_lit 7),SV.int .i64 y5] (nat_lit 33),.seq kP y6 (nat_lit 23),.seq kP y7 (nat_lit 23),.seq kP y8 (nat_lit 23)]
noncomputable abbrev dcore_S3:St := St.mk (none :: some (SV.ptr (nat_lit 0) (nat_lit 0)) :: some (SV.ptr (nat_lit 1) (nat_lit 0)) :: none :: none :: some (SV.ptr (nat_lit 5) (nat_lit 0)) :: some (SV.int .i64 (0:Int)) :: nn 98 ([])) [.cells [SV.int .i64 (0:Int),SV.int .i64 (0:Int),SV.int .i64 (0:Int),SV.int .i64 (0:Int),SV.int .i64 (0:Int),SV.ros undef kP []] (nat_lit 37),.cells [SV.sl (nat_lit 2),SV.sl (nat_lit 3),SV.sl (nat_lit 4),SV.int .i64 (0:Int)] (nat_lit 33),.seq kP [] (nat_lit 23),.seq kP [] (nat_lit 23),.seq kP [] (nat_lit 23),.cells [SV.sl (nat_lit 6),SV.sl (nat_lit 7),SV.sl (nat_lit 8),SV.int .i64 (0:Int)] (nat_lit 33),.seq kP [] (nat_lit 23),.seq kP [] (nat_lit 23),.seq kP [] (nat_lit 23)]
abbrev dcore_P1:List Bool := [false,true,false,false,true,true,true,true,true,false,true,false,true,true,true,true]
noncomputable def M.dcore_l0_step {α:Type} (x20 x21 x22:Int) (kn:Int → L3 → Option α) (k1:L3 → Option α) (x17:Int) (x30:L3):Option α := if cLt x17 (8:Int) = true then if (List.length x30 + ((0:Nat) + (1:Nat))) * (24:Nat) ≤ (140737488355328:Nat) then kn (IntKind.wrap .i64 (x17 + (1:Int))) (x30 ++ [(IntKind.wrap .i64 (IntKind.wrap .i64 (IntKind.wrap .i64 (IntKind.wrap .i64 (Int.tdiv x17 (4:Int)) * (2:Int)) - (1:Int)) * x20),IntKind.wrap .i64 (IntKind.wrap .i64 (IntKind.wrap .i64 (Int.tmod (IntKind.wrap .i64 (Int.tdiv x17 (2:Int))) (2:Int) * (2:Int)) - (1:Int)) * x21),IntKind.wrap .i64 (IntKind.wrap .i64 (IntKind.wrap .i64 (Int.tmod x17 (2:Int) * (2:Int)) - (1:Int)) * x22))]) else none else k1 x30
noncomputable def M.dcore_l0 {α:Type} (x20 x21 x22:Int) (k1:L3 → Option α):Nat → Int → L3 → Option α
 | 0,_,_ => none
 | n + 1,x17,x30 => M.dcore_l0_step x20 x21 x22 (M.dcore_l0 x20 x21 x22 k1 n) k1 x17 x30
theorem dcore_l0_step_eq {α:Type} (x17 x18 x19 x20 x21 x22:Int) (x23:Value) (x24:L3) (x25:Int) (x26 x27 x28:L3) (x29:Int) (x30 x31 x32:L3) (Q:Ex → St → Option α):(loopStep E (exec E look_SrI_rratio noLps 400) 4 dcore_P1 0 (codeAt E.P 4 dcore_P1)) (dcore_S1 x17 x18 x19 x20 x21 x22 x23 x24 x25 x26 x27 x28 x29 x30 x31 x32) Q = M.dcore_l0_step x20 x21 x22 (fun (x34:Int) (x35:L3) => Q .normal (dcore_S1 x34 x18 x19 x20 x21 x22 x23 x24 x25 x26 x27 x28 x29 x35 x31 x32)) (fun (x33:L3) => Q (.exit 1) (dcore_S2 x25 x26 x27 x28 x29 x33 x31 x32)) x17 x30 := by kernel_rfl
theorem dcore_l0_iter {α:Type} (x18 x19 x20 x21 x22:Int) (x23:Value) (x24:L3) (x25:Int) (x26 x27 x28:L3) (x29:Int) (x31 x32:L3) (Q:Ex → St → Option α):∀ (n:Nat) (x17:Int) (x30:L3),iter (loopStep E (exec E look_SrI_rratio noLps 400) 4 dcore_P1 0 (codeAt E.P 4 dcore_P1)) n (dcore_S1 x17 x18 x19 x20 x21 x22 x23 x24 x25 x26 x27 x28 x29 x30 x31 x32) Q = M.dcore_l0 x20 x21 x22 (fun (x33:L3) => Q (.exit 1) (dcore_S2 x25 x26 x27 x28 x29 x33 x31 x32)) n x17 x30
 | 0,_,_ => rfl
 | n + 1,x17,x30 => (dcore_l0_step_eq x17 x18 x19 x20 x21 x22 x23 x24 x25 x26 x27 x28 x29 x30 x31 x32 (iterK (loopStep E (exec E look_SrI_rratio noLps 400) 4 dcore_P1 0 (codeAt E.P 4 dcore_P1)) n Q)).trans (congrArg (fun kn => M.dcore_l0_step x20 x21 x22 kn (fun (x33:L3) => Q (.exit 1) (dcore_S2 x25 x26 x27 x28 x29 x33 x31 x32)) x17 x30) (funext fun x17 => funext fun x30 => dcore_l0_iter x18 x19 x20 x21 x22 x23 x24 x25 x26 x27 x28 x29 x31 x32 Q n x17 x30))
noncomputable def dcore_l0_go {α:Type} (ds:List D) (Q:Ex → St → Option α):Option α :=
 dI ds fun x17 ds => dI ds fun x18 ds => dI ds fun x19 ds => dI ds fun x20 ds => dI ds fun x21 ds => dI ds fun x22 ds => dV ds fun x23 ds => dL kP ds fun x24 ds => dI ds fun x25 ds => dL kP ds fun x26 ds => dL kP ds fun x27 ds => dL kP ds fun x28 ds => dI ds fun x29 ds => dL kP ds fun x30 ds => dL kP ds fun x31 ds => dL kP ds fun x32 ds => dE ds (M.dcore_l0 x20 x21 x22 (fun (x33:L3) => Q (.exit 1) (dcore_S2 x25 x26 x27 x28 x29 x33 x31 x32)) (100 + x24.length + x26.length + x27.length + x28.length + x30.length + x31.length + x32.length) x17 x30)
theorem dcore_l0_ok {α:Type}:LoopOk E.P 4 dcore_P1 0 (lEnt (α := α) (dcore_S3) dcore_l0_go) :=
 lEnt_ok E (exec_sound E E_ok (look_SrI_rratio_ok) (noLps_ok _) 400) fun ds Q r h S hS => by
   unfold dcore_l0_go at h
   obtain ⟨x17,ds,rfl,h1⟩ := dI_inv h
   obtain ⟨x18,ds,rfl,h2⟩ := dI_inv h1
   obtain ⟨x19,ds,rfl,h3⟩ := dI_inv h2
   obtain ⟨x20,ds,rfl,h4⟩ := dI_inv h3
   obtain ⟨x21,ds,rfl,h5⟩ := dI_inv h4
   obtain ⟨x22,ds,rfl,h6⟩ := dI_inv h5
   obtain ⟨x23,ds,rfl,h7⟩ := dV_inv h6
   obtain ⟨x24,ds,rfl,h8⟩ := dL_inv h7
   obtain ⟨x25,ds,rfl,h9⟩ := dI_inv h8
   obtain ⟨x26,ds,rfl,h10⟩ := dL_inv h9
   obtain ⟨x27,ds,rfl,h11⟩ := dL_inv h10
   obtain ⟨x28,ds,rfl,h12⟩ := dL_inv h11
   obtain ⟨x29,ds,rfl,h13⟩ := dI_inv h12
   obtain ⟨x30,ds,rfl,h14⟩ := dL_inv h13
   obtain ⟨x31,ds,rfl,h15⟩ := dL_inv h14
   obtain ⟨x32,ds,rfl,h16⟩ := dL_inv h15
   obtain ⟨rfl,hE⟩ := dE_inv h16
   have e:fillS (dcore_S3) [.i x17,.i x18,.i x19,.i x20,.i x21,.i x22,.v x23,.l kP x24,.i x25,.l kP x26,.l kP x27,.l kP x28,.i x29,.l kP x30,.l kP x31,.l kP x32] = some (dcore_S1 x17 x18 x19 x20 x21 x22 x23 x24 x25 x26 x27 x28 x29 x30 x31 x32) := by kernel_rfl
   rw [e] at hS
   cases hS
   exact ⟨_,(dcore_l0_iter x18 x19 x20 x21 x22 x23 x24 x25 x26 x27 x28 x29 x31 x32 Q _ x17 x30).trans hE⟩
noncomputable def dcore_l0_lps {α:Type}:LookL α := addLp 4 dcore_P1 0 (lEnt (dcore_S3) dcore_l0_go) noLps
theorem dcore_l0_lps_ok {α:Type}:LoopsOk E.P (dcore_l0_lps (α := α)) := addLp_ok dcore_l0_ok (noLps_ok _)
noncomputable def M.dcore {α:Type} (k:Int) (r:Int) (hx:Int) (hy:Int) (hz:Int) (l:L3) (k0:Int → Int → L3 → L3 → L3 → Option α):Option α := if (!cEq (V.chk k r hx hy hz l) (0:Int)) = true then k0 (0:Int) (V.chk k r hx hy hz l) [] [] [] else if cEq k (1:Int) = true then k0 r (0:Int) [((0:Int),(0:Int),(0:Int))] [] [] else if cEq k (2:Int) = true then k0 r (0:Int) [(IntKind.wrap .i64 ((0:Int) - hx),(0:Int),(0:Int)),(hx,(0:Int),(0:Int))] [] [((1:Int),(0:Int),(0:Int))] else if cEq k (3:Int) = true then M.dcore_l0 hx hy hz (fun (x37:L3) ↦ k0 r (0:Int) x37 [((1:Int),(0:Int),(0:Int)),((0:Int),(1:Int),(0:Int)),((0:Int),(0:Int),(1:Int))] [((1:Int),(0:Int),(0:Int)),((0:Int),(1:Int),(0:Int)),((0:Int),(0:Int),(1:Int))]) ((100:Nat) + List.length l + (0:Nat) + (0:Nat) + (0:Nat) + (0:Nat) + (0:Nat) + (0:Nat)) (0:Int) [] else if ((0:Nat) + List.length l) * (24:Nat) ≤ (140737488355328:Nat) then if V.hulG l = true then k0 r (0:Int) ([] ++ l) (Prod.fst (V.hulP l)) (Prod.snd (V.hulP l)) else none else none
theorem dcore_eq {α:Type} (k:Int) (r:Int) (hx:Int) (hy:Int) (hz:Int) (l:L3) (v36:Value) (Q:SV → Hp → Option α):callI E look_SrI_rratio (exec E look_SrI_rratio dcore_l0_lps 400) 4 ([SV.agg [SV.int .i64 k,SV.int .i64 r,SV.int .i64 hx,SV.int .i64 hy,SV.int .i64 hz,SV.ros v36 kP l]]) ([]) Q = M.dcore k r hx hy hz l (fun (x38 x39:Int) (x40 x41 x42:L3) => Q (SV.tup [SV.agg [SV.sl (nat_lit 0),SV.sl (nat_lit 1),SV.sl (nat_lit 2),SV.int .i64 x38],SV.int .i64 x39]) ([.seq kP x40 (nat_lit 23),.seq kP x41 (nat_lit 23),.seq kP x42 (nat_lit 23)])) := by kernel_rfl
def dcore_sp:List AS := [.st [.leaf (.int .i64 0),.leaf (.int .i64 0),.leaf (.int .i64 0),.leaf (.int .i64 0),.leaf (.int .i64 0),.ro (.st (.i .i64) [.i .i64,.i .i64])]]
theorem dbrick_val {α:Type} (hx hy hz:Int) (x1:-65536 ≤ hx ∧ hx ≤ 65536) (y1:-65536 ≤ hy ∧ hy ≤ 65536) (z1:-65536 ≤ hz ∧ hz ≤ 65536) (k1:List P3 → Option α) (fuel:Nat) (hf:9 ≤ fuel) :
   M.dcore_l0 hx hy hz k1 fuel 0 [] = k1 (brickP hx hy hz) := by
 obtain ⟨f,rfl⟩:∃ f,fuel = f + 9 := ⟨fuel - 9,by omega⟩
 have w:∀ n:Int,0 ≤ n → n ≤ 8 → IntKind.wrap .i64 (n + 1) = n + 1 := by intro n h1 h2; exact IntWalk.i64_in _ (by omega)
 have q:∀ (m n:Nat),m < 100 → n < 10 → (m + n) * 24 ≤ 140737488355328 := by intro m n h1 h2; omega
 have nx:IntKind.wrap .i64 (-1 * hx) = -hx := by rw [IntWalk.i64_in _ (by omega)]; omega
 have ny:IntKind.wrap .i64 (-1 * hy) = -hy := by rw [IntWalk.i64_in _ (by omega)]; omega
 have nz:IntKind.wrap .i64 (-1 * hz) = -hz := by rw [IntWalk.i64_in _ (by omega)]; omega
 have px:IntKind.wrap .i64 (1 * hx) = hx := by rw [IntWalk.i64_in _ (by omega)]; omega
 have py:IntKind.wrap .i64 (1 * hy) = hy := by rw [IntWalk.i64_in _ (by omega)]; omega
 have pz:IntKind.wrap .i64 (1 * hz) = hz := by rw [IntWalk.i64_in _ (by omega)]; omega
 have st:∀ (i:Int) (n:Nat) (X:List P3) (a b c:Int),0 ≤ i → i < 8 → X.length < 20 →
     IntKind.wrap .i64 (IntKind.wrap .i64 (IntKind.wrap .i64 (Int.tdiv i (4:Int)) * (2:Int)) - (1:Int)) = a →
     IntKind.wrap .i64 (IntKind.wrap .i64 (Int.tmod (IntKind.wrap .i64 (Int.tdiv i (2:Int))) (2:Int) * (2:Int)) - (1:Int)) = b →
     IntKind.wrap .i64 (IntKind.wrap .i64 (Int.tmod i (2:Int) * (2:Int)) - (1:Int)) = c →
     M.dcore_l0 hx hy hz k1 (n + 1) i X = M.dcore_l0 hx hy hz k1 n (i + 1) (X ++ [(IntKind.wrap .i64 (a * hx),IntKind.wrap .i64 (b * hy),IntKind.wrap .i64 (c * hz))]) := by
   intro i n X a b c h0 h8 hX ha hb hc
   show M.dcore_l0_step hx hy hz (M.dcore_l0 hx hy hz k1 n) k1 i X = _
   unfold M.dcore_l0_step
   rw [if_pos (by rw [cLt_eq]; simpa using h8),if_pos (q _ _ (by omega) (by decide)),w i h0 (by omega),ha,hb,hc]
 rw [st 0 (f + 8) [] (-1) (-1) (-1) (by decide) (by decide) (by decide) (by decide) (by decide) (by decide)]
 rw [st _ (f + 7) _ (-1) (-1) 1 (by decide) (by decide) (by simp) (by decide) (by decide) (by decide)]
 rw [st _ (f + 6) _ (-1) 1 (-1) (by decide) (by decide) (by simp) (by decide) (by decide) (by decide)]
 rw [st _ (f + 5) _ (-1) 1 1 (by decide) (by decide) (by simp) (by decide) (by decide) (by decide)]
 rw [st _ (f + 4) _ 1 (-1) (-1) (by decide) (by decide) (by simp) (by decide) (by decide) (by decide)]
 rw [st _ (f + 3) _ 1 (-1) 1 (by decide) (by decide) (by simp) (by decide) (by decide) (by decide)]
 rw [st _ (f + 2) _ 1 1 (-1) (by decide) (by decide) (by simp) (by decide) (by decide) (by decide)]
 rw [st _ (f + 1) _ 1 1 1 (by decide) (by decide) (by simp) (by decide) (by decide) (by decide)]
 show M.dcore_l0_step hx hy hz (M.dcore_l0 hx hy hz k1 f) k1 _ _ = _
 unfold M.dcore_l0_step
 rw [if_neg (by rw [cLt_eq]; decide),nx,ny,nz,px,py,pz]
 rfl
theorem dcore_v {α:Type} (k r hx hy hz:Int) (l:List P3) (k0:Int → Int → List P3 → List P3 → List P3 → Option α) :
   M.dcore k r hx hy hz l k0 = k0 (V.corR k r hx hy hz l) (V.chk k r hx hy hz l) (V.corP k r hx hy hz l) (V.corA k r hx hy hz l) (V.corE k r hx hy hz l) := by
 unfold M.dcore V.corR V.corP V.corA V.corE V.chk V.hulP
 simp only [hid_eq,cEq_eq]
 by_cases hc:chkP k r hx hy hz l = 0
 · simp only [hc, beq_self_eq_true, Bool.not_true, Bool.false_eq_true, if_false, if_true, beq_iff_eq]
   rcases chk_range hc with ⟨rfl,h1⟩ | ⟨rfl,h1,h2⟩ | ⟨rfl,h1,h2,h3,h4⟩ | ⟨rfl,h1,h2,h3,h4⟩
   · rfl
   · have wx : IntKind.wrap .i64 (0 - hx) = -hx := by rw [IntWalk.i64_in _ (by omega)]; omega
     simp only [wx]
     rfl
   · simp only [Int.reduceEq, if_false, if_true]
     rw [dbrick_val hx hy hz (by omega) (by omega) (by omega) _ _ (by omega)]
     rfl
   · simp only [Int.reduceEq, if_false, if_true]
     have hG:V.hulG l = true := gB_of h2.2
     rw [if_pos (by omega),if_pos hG]
     rfl
 · simp [hc]
noncomputable def dcore_h {α:Type} (ds:List D) (Q:SV → Hp → Option α):Option α :=
 dI ds fun k ds => dI ds fun r ds => dI ds fun hx ds => dI ds fun hy ds => dI ds fun hz ds => dL kP ds fun l ds => dE ds (Q (.tup [.agg [.sl 0,.sl 1,.sl 2,.int .i64 (V.corR k r hx hy hz l)],.int .i64 (V.chk k r hx hy hz l)]) ([.seq (.st (.i .i64) [.i .i64,.i .i64]) (V.corP k r hx hy hz l) 23,.seq (.st (.i .i64) [.i .i64,.i .i64]) (V.corA k r hx hy hz l) 23,.seq (.st (.i .i64) [.i .i64,.i .i64]) (V.corE k r hx hy hz l) 23]))
theorem dcore_h_ok {α:Type}:FnOk E.P 4 (fEnt (α := α) dcore_sp dcore_h) :=
 fEntR_ok E (look_SrI_rratio_ok) (exec_sound E E_ok (look_SrI_rratio_ok) (dcore_l0_lps_ok) 400) fun ds Q r h => by
   unfold dcore_h at h
   obtain ⟨k,ds,rfl,h1⟩ := dI_inv h
   obtain ⟨r,ds,rfl,h2⟩ := dI_inv h1
   obtain ⟨hx,ds,rfl,h3⟩ := dI_inv h2
   obtain ⟨hy,ds,rfl,h4⟩ := dI_inv h3
   obtain ⟨hz,ds,rfl,h5⟩ := dI_inv h4
   obtain ⟨l,ds,rfl,h6⟩ := dL_inv h5
   obtain ⟨rfl,hE⟩ := dE_inv h6
   exact ⟨_,_,hE,fun vs => ⟨_,_,by kernel_rfl,(dcore_eq k r hx hy hz l ((cellsV (vs.headD undef)).tail.tail.tail.tail.tail.headD undef) _).trans (dcore_v k r hx hy hz l _)⟩⟩
end
section
open Go
set_option maxRecDepth 20000
noncomputable def look_PoV_right {α:Type}:LookF α := addFn 5 (fEnt right_sp right_h) look_pplaces
theorem look_PoV_right_ok {α:Type}:LookOk E.P (look_PoV_right (α := α)) := addFn_ok right_h_ok (look_pplaces_ok)
noncomputable def look_PoV_dcore {α:Type}:LookF α := addFn 4 (fEnt dcore_sp dcore_h) look_PoV_right
theorem look_PoV_dcore_ok {α:Type}:LookOk E.P (look_PoV_dcore (α := α)) := addFn_ok dcore_h_ok (look_PoV_right_ok)
noncomputable def look_PoV_qright {α:Type}:LookF α := addFn 7 (fEnt qright_sp qright_h) look_PoV_dcore
theorem look_PoV_qright_ok {α:Type}:LookOk E.P (look_PoV_qright (α := α)) := addFn_ok qright_h_ok (look_PoV_dcore_ok)
noncomputable def M.pright {α:Type} (k:Int) (r:Int) (hx:Int) (hy:Int) (hz:Int) (l:L3) (px:Int) (p_y:Int) (pz:Int) (tw:Int) (tx:Int) (ty:Int) (tz:Int) (bx:Int) (b_y:Int) (bz:Int) (k0:Bool → Option α):Option α := let s1:Int := Prod.fst (Prod.snd (V.prQ tw tx ty tz)); let s2:Int × Int := Prod.snd (Prod.snd (V.prQ tw tx ty tz)); let s3:Int := Prod.fst s2; let s4:Int := Prod.snd s2; let s5:List P3 := V.corP (V.rgK k r hx hy hz l) (V.rgR r) (V.rgH hx) (V.rgH hy) (V.rgH hz) (V.rgP k r hx hy hz l); let s6:List P3 := V.corE (V.rgK k r hx hy hz l) (V.rgR r) (V.rgH hx) (V.rgH hy) (V.rgH hz) (V.rgP k r hx hy hz l); let s7:List P3 := V.corA (V.rgK k r hx hy hz l) (V.rgR r) (V.rgH hx) (V.rgH hy) (V.rgH hz) (V.rgP k r hx hy hz l); let s8:Int := V.corR (V.rgK k r hx hy hz l) (V.rgR r) (V.rgH hx) (V.rgH hy) (V.rgH hz) (V.rgP k r hx hy hz l); let s9:Nat := List.length s6; let s10:Nat := List.length s5; let s11:Nat := List.length s7; if V.rgG k r hx hy hz l = true then if V.lenB s10 = true ∧ V.lenB s11 = true ∧ V.lenB s9 = true then if V.plG (V.plc s5 s7 s6 (V.prP px,V.prP p_y,V.prP pz) (V.prQ tw tx ty tz)) = true then if cEq (V.chk (V.rgK k r hx hy hz l) (V.rgR r) (V.rgH hx) (V.rgH hy) (V.rgH hz) (V.rgP k r hx hy hz l)) (0:Int) = true then if V.gB ((s10 < (8796093022208:Nat) ∧ ∀ (x:K.T kP),List.Mem x s5 → (decide ((-9223372036854775808:Int) ≤ Prod.fst x) && decide (Prod.fst x ≤ (9223372036854775807:Int))) = true ∧ (decide ((-9223372036854775808:Int) ≤ Prod.fst (Prod.snd x)) && decide (Prod.fst (Prod.snd x) ≤ (9223372036854775807:Int))) = true ∧ (decide ((-9223372036854775808:Int) ≤ Prod.snd (Prod.snd x)) && decide (Prod.snd (Prod.snd x) ≤ (9223372036854775807:Int))) = true) ∧ (s11 < (8796093022208:Nat) ∧ ∀ (x:K.T kP),List.Mem x s7 → (decide ((-9223372036854775808:Int) ≤ Prod.fst x) && decide (Prod.fst x ≤ (9223372036854775807:Int))) = true ∧ (decide ((-9223372036854775808:Int) ≤ Prod.fst (Prod.snd x)) && decide (Prod.fst (Prod.snd x) ≤ (9223372036854775807:Int))) = true ∧ (decide ((-9223372036854775808:Int) ≤ Prod.snd (Prod.snd x)) && decide (Prod.snd (Prod.snd x) ≤ (9223372036854775807:Int))) = true) ∧ (s9 < (8796093022208:Nat) ∧ ∀ (x:K.T kP),List.Mem x s6 → (decide ((-9223372036854775808:Int) ≤ Prod.fst x) && decide (Prod.fst x ≤ (9223372036854775807:Int))) = true ∧ (decide ((-9223372036854775808:Int) ≤ Prod.fst (Prod.snd x)) && decide (Prod.fst (Prod.snd x) ≤ (9223372036854775807:Int))) = true ∧ (decide ((-9223372036854775808:Int) ≤ Prod.snd (Prod.snd x)) && decide (Prod.snd (Prod.snd x) ≤ (9223372036854775807:Int))) = true) ∧ ((-9223372036854775808:Int) ≤ s8 ∧ s8 < (9223372036854775808:Int)) ∧ ((-9223372036854775808:Int) ≤ V.prP px ∧ V.prP px < (9223372036854775808:Int)) ∧ ((-9223372036854775808:Int) ≤ V.prP p_y ∧ V.prP p_y < (9223372036854775808:Int)) ∧ ((-9223372036854775808:Int) ≤ V.prP pz ∧ V.prP pz < (9223372036854775808:Int)) ∧ ((-9223372036854775808:Int) ≤ Prod.fst (V.prQ tw tx ty tz) ∧ Prod.fst (V.prQ tw tx ty tz) < (9223372036854775808:Int)) ∧ ((-9223372036854775808:Int) ≤ s1 ∧ s1 < (9223372036854775808:Int)) ∧ ((-9223372036854775808:Int) ≤ s3 ∧ s3 < (9223372036854775808:Int)) ∧ ((-9223372036854775808:Int) ≤ s4 ∧ s4 < (9223372036854775808:Int)) ∧ ((-9223372036854775808:Int) ≤ bx ∧ bx < (9223372036854775808:Int)) ∧ ((-9223372036854775808:Int) ≤ b_y ∧ b_y < (9223372036854775808:Int)) ∧ (-9223372036854775808:Int) ≤ bz ∧ bz < (9223372036854775808:Int)) = true then k0 true else none else k0 false else if cEq (V.chk (V.rgK k r hx hy hz l) (V.rgR r) (V.rgH hx) (V.rgH hy) (V.rgH hz) (V.rgP k r hx hy hz l)) (0:Int) = true then k0 false else k0 false else none else none
theorem pright_eq {α:Type} (k:Int) (r:Int) (hx:Int) (hy:Int) (hz:Int) (l:L3) (px:Int) (p_y:Int) (pz:Int) (tw:Int) (tx:Int) (ty:Int) (tz:Int) (bx:Int) (b_y:Int) (bz:Int) (v0:Value) (Q:SV → Hp → Option α):callI E look_PoV_qright (exec E look_PoV_qright noLps 400) 3 ([SV.agg [SV.int .i64 k,SV.int .i64 r,SV.int .i64 hx,SV.int .i64 hy,SV.int .i64 hz,SV.ros v0 kP l],SV.agg [SV.int .i64 px,SV.int .i64 p_y,SV.int .i64 pz,SV.int .i64 tw,SV.int .i64 tx,SV.int .i64 ty,SV.int .i64 tz],SV.agg [SV.int .i64 bx,SV.int .i64 b_y,SV.int .i64 bz]]) ([]) Q = M.pright k r hx hy hz l px p_y pz tw tx ty tz bx b_y bz (fun (x12:Bool) => Q (SV.bool x12) ([])) := by kernel_rfl
def pright_sp:List AS := [.st [.leaf (.int .i64 0),.leaf (.int .i64 0),.leaf (.int .i64 0),.leaf (.int .i64 0),.leaf (.int .i64 0),.ro kP],.val (.agg [.int .i64 0,.int .i64 0,.int .i64 0,.int .i64 0,.int .i64 0,.int .i64 0,.int .i64 0]),.val (.agg [.int .i64 0,.int .i64 0,.int .i64 0])]
theorem sm_good {p:P3} {n:Int} (h:Sm p n) (hn:n ≤ 4611686018427387904):(RT.good (.i .i64) [.i .i64,.i .i64]) p := by
 have e:∀ x:Int,(-n ≤ x ∧ x ≤ n) → (decide (-9223372036854775808 ≤ x) && decide (x ≤ 9223372036854775807)) = true := by
   intro x hx
   rw [decide_eq_true (by omega),decide_eq_true (by omega)]; rfl
 exact ⟨e _ h.1,e _ h.2.1,e _ h.2.2⟩
theorem prQ_in (tw tx ty tz:Int):In (V.prQ tw tx ty tz).1 4294967299 ∧ In (V.prQ tw tx ty tz).2.1 4294967299 ∧ In (V.prQ tw tx ty tz).2.2.1 4294967299 ∧ In (V.prQ tw tx ty tz).2.2.2 4294967299 := by
 unfold V.prQ
 rw [hid_eq]
 cases ho:V.tWhole (qq tw,qq tx,qq ty,qq tz) with
 | none => exact ⟨by unfold In; simp,by unfold In; simp,by unfold In; simp,by unfold In; simp⟩
 | some t => exact whole_in ho
theorem in_range {x n:Int} (h:In x n) (hn:n ≤ 4611686018427387904):-9223372036854775808 ≤ x ∧ x < 9223372036854775808 := by unfold In at h; omega
theorem pright_v {α:Type} (k r hx hy hz:Int) (l:List P3) (px p_y pz tw tx ty tz bx b_y bz:Int) (hg:(-9223372036854775808 ≤ k ∧ k < 9223372036854775808) ∧ (-9223372036854775808 ≤ r ∧ r < 9223372036854775808) ∧ (-9223372036854775808 ≤ hx ∧ hx < 9223372036854775808) ∧ (-9223372036854775808 ≤ hy ∧ hy < 9223372036854775808) ∧ (-9223372036854775808 ≤ hz ∧ hz < 9223372036854775808) ∧ (l.length < 9223372036854775808 ∧ ∀ x ∈ l,(RT.good (.i .i64) [.i .i64,.i .i64]) x) ∧ (-9223372036854775808 ≤ px ∧ px < 9223372036854775808) ∧ (-9223372036854775808 ≤ p_y ∧ p_y < 9223372036854775808) ∧ (-9223372036854775808 ≤ pz ∧ pz < 9223372036854775808) ∧ (-9223372036854775808 ≤ tw ∧ tw < 9223372036854775808) ∧ (-9223372036854775808 ≤ tx ∧ tx < 9223372036854775808) ∧ (-9223372036854775808 ≤ ty ∧ ty < 9223372036854775808) ∧ (-9223372036854775808 ≤ tz ∧ tz < 9223372036854775808) ∧ (-9223372036854775808 ≤ bx ∧ bx < 9223372036854775808) ∧ (-9223372036854775808 ≤ b_y ∧ b_y < 9223372036854775808) ∧ (-9223372036854775808 ≤ bz ∧ bz < 9223372036854775808)) (k0:Bool → Option α):M.pright k r hx hy hz l px p_y pz tw tx ty tz bx b_y bz k0 = k0 true := by
 obtain ⟨g1,g2,g3,g4,g5,⟨gl,gp⟩,q1,q2,q3,_,_,_,_,q4,q5,q6⟩ := hg
 unfold M.pright
 obtain ⟨rg,chk,p0,p1,p2,a0,a1,e0,e1,r0⟩ := core_facts g1 g2 g3 g4 g5 gl gp
 simp only
 rw [if_pos rg,chk]
 clear chk rg
 generalize V.corP (V.rgK k r hx hy hz l) (V.rgR r) (V.rgH hx) (V.rgH hy) (V.rgH hz) (V.rgP k r hx hy hz l) = P at *
 generalize V.corA (V.rgK k r hx hy hz l) (V.rgR r) (V.rgH hx) (V.rgH hy) (V.rgH hz) (V.rgP k r hx hy hz l) = A at *
 generalize V.corE (V.rgK k r hx hy hz l) (V.rgR r) (V.rgH hx) (V.rgH hy) (V.rgH hz) (V.rgP k r hx hy hz l) = E at *
 generalize V.corR (V.rgK k r hx hy hz l) (V.rgR r) (V.rgH hx) (V.rgH hy) (V.rgH hz) (V.rgP k r hx hy hz l) = R at *
 obtain ⟨m,hm,mo⟩ := prQ_rows tw tx ty tz
 obtain ⟨w0,w1,w2,w3⟩ := prQ_in tw tx ty tz
 have i1 := prP_in q1
 have i2 := prP_in q2
 have i3 := prP_in q3
 generalize V.prP px = X at *
 generalize V.prP p_y = Y at *
 generalize V.prP pz = Z at *
 generalize V.prQ tw tx ty tz = q at *
 have ho := plc_ok hm mo (t := (X,Y,Z)) (i1.mono (by omega)) (i2.mono (by omega)) (i3.mono (by omega)) (l := P) (A := A) (E := E) (by omega) p2 a0 e0
 have l1:V.lenB P.length = true := lenB_of (by omega)
 have l2:V.lenB A.length = true := lenB_of (by omega)
 have l3:V.lenB E.length = true := lenB_of (by omega)
 rw [if_pos ⟨l1,l2,l3⟩,ho,plG_some,if_pos rfl,if_pos (by rw [cEq_eq]; rfl)]
 have nt:∀ p:P3,Neat p → (RT.good (.i .i64) [.i .i64,.i .i64]) p := fun p h => sm_good ((bigP_sm p _).1 h.2.2) (by omega)
 exact if_pos (gB_of ⟨⟨by omega,fun x h => sm_good (p2 x h) (by omega)⟩,⟨by omega,fun x h => nt x (a0 x h)⟩,⟨by omega,fun x h => nt x (e0 x h)⟩,by omega,in_range i1 (by omega),in_range i2 (by omega),in_range i3 (by omega),in_range w0 (by omega),in_range w1 (by omega),in_range w2 (by omega),in_range w3 (by omega),q4,q5,q6⟩)
noncomputable def pright_h {α:Type} (ds:List D) (Q:SV → Hp → Option α):Option α :=
 dI ds fun k ds => dI ds fun r ds => dI ds fun hx ds => dI ds fun hy ds => dI ds fun hz ds => dL kP ds fun l ds => dI ds fun px ds => dI ds fun p_y ds => dI ds fun pz ds => dI ds fun tw ds => dI ds fun tx ds => dI ds fun ty ds => dI ds fun tz ds => dI ds fun bx ds => dI ds fun b_y ds => dI ds fun bz ds => dE ds (if V.gB ((-9223372036854775808 ≤ k ∧ k < 9223372036854775808) ∧ (-9223372036854775808 ≤ r ∧ r < 9223372036854775808) ∧ (-9223372036854775808 ≤ hx ∧ hx < 9223372036854775808) ∧ (-9223372036854775808 ≤ hy ∧ hy < 9223372036854775808) ∧ (-9223372036854775808 ≤ hz ∧ hz < 9223372036854775808) ∧ (l.length < 9223372036854775808 ∧ ∀ x ∈ l,(RT.good (.i .i64) [.i .i64,.i .i64]) x) ∧ (-9223372036854775808 ≤ px ∧ px < 9223372036854775808) ∧ (-9223372036854775808 ≤ p_y ∧ p_y < 9223372036854775808) ∧ (-9223372036854775808 ≤ pz ∧ pz < 9223372036854775808) ∧ (-9223372036854775808 ≤ tw ∧ tw < 9223372036854775808) ∧ (-9223372036854775808 ≤ tx ∧ tx < 9223372036854775808) ∧ (-9223372036854775808 ≤ ty ∧ ty < 9223372036854775808) ∧ (-9223372036854775808 ≤ tz ∧ tz < 9223372036854775808) ∧ (-9223372036854775808 ≤ bx ∧ bx < 9223372036854775808) ∧ (-9223372036854775808 ≤ b_y ∧ b_y < 9223372036854775808) ∧ (-9223372036854775808 ≤ bz ∧ bz < 9223372036854775808)) = true then Q (.bool true) ([]) else none)
theorem pright_h_ok {α:Type}:FnOk E.P 3 (fEnt (α := α) pright_sp pright_h) :=
 fEntR_ok E (look_PoV_qright_ok) (exec_sound E E_ok (look_PoV_qright_ok) (noLps_ok _) 400) fun ds Q r h => by
   unfold pright_h at h
   obtain ⟨k,ds,rfl,h1⟩ := dI_inv h
   obtain ⟨r,ds,rfl,h2⟩ := dI_inv h1
   obtain ⟨hx,ds,rfl,h3⟩ := dI_inv h2
   obtain ⟨hy,ds,rfl,h4⟩ := dI_inv h3
   obtain ⟨hz,ds,rfl,h5⟩ := dI_inv h4
   obtain ⟨l,ds,rfl,h6⟩ := dL_inv h5
   obtain ⟨px,ds,rfl,h7⟩ := dI_inv h6
   obtain ⟨p_y,ds,rfl,h8⟩ := dI_inv h7
   obtain ⟨pz,ds,rfl,h9⟩ := dI_inv h8
   obtain ⟨tw,ds,rfl,h10⟩ := dI_inv h9
   obtain ⟨tx,ds,rfl,h11⟩ := dI_inv h10
   obtain ⟨ty,ds,rfl,h12⟩ := dI_inv h11
   obtain ⟨tz,ds,rfl,h13⟩ := dI_inv h12
   obtain ⟨bx,ds,rfl,h14⟩ := dI_inv h13
   obtain ⟨b_y,ds,rfl,h15⟩ := dI_inv h14
   obtain ⟨bz,ds,rfl,h16⟩ := dI_inv h15
   obtain ⟨rfl,hE⟩ := dE_inv h16
   split at hE
   · rename_i hg
     exact ⟨_,_,hE,fun vs => ⟨_,_,by kernel_rfl,(pright_eq k r hx hy hz l px p_y pz tw tx ty tz bx b_y bz ((cellsV (vs.headD undef)).tail.tail.tail.tail.tail.headD undef) _).trans (pright_v k r hx hy hz l px p_y pz tw tx ty tz bx b_y bz (gB_iff hg) _)⟩⟩
   · cases hE
end
end Go.Proofs.YtlagndfhibkjpaaGreat.Sx
