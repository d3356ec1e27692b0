/- Texts of the walk, merged. -/
import Derived.Test.YtajomehkgaamoaaGreatMh8
set_option linter.unusedVariables false
set_option linter.unusedSimpArgs false
namespace Go.Proofs.YtajomehkgaamoaaGreat.Sx
section
open Go
set_option maxRecDepth 20000
noncomputable abbrev rloads_S1 (y1:Value) (y2:List L15) (y3 y4:Int) (y5:Bool) (y6 y7 y8:Int) (y9:Bool) (y10:List (Int × Int × Int × Int × Int × Int × Int)) (y11 y12 y13:L3) (y14:List Int) (y15 y16 y17 y18 y19 y20:Int):St := St.mk (some (SV.ptr (nat_lit 0) (nat_lit 0)) :: some (SV.ros y1 (K.st (LK.i IntKind.i64) [LK.i IntKind.i64,LK.i IntKind.i64,LK.i IntKind.i64,LK.i IntKind.i64,LK.i IntKind.i64,LK.i IntKind.i64,LK.i IntKind.i64,LK.i IntKind.i64,LK.i IntKind.i64,LK.b,LK.i IntKind.i64,LK.i IntKind.i64,LK.i IntKind.i64,LK.i IntKind.i64]) y2) :: nn 3 (some (SV.ptr (nat_lit 1) (nat_lit 0)) :: nn 3 (some (SV.ptr (nat_lit 2) (nat_lit 0)) :: some (SV.sl (nat_lit 3)) :: some (SV.sl (nat_lit 4)) :: some (SV.sl (nat_lit 5)) :: some (SV.sl (nat_lit 6)) :: some (SV.sl (nat_lit 7)) :: some (SV.int .i64 y3) :: some (SV.ptr (nat_lit 8) (nat_lit 0)) :: some (SV.ptr (nat_lit 9) (nat_lit 0)) :: some (SV.int .i64 y4) :: nn 136 ([])))) [.cells [SV.bool y5] (nat_lit 30),.cells [SV.int .i64 y6,SV.int .i64 y7,SV.int .i64 y8] (nat_lit 24),.cells [SV.bool y9] (nat_lit 30),.seq (K.st (LK.i IntKind.i64) [LK.i IntKind.i64,LK.i IntKind.i64,LK.i IntKind.i64,LK.i IntKind.i64,LK.i IntKind.i64,LK.i IntKind.i64]) y10 (nat_lit 59),.seq kP y11 (nat_lit 24),.seq kP y12 (nat_lit 24),.seq kP y13 (nat_lit 24),.seq (K.int IntKind.i64) y14 (nat_lit 3),.cells [SV.int .i64 y15,SV.int .i64 y16,SV.int .i64 y17] (nat_lit 24),.cells [SV.int .i64 y18,SV.int .i64 y19,SV.int .i64 y20] (nat_lit 24)]
noncomputable abbrev rloads_S2 (y1:Value) (y2:List L15) (y3:Int) (y4:Bool) (y5 y6 y7:Int) (y8:Bool) (y9:List (Int × Int × Int × Int × Int × Int × Int)) (y10 y11 y12:L3) (y13:List Int) (y14 y15 y16 y17 y18 y19:Int):St := St.mk (some (SV.ptr (nat_lit 0) (nat_lit 0)) :: some (SV.ros y1 (K.st (LK.i IntKind.i64) [LK.i IntKind.i64,LK.i IntKind.i64,LK.i IntKind.i64,LK.i IntKind.i64,LK.i IntKind.i64,LK.i IntKind.i64,LK.i IntKind.i64,LK.i IntKind.i64,LK.i IntKind.i64,LK.b,LK.i IntKind.i64,LK.i IntKind.i64,LK.i IntKind.i64,LK.i IntKind.i64]) y2) :: nn 3 (some (SV.ptr (nat_lit 1) (nat_lit 0)) :: nn 3 (some (SV.ptr (nat_lit 2) (nat_lit 0)) :: some (SV.sl (nat_lit 3)) :: some (SV.sl (nat_lit 4)) :: some (SV.sl (nat_lit 5)) :: some (SV.sl (nat_lit 6)) :: some (SV.sl (nat_lit 7)) :: some (SV.int .i64 y3) :: some (SV.ptr (nat_lit 8) (nat_lit 0)) :: some (SV.ptr (nat_lit 9) (nat_lit 0)) :: nn 137 ([])))) [.cells [SV.bool y4] (nat_lit 30),.cells [SV.int .i64 y5,SV.int .i64 y6,SV.int .i64 y7] (nat_lit 24),.cells [SV.bool y8] (nat_lit 30),.seq (K.st (LK.i IntKind.i64) [LK.i IntKind.i64,LK.i IntKind.i64,LK.i IntKind.i64,LK.i IntKind.i64,LK.i IntKind.i64,LK.i IntKind.i64]) y9 (nat_lit 59),.seq kP y10 (nat_lit 24),.seq kP y11 (nat_lit 24),.seq kP y12 (nat_lit 24),.seq (K.int IntKind.i64) y13 (nat_lit 3),.cells [SV.int .i64 y14,SV.int .i64 y15,SV.int .i64 y16] (nat_lit 24),.cells [SV.int .i64 y17,SV.int .i64 y18,SV.int .i64 y19] (nat_lit 24)]
noncomputable abbrev rloads_S3:St := St.mk (some (SV.ptr (nat_lit 0) (nat_lit 0)) :: some (SV.ros undef (K.st (LK.i IntKind.i64) [LK.i IntKind.i64,LK.i IntKind.i64,LK.i IntKind.i64,LK.i IntKind.i64,LK.i IntKind.i64,LK.i IntKind.i64,LK.i IntKind.i64,LK.i IntKind.i64,LK.i IntKind.i64,LK.b,LK.i IntKind.i64,LK.i IntKind.i64,LK.i IntKind.i64,LK.i IntKind.i64]) []) :: nn 3 (some (SV.ptr (nat_lit 1) (nat_lit 0)) :: nn 3 (some (SV.ptr (nat_lit 2) (nat_lit 0)) :: some (SV.sl (nat_lit 3)) :: some (SV.sl (nat_lit 4)) :: some (SV.sl (nat_lit 5)) :: some (SV.sl (nat_lit 6)) :: some (SV.sl (nat_lit 7)) :: some (SV.int .i64 (0:Int)) :: some (SV.ptr (nat_lit 8) (nat_lit 0)) :: some (SV.ptr (nat_lit 9) (nat_lit 0)) :: some (SV.int .i64 (0:Int)) :: nn 136 ([])))) [.cells [SV.bool false] (nat_lit 30),.cells [SV.int .i64 (0:Int),SV.int .i64 (0:Int),SV.int .i64 (0:Int)] (nat_lit 24),.cells [SV.bool false] (nat_lit 30),.seq (K.st (LK.i IntKind.i64) [LK.i IntKind.i64,LK.i IntKind.i64,LK.i IntKind.i64,LK.i IntKind.i64,LK.i IntKind.i64,LK.i IntKind.i64]) [] (nat_lit 59),.seq kP [] (nat_lit 24),.seq kP [] (nat_lit 24),.seq kP [] (nat_lit 24),.seq (K.int IntKind.i64) [] (nat_lit 3),.cells [SV.int .i64 (0:Int),SV.int .i64 (0:Int),SV.int .i64 (0:Int)] (nat_lit 24),.cells [SV.int .i64 (0:Int),SV.int .i64 (0:Int),SV.int .i64 (0:Int)] (nat_lit 24)]
noncomputable abbrev rloads_S4 (y1:Value) (y2:List L15) (y3:Int) (y4:Bool) (y5 y6 y7:Int) (y8:Bool) (y9:List (Int × Int × Int × Int × Int × Int × Int)) (y10 y11 y12:L3) (y13:List Int):St := St.mk (some (SV.ptr (nat_lit 0) (nat_lit 0)) :: some (SV.ros y1 (K.st (LK.i IntKind.i64) [LK.i IntKind.i64,LK.i IntKind.i64,LK.i IntKind.i64,LK.i IntKind.i64,LK.i IntKind.i64,LK.i IntKind.i64,LK.i IntKind.i64,LK.i IntKind.i64,LK.i IntKind.i64,LK.b,LK.i IntKind.i64,LK.i IntKind.i64,LK.i IntKind.i64,LK.i IntKind.i64]) y2) :: nn 3 (some (SV.ptr (nat_lit 1) (nat_lit 0)) :: nn 3 (some (SV.ptr (nat_lit 2) (nat_lit 0)) :: some (SV.sl (nat_lit 3)) :: some (SV.sl (nat_lit 4)) :: some (SV.sl (nat_lit 5)) :: some (SV.sl (nat_lit 6)) :: some (SV.sl (nat_lit 7)) :: some (SV.int .i64 y3) :: nn 139 ([])))) [.cells [SV.bool y4] (nat_lit 30),.cells [SV.int .i64 y5,SV.int .i64 y6,SV.int .i64 y7] (nat_lit 24),.cells [SV.bool y8] (nat_lit 30),.seq (K.st (LK.i IntKind.i64) [LK.i IntKind.i64,LK.i IntKind.i64,LK.i IntKind.i64,LK.i IntKind.i64,LK.i IntKind.i64,LK.i IntKind.i64]) y9 (nat_lit 59),.seq kP y10 (nat_lit 24),.seq kP y11 (nat_lit 24),.seq kP y12 (nat_lit 24),.seq (K.int IntKind.i64) y13 (nat_lit 3)]
noncomputable abbrev rloads_S5 (y1 y2:Bool) (y3 y4:L3) (y5:List Int):St := St.mk (some (SV.ptr (nat_lit 0) (nat_lit 0)) :: nn 8 (some (SV.ptr (nat_lit 1) (nat_lit 0)) :: none :: none :: some (SV.sl (nat_lit 2)) :: some (SV.sl (nat_lit 3)) :: some (SV.sl (nat_lit 4)) :: nn 140 ([]))) [.cells [SV.bool y1] (nat_lit 30),.cells [SV.bool y2] (nat_lit 30),.seq kP y3 (nat_lit 24),.seq kP y4 (nat_lit 24),.seq (K.int IntKind.i64) y5 (nat_lit 3)]
noncomputable abbrev rloads_S6:St := St.mk (some (SV.ptr (nat_lit 0) (nat_lit 0)) :: some (SV.ros undef (K.st (LK.i IntKind.i64) [LK.i IntKind.i64,LK.i IntKind.i64,LK.i IntKind.i64,LK.i IntKind.i64,LK.i IntKind.i64,LK.i IntKind.i64,LK.i IntKind.i64,LK.i IntKind.i64,LK.i IntKind.i64,LK.b,LK.i IntKind.i64,LK.i IntKind.i64,LK.i IntKind.i64,LK.i IntKind.i64]) []) :: nn 3 (some (SV.ptr (nat_lit 1) (nat_lit 0)) :: nn 3 (some (SV.ptr (nat_lit 2) (nat_lit 0)) :: some (SV.sl (nat_lit 3)) :: some (SV.sl (nat_lit 4)) :: some (SV.sl (nat_lit 5)) :: some (SV.sl (nat_lit 6)) :: some (SV.sl (nat_lit 7)) :: some (SV.int .i64 (0:Int)) :: nn 139 ([])))) [.cells [SV.bool false] (nat_lit 30),.cells [SV.int .i64 (0:Int),SV.int .i64 (0:Int),SV.int .i64 (0:Int)] (nat_lit 24),.cells [SV.bool false] (nat_lit 30),.seq (K.st (LK.i IntKind.i64) [LK.i IntKind.i64,LK.i IntKind.i64,LK.i IntKind.i64,LK.i IntKind.i64,LK.i IntKind.i64,LK.i IntKind.i64]) [] (nat_lit 59),.seq kP [] (nat_lit 24),.seq kP [] (nat_lit 24),.seq kP [] (nat_lit 24),.seq (K.int IntKind.i64) [] (nat_lit 3)]
abbrev rloads_P1:List Bool := [false,true,false,true,true,false,false,true,false,false,true,false,true,true,true,true,true,true,true,true]
abbrev rloads_P2:List Bool := [false,true,false,true,true,true,true,true,true,true,true]
noncomputable def M.rloads_l0_step {α:Type} (x48:List L15) (x49:Int) (x56:List (Int × Int × Int × Int × Int × Int × Int)) (x58 x59:L3) (kn:Int → Bool → Int → Int → Int → Int → Int → Int → Option α) (k1:Bool → Int → Int → Int → Int → Int → Int → Option α) (x50:Int) (x55:Bool) (x61 x62 x63 x64 x65 x66:Int):Option α := let s67 := (↑(List.length x56):Int); let s68 := List.getD x58 (Int.toNat x50) ((0:Int),(0:Int),(0:Int)); let s69 := (↑(List.length x48):Int); let s70 := V.tAdd (x64,x65,x66) (List.getD x59 (Int.toNat x50) ((0:Int),(0:Int),(0:Int))); let s71 := V.tAdd (x61,x62,x63) s68; let s72 := List.getD x56 (Int.toNat x50) ((0:Int),(0:Int),(0:Int),(0:Int),(0:Int),(0:Int),(0:Int)); let s73 := List.getD x56 (Int.toNat x49) ((0:Int),(0:Int),(0:Int),(0:Int),(0:Int),(0:Int),(0:Int)); let s74 := Prod.snd s72; let s75 := Prod.snd s73; let s76 := V.tSub (Prod.fst s72,Prod.fst s74,Prod.fst (Prod.snd s74)) (Prod.fst s73,Prod.fst s75,Prod.fst (Prod.snd s75)); let s77 := V.tCross (V.q3 s76) s68; let s78 := V.tAdd (V.q3 s70) (V.q3 s77); if cLt x50 s69 = true then if (0:Int) ≤ x50 ∧ x50 < s69 then if cEq (Prod.fst (List.getD x48 (Int.toNat x50) ((0:Int),(0:Int),(0:Int),(0:Int),(0:Int),(0:Int),(0:Int),(0:Int),(0:Int),(0:Int),false,(0:Int),(0:Int),(0:Int),(0:Int)))) x49 = true then if (0:Int) ≤ x50 ∧ x50 < (↑(List.length x58):Int) then if (0:Int) ≤ x50 ∧ x50 < (↑(List.length x59):Int) then if (0:Int) ≤ x50 ∧ x50 < s67 then if (0:Int) ≤ x49 ∧ x49 < s67 then if (0:Int) ≤ x50 ∧ x50 < (↑(List.length x58):Int) then kn (IntKind.wrap .i64 (x50 + (1:Int))) (V.on s78 (V.on s77 (V.on s76 (V.on s70 (V.on s71 x55))))) (V.x3 s71) (V.y3 s71) (V.z3 s71) (V.x3 s78) (V.y3 s78) (V.z3 s78) else none else none else none else none else none else kn (IntKind.wrap .i64 (x50 + (1:Int))) x55 x61 x62 x63 x64 x65 x66 else none else k1 x55 x61 x62 x63 x64 x65 x66
noncomputable def M.rloads_l0 {α:Type} (x48:List L15) (x49:Int) (x56:List (Int × Int × Int × Int × Int × Int × Int)) (x58 x59:L3) (k1:Bool → Int → Int → Int → Int → Int → Int → Option α):Nat → Int → Bool → Int → Int → Int → Int → Int → Int → Option α
 | 0,_,_,_,_,_,_,_,_ => none
 | n + 1,x50,x55,x61,x62,x63,x64,x65,x66 => M.rloads_l0_step x48 x49 x56 x58 x59 (M.rloads_l0 x48 x49 x56 x58 x59 k1 n) k1 x50 x55 x61 x62 x63 x64 x65 x66
theorem rloads_l0_step_eq {α:Type} (x47:Value) (x48:List L15) (x49 x50:Int) (x51:Bool) (x52 x53 x54:Int) (x55:Bool) (x56:List (Int × Int × Int × Int × Int × Int × Int)) (x57 x58 x59:L3) (x60:List Int) (x61 x62 x63 x64 x65 x66:Int) (Q:Ex → St → Option α):(loopStep E (exec E look_rmotion noLps 400) 19 rloads_P1 1 (codeAt E.P 19 rloads_P1)) (rloads_S1 x47 x48 x49 x50 x51 x52 x53 x54 x55 x56 x57 x58 x59 x60 x61 x62 x63 x64 x65 x66) Q = M.rloads_l0_step x48 x49 x56 x58 x59 (fun (x86:Int) (x87:Bool) (x88 x89 x90 x91 x92 x93:Int) => Q .normal (rloads_S1 x47 x48 x49 x86 x51 x52 x53 x54 x87 x56 x57 x58 x59 x60 x88 x89 x90 x91 x92 x93)) (fun (x79:Bool) (x80 x81 x82 x83 x84 x85:Int) => Q (.exit 2) (rloads_S2 x47 x48 x49 x51 x52 x53 x54 x79 x56 x57 x58 x59 x60 x80 x81 x82 x83 x84 x85)) x50 x55 x61 x62 x63 x64 x65 x66 := by kernel_rfl
theorem rloads_l0_iter {α:Type} (x47:Value) (x48:List L15) (x49:Int) (x51:Bool) (x52 x53 x54:Int) (x56:List (Int × Int × Int × Int × Int × Int × Int)) (x57 x58 x59:L3) (x60:List Int) (Q:Ex → St → Option α):∀ (n:Nat) (x50:Int) (x55:Bool) (x61 x62 x63 x64 x65 x66:Int),iter (loopStep E (exec E look_rmotion noLps 400) 19 rloads_P1 1 (codeAt E.P 19 rloads_P1)) n (rloads_S1 x47 x48 x49 x50 x51 x52 x53 x54 x55 x56 x57 x58 x59 x60 x61 x62 x63 x64 x65 x66) Q = M.rloads_l0 x48 x49 x56 x58 x59 (fun (x79:Bool) (x80 x81 x82 x83 x84 x85:Int) => Q (.exit 2) (rloads_S2 x47 x48 x49 x51 x52 x53 x54 x79 x56 x57 x58 x59 x60 x80 x81 x82 x83 x84 x85)) n x50 x55 x61 x62 x63 x64 x65 x66
 | 0,_,_,_,_,_,_,_,_ => rfl
 | n + 1,x50,x55,x61,x62,x63,x64,x65,x66 => (rloads_l0_step_eq x47 x48 x49 x50 x51 x52 x53 x54 x55 x56 x57 x58 x59 x60 x61 x62 x63 x64 x65 x66 (iterK (loopStep E (exec E look_rmotion noLps 400) 19 rloads_P1 1 (codeAt E.P 19 rloads_P1)) n Q)).trans (congrArg (fun kn => M.rloads_l0_step x48 x49 x56 x58 x59 kn (fun (x79:Bool) (x80 x81 x82 x83 x84 x85:Int) => Q (.exit 2) (rloads_S2 x47 x48 x49 x51 x52 x53 x54 x79 x56 x57 x58 x59 x60 x80 x81 x82 x83 x84 x85)) x50 x55 x61 x62 x63 x64 x65 x66) (funext fun x50 => funext fun x55 => funext fun x61 => funext fun x62 => funext fun x63 => funext fun x64 => funext fun x65 => funext fun x66 => rloads_l0_iter x47 x48 x49 x51 x52 x53 x54 x56 x57 x58 x59 x60 Q n x50 x55 x61 x62 x63 x64 x65 x66))
noncomputable def rloads_l0_go {α:Type} (ds:List D) (Q:Ex → St → Option α):Option α :=
 dV ds fun x47 ds => dL (K.st (LK.i IntKind.i64) [LK.i IntKind.i64,LK.i IntKind.i64,LK.i IntKind.i64,LK.i IntKind.i64,LK.i IntKind.i64,LK.i IntKind.i64,LK.i IntKind.i64,LK.i IntKind.i64,LK.i IntKind.i64,LK.b,LK.i IntKind.i64,LK.i IntKind.i64,LK.i IntKind.i64,LK.i IntKind.i64]) ds fun x48 ds => dI ds fun x49 ds => dI ds fun x50 ds => dB ds fun x51 ds => dI ds fun x52 ds => dI ds fun x53 ds => dI ds fun x54 ds => dB ds fun x55 ds => dL (K.st (LK.i IntKind.i64) [LK.i IntKind.i64,LK.i IntKind.i64,LK.i IntKind.i64,LK.i IntKind.i64,LK.i IntKind.i64,LK.i IntKind.i64]) ds fun x56 ds => dL kP ds fun x57 ds => dL kP ds fun x58 ds => dL kP ds fun x59 ds => dL (K.int IntKind.i64) ds fun x60 ds => dI ds fun x61 ds => dI ds fun x62 ds => dI ds fun x63 ds => dI ds fun x64 ds => dI ds fun x65 ds => dI ds fun x66 ds => dE ds (M.rloads_l0 x48 x49 x56 x58 x59 (fun (x79:Bool) (x80 x81 x82 x83 x84 x85:Int) => Q (.exit 2) (rloads_S2 x47 x48 x49 x51 x52 x53 x54 x79 x56 x57 x58 x59 x60 x80 x81 x82 x83 x84 x85)) (100 + x48.length + x56.length + x57.length + x58.length + x59.length + x60.length) x50 x55 x61 x62 x63 x64 x65 x66)
theorem rloads_l0_ok {α:Type}:LoopOk E.P 19 rloads_P1 1 (lEnt (α := α) (rloads_S3) rloads_l0_go) :=
 lEnt_ok E (exec_sound E E_ok (look_rmotion_ok) (noLps_ok _) 400) fun ds Q r h S hS => by
   unfold rloads_l0_go at h
   obtain ⟨x47,ds,rfl,h1⟩ := dV_inv h
   obtain ⟨x48,ds,rfl,h2⟩ := dL_inv h1
   obtain ⟨x49,ds,rfl,h3⟩ := dI_inv h2
   obtain ⟨x50,ds,rfl,h4⟩ := dI_inv h3
   obtain ⟨x51,ds,rfl,h5⟩ := dB_inv h4
   obtain ⟨x52,ds,rfl,h6⟩ := dI_inv h5
   obtain ⟨x53,ds,rfl,h7⟩ := dI_inv h6
   obtain ⟨x54,ds,rfl,h8⟩ := dI_inv h7
   obtain ⟨x55,ds,rfl,h9⟩ := dB_inv h8
   obtain ⟨x56,ds,rfl,h10⟩ := dL_inv h9
   obtain ⟨x57,ds,rfl,h11⟩ := dL_inv h10
   obtain ⟨x58,ds,rfl,h12⟩ := dL_inv h11
   obtain ⟨x59,ds,rfl,h13⟩ := dL_inv h12
   obtain ⟨x60,ds,rfl,h14⟩ := dL_inv h13
   obtain ⟨x61,ds,rfl,h15⟩ := dI_inv h14
   obtain ⟨x62,ds,rfl,h16⟩ := dI_inv h15
   obtain ⟨x63,ds,rfl,h17⟩ := dI_inv h16
   obtain ⟨x64,ds,rfl,h18⟩ := dI_inv h17
   obtain ⟨x65,ds,rfl,h19⟩ := dI_inv h18
   obtain ⟨x66,ds,rfl,h20⟩ := dI_inv h19
   obtain ⟨rfl,hE⟩ := dE_inv h20
   have e:fillS (rloads_S3) [.v x47,.l (K.st (LK.i IntKind.i64) [LK.i IntKind.i64,LK.i IntKind.i64,LK.i IntKind.i64,LK.i IntKind.i64,LK.i IntKind.i64,LK.i IntKind.i64,LK.i IntKind.i64,LK.i IntKind.i64,LK.i IntKind.i64,LK.b,LK.i IntKind.i64,LK.i IntKind.i64,LK.i IntKind.i64,LK.i IntKind.i64]) x48,.i x49,.i x50,.b x51,.i x52,.i x53,.i x54,.b x55,.l (K.st (LK.i IntKind.i64) [LK.i IntKind.i64,LK.i IntKind.i64,LK.i IntKind.i64,LK.i IntKind.i64,LK.i IntKind.i64,LK.i IntKind.i64]) x56,.l kP x57,.l kP x58,.l kP x59,.l (K.int IntKind.i64) x60,.i x61,.i x62,.i x63,.i x64,.i x65,.i x66] = some (rloads_S1 x47 x48 x49 x50 x51 x52 x53 x54 x55 x56 x57 x58 x59 x60 x61 x62 x63 x64 x65 x66) := by kernel_rfl
   rw [e] at hS
   cases hS
   exact ⟨_,(rloads_l0_iter x47 x48 x49 x51 x52 x53 x54 x56 x57 x58 x59 x60 Q _ x50 x55 x61 x62 x63 x64 x65 x66).trans hE⟩
noncomputable def rloads_l0_lps {α:Type}:LookL α := addLp 19 rloads_P1 1 (lEnt (rloads_S3) rloads_l0_go) noLps
theorem rloads_l0_lps_ok {α:Type}:LoopsOk E.P (rloads_l0_lps (α := α)) := addLp_ok rloads_l0_ok (noLps_ok _)
noncomputable def M.rloads_l1_step {α:Type} (x95:List L15) (x98 x99 x100:Int) (x102:List (Int × Int × Int × Int × Int × Int × Int)) (x103:L3) (kn:Int → Bool → L3 → L3 → List Int → Option α) (k1:Bool → L3 → L3 → List Int → Option α) (x96:Int) (x101:Bool) (x104 x105:L3) (x106:List Int):Option α := let s114 := List.length x104; let s115 := List.length x105; let s116 := List.length x103; let s117 := List.length x102; let s118 := List.length x95; let s119 := List.getD x102 (Int.toNat x96) ((0:Int),(0:Int),(0:Int),(0:Int),(0:Int),(0:Int),(0:Int)); let s120 := Prod.snd s119; let s121 := V.tSub (List.getD x103 (Int.toNat x96) ((0:Int),(0:Int),(0:Int))) (Prod.fst s119,Prod.fst s120,Prod.fst (Prod.snd s120)); let s122 := Prod.snd (Prod.snd (Prod.snd (Prod.snd (Prod.snd (Prod.snd (Prod.snd (Prod.snd (Prod.snd (Prod.snd (List.getD x95 (Int.toNat x96) ((0:Int),(0:Int),(0:Int),(0:Int),(0:Int),(0:Int),(0:Int),(0:Int),(0:Int),(0:Int),false,(0:Int),(0:Int),(0:Int),(0:Int)))))))))))); let s123 := V.tScale (x98,x99,x100) (Prod.snd (Prod.snd (Prod.snd (Prod.snd s122)))); let s124 := V.tCross (V.q3 s121) (V.q3 s123); if cLe (0:Int) x96 = true then if (0:Int) ≤ x96 ∧ x96 < (↑s118:Int) then if (0:Int) ≤ x96 ∧ x96 < (↑s116:Int) then if (0:Int) ≤ x96 ∧ x96 < (↑s117:Int) then M.rloads_l0 x95 x96 x102 x104 x105 (fun (x107:Bool) (x108 x109 x110 x111 x112 x113:Int) ↦ if (0:Int) ≤ x96 ∧ x96 < (↑s114:Int) then if (0:Int) ≤ x96 ∧ x96 < (↑s115:Int) then if (0:Int) ≤ x96 ∧ x96 < (↑s118:Int) then if Prod.fst s122 = true then if V.gB (V.chC x95 = (0:Int) ∧ x102 = V.plcs x95 ∧ (0:Int) ≤ x96 ∧ x96 < (↑s118:Int)) = true then if (0:Int) ≤ x96 ∧ x96 < (↑(List.length x106):Int) then kn (IntKind.wrap .i64 (x96 - (1:Int))) (V.gn (V.tDot (V.axs x95 x96) (x108,x109,x110)) x107) (List.set x104 (Int.toNat x96) (x108,x109,x110)) (List.set x105 (Int.toNat x96) (x111,x112,x113)) (List.set x106 (Int.toNat x96) (V.gv (V.tDot (V.axs x95 x96) (x108,x109,x110)))) else none else none else if V.gB (V.chC x95 = (0:Int) ∧ x102 = V.plcs x95 ∧ (0:Int) ≤ x96 ∧ x96 < (↑s118:Int)) = true then if (0:Int) ≤ x96 ∧ x96 < (↑(List.length x106):Int) then kn (IntKind.wrap .i64 (x96 - (1:Int))) (V.gn (V.tDot (V.axs x95 x96) (x111,x112,x113)) x107) (List.set x104 (Int.toNat x96) (x108,x109,x110)) (List.set x105 (Int.toNat x96) (x111,x112,x113)) (List.set x106 (Int.toNat x96) (V.gv (V.tDot (V.axs x95 x96) (x111,x112,x113)))) else none else none else none else none else none) ((100:Nat) + s118 + s117 + s116 + s114 + s115 + List.length x106) (IntKind.wrap .i64 (x96 + (1:Int))) (V.on s124 (V.on s121 (V.on s123 x101))) (V.x3 s123) (V.y3 s123) (V.z3 s123) (V.x3 s124) (V.y3 s124) (V.z3 s124) else none else none else none else k1 x101 x104 x105 x106
noncomputable def M.rloads_l1 {α:Type} (x95:List L15) (x98 x99 x100:Int) (x102:List (Int × Int × Int × Int × Int × Int × Int)) (x103:L3) (k1:Bool → L3 → L3 → List Int → Option α):Nat → Int → Bool → L3 → L3 → List Int → Option α
 | 0,_,_,_,_,_ => none
 | n + 1,x96,x101,x104,x105,x106 => M.rloads_l1_step x95 x98 x99 x100 x102 x103 (M.rloads_l1 x95 x98 x99 x100 x102 x103 k1 n) k1 x96 x101 x104 x105 x106
theorem rloads_l1_step_eq {α:Type} (x94:Value) (x95:List L15) (x96:Int) (x97:Bool) (x98 x99 x100:Int) (x101:Bool) (x102:List (Int × Int × Int × Int × Int × Int × Int)) (x103 x104 x105:L3) (x106:List Int) (Q:Ex → St → Option α):(loopStep E (exec E look_rmotion rloads_l0_lps 400) 19 rloads_P2 1 (codeAt E.P 19 rloads_P2)) (rloads_S4 x94 x95 x96 x97 x98 x99 x100 x101 x102 x103 x104 x105 x106) Q = M.rloads_l1_step x95 x98 x99 x100 x102 x103 (fun (x129:Int) (x130:Bool) (x131 x132:L3) (x133:List Int) => Q .normal (rloads_S4 x94 x95 x129 x97 x98 x99 x100 x130 x102 x103 x131 x132 x133)) (fun (x125:Bool) (x126 x127:L3) (x128:List Int) => Q (.exit 0) (rloads_S5 x97 x125 x126 x127 x128)) x96 x101 x104 x105 x106 := by kernel_rfl
theorem rloads_l1_iter {α:Type} (x94:Value) (x95:List L15) (x97:Bool) (x98 x99 x100:Int) (x102:List (Int × Int × Int × Int × Int × Int × Int)) (x103:L3) (Q:Ex → St → Option α):∀ (n:Nat) (x96:Int) (x101:Bool) (x104 x105:L3) (x106:List Int),iter (loopStep E (exec E look_rmotion rloads_l0_lps 400) 19 rloads_P2 1 (codeAt E.P 19 rloads_P2)) n (rloads_S4 x94 x95 x96 x97 x98 x99 x100 x101 x102 x103 x104 x105 x106) Q = M.rloads_l1 x95 x98 x99 x100 x102 x103 (fun (x125:Bool) (x126 x127:L3) (x128:List Int) => Q (.exit 0) (rloads_S5 x97 x125 x126 x127 x128)) n x96 x101 x104 x105 x106
 | 0,_,_,_,_,_ => rfl
 | n + 1,x96,x101,x104,x105,x106 => (rloads_l1_step_eq x94 x95 x96 x97 x98 x99 x100 x101 x102 x103 x104 x105 x106 (iterK (loopStep E (exec E look_rmotion rloads_l0_lps 400) 19 rloads_P2 1 (codeAt E.P 19 rloads_P2)) n Q)).trans (congrArg (fun kn => M.rloads_l1_step x95 x98 x99 x100 x102 x103 kn (fun (x125:Bool) (x126 x127:L3) (x128:List Int) => Q (.exit 0) (rloads_S5 x97 x125 x126 x127 x128)) x96 x101 x104 x105 x106) (funext fun x96 => funext fun x101 => funext fun x104 => funext fun x105 => funext fun x106 => rloads_l1_iter x94 x95 x97 x98 x99 x100 x102 x103 Q n x96 x101 x104 x105 x106))
noncomputable def rloads_l1_go {α:Type} (ds:List D) (Q:Ex → St → Option α):Option α :=
 dV ds fun x94 ds => dL (K.st (LK.i IntKind.i64) [LK.i IntKind.i64,LK.i IntKind.i64,LK.i IntKind.i64,LK.i IntKind.i64,LK.i IntKind.i64,LK.i IntKind.i64,LK.i IntKind.i64,LK.i IntKind.i64,LK.i IntKind.i64,LK.b,LK.i IntKind.i64,LK.i IntKind.i64,LK.i IntKind.i64,LK.i IntKind.i64]) ds fun x95 ds => dI ds fun x96 ds => dB ds fun x97 ds => dI ds fun x98 ds => dI ds fun x99 ds => dI ds fun x100 ds => dB ds fun x101 ds => dL (K.st (LK.i IntKind.i64) [LK.i IntKind.i64,LK.i IntKind.i64,LK.i IntKind.i64,LK.i IntKind.i64,LK.i IntKind.i64,LK.i IntKind.i64]) ds fun x102 ds => dL kP ds fun x103 ds => dL kP ds fun x104 ds => dL kP ds fun x105 ds => dL (K.int IntKind.i64) ds fun x106 ds => dE ds (M.rloads_l1 x95 x98 x99 x100 x102 x103 (fun (x125:Bool) (x126 x127:L3) (x128:List Int) => Q (.exit 0) (rloads_S5 x97 x125 x126 x127 x128)) (100 + x95.length + x102.length + x103.length + x104.length + x105.length + x106.length) x96 x101 x104 x105 x106)
theorem rloads_l1_ok {α:Type}:LoopOk E.P 19 rloads_P2 1 (lEnt (α := α) (rloads_S6) rloads_l1_go) :=
 lEnt_ok E (exec_sound E E_ok (look_rmotion_ok) (rloads_l0_lps_ok) 400) fun ds Q r h S hS => by
   unfold rloads_l1_go at h
   obtain ⟨x94,ds,rfl,h1⟩ := dV_inv h
   obtain ⟨x95,ds,rfl,h2⟩ := dL_inv h1
   obtain ⟨x96,ds,rfl,h3⟩ := dI_inv h2
   obtain ⟨x97,ds,rfl,h4⟩ := dB_inv h3
   obtain ⟨x98,ds,rfl,h5⟩ := dI_inv h4
   obtain ⟨x99,ds,rfl,h6⟩ := dI_inv h5
   obtain ⟨x100,ds,rfl,h7⟩ := dI_inv h6
   obtain ⟨x101,ds,rfl,h8⟩ := dB_inv h7
   obtain ⟨x102,ds,rfl,h9⟩ := dL_inv h8
   obtain ⟨x103,ds,rfl,h10⟩ := dL_inv h9
   obtain ⟨x104,ds,rfl,h11⟩ := dL_inv h10
   obtain ⟨x105,ds,rfl,h12⟩ := dL_inv h11
   obtain ⟨x106,ds,rfl,h13⟩ := dL_inv h12
   obtain ⟨rfl,hE⟩ := dE_inv h13
   have e:fillS (rloads_S6) [.v x94,.l (K.st (LK.i IntKind.i64) [LK.i IntKind.i64,LK.i IntKind.i64,LK.i IntKind.i64,LK.i IntKind.i64,LK.i IntKind.i64,LK.i IntKind.i64,LK.i IntKind.i64,LK.i IntKind.i64,LK.i IntKind.i64,LK.b,LK.i IntKind.i64,LK.i IntKind.i64,LK.i IntKind.i64,LK.i IntKind.i64]) x95,.i x96,.b x97,.i x98,.i x99,.i x100,.b x101,.l (K.st (LK.i IntKind.i64) [LK.i IntKind.i64,LK.i IntKind.i64,LK.i IntKind.i64,LK.i IntKind.i64,LK.i IntKind.i64,LK.i IntKind.i64]) x102,.l kP x103,.l kP x104,.l kP x105,.l (K.int IntKind.i64) x106] = some (rloads_S4 x94 x95 x96 x97 x98 x99 x100 x101 x102 x103 x104 x105 x106) := by kernel_rfl
   rw [e] at hS
   cases hS
   exact ⟨_,(rloads_l1_iter x94 x95 x97 x98 x99 x100 x102 x103 Q _ x96 x101 x104 x105 x106).trans hE⟩
noncomputable def rloads_l1_lps {α:Type}:LookL α := addLp 19 rloads_P2 1 (lEnt (rloads_S6) rloads_l1_go) rloads_l0_lps
theorem rloads_l1_lps_ok {α:Type}:LoopsOk E.P (rloads_l1_lps (α := α)) := addLp_ok rloads_l1_ok (rloads_l0_lps_ok)
noncomputable def M.rloads {α:Type} (bad:Bool) (l:List L15) (px:Int) (p_y:Int) (pz:Int) (k0:Bool → L3 → L3 → List Int → Option α):Option α := let s139 := List.length l; let s140 := (↑s139:Int); let s141 := Int.toNat s140; let s142 := List.replicate s141 (0:Int); let s143 := List.replicate s141 ((0:Int),(0:Int),(0:Int)); let s144 := List.length s143; if (!cEq (V.chC l) (0:Int)) = true then k0 bad [] [] [] else if V.chC l = (0:Int) then if V.gB (V.chC l = (0:Int) ∧ V.plcs l = V.plcs l) = true then if s140 = s140 then if (0:Int) ≤ s140 ∧ (24:Int) * s140 ≤ (281474976710656:Int) ∧ s140 ≤ (4611686018427387903:Int) then if s140 = s140 then if (0:Int) ≤ s140 ∧ (24:Int) * s140 ≤ (281474976710656:Int) ∧ s140 ≤ (4611686018427387903:Int) then if s140 = s140 then if (0:Int) ≤ s140 ∧ (8:Int) * s140 ≤ (281474976710656:Int) ∧ s140 ≤ (4611686018427387903:Int) then M.rloads_l1 l px p_y pz (V.plcs l) (V.mdls l) (fun (x135:Bool) (x136 x137:L3) (x138:List Int) ↦ if bad = true then if (!!x135) = true then k0 true [] [] [] else k0 true x136 x137 x138 else if (!!x135) = true then k0 x135 [] [] [] else k0 x135 x136 x137 x138) ((100:Nat) + s139 + List.length (V.plcs l) + List.length (V.mdls l) + s144 + s144 + List.length s142) (IntKind.wrap .i64 (s140 - (1:Int))) false s143 s143 s142 else none else none else none else none else none else none else none else none
theorem rloads_eq {α:Type} (bad:Bool) (l:List L15) (px:Int) (p_y:Int) (pz:Int) (v134:Value) (Q:SV → Hp → Option α):callI E look_rmotion (exec E look_rmotion rloads_l1_lps 400) 19 ([SV.ptr (nat_lit 0) (nat_lit 0),SV.ros v134 (K.st (LK.i IntKind.i64) [LK.i IntKind.i64,LK.i IntKind.i64,LK.i IntKind.i64,LK.i IntKind.i64,LK.i IntKind.i64,LK.i IntKind.i64,LK.i IntKind.i64,LK.i IntKind.i64,LK.i IntKind.i64,LK.b,LK.i IntKind.i64,LK.i IntKind.i64,LK.i IntKind.i64,LK.i IntKind.i64]) l,SV.agg [SV.int .i64 px,SV.int .i64 p_y,SV.int .i64 pz]]) ([.cells [SV.bool bad] (nat_lit 30)]) Q = M.rloads bad l px p_y pz (fun (x145:Bool) (x146 x147:L3) (x148:List Int) => Q (SV.tup [SV.sl (nat_lit 1),SV.sl (nat_lit 2),SV.sl (nat_lit 3)]) ([.cells [SV.bool x145] (nat_lit 30),.seq kP x146 (nat_lit 24),.seq kP x147 (nat_lit 24),.seq (K.int IntKind.i64) x148 (nat_lit 3)])) := by kernel_rfl
def rloads_sp:List AS := [.ptr 30 [.bool false],.ro (.st (.i .i64) [.i .i64,.i .i64,.i .i64,.i .i64,.i .i64,.i .i64,.i .i64,.i .i64,.i .i64,.b,.i .i64,.i .i64,.i .i64,.i .i64]),.val (.agg [.int .i64 0,.int .i64 0,.int .i64 0])]
theorem ldI_skip {C:List L15} {P:List Pl} {i:Nat} {F T:List V.T3} {s:LdI}:∀ (k:Nat),(∀ j,j < k → (lnk C j).1 ≠ (i:Int)) → ldI C P i F T k s = s
 | 0,_ => rfl
 | k + 1,h => by
   show ldK C P i F T k (ldI C P i F T k s) = s
   rw [ldI_skip k (fun j hj => h j (by omega))]
   unfold ldK
   rw [if_neg (h k (by omega))]
theorem rloads_l0_val {α:Type} (C:List L15) (F T:List V.T3) (i:Nat) (hi:i < C.length) (h:V.chC C = 0) (hF:F.length = C.length) (hT:T.length = C.length) (s0:LdI) (k1:Bool → Int → Int → Int → Int → Int → Int → Option α) :
   ∀ (fuel k:Nat),k ≤ C.length → C.length - k < fuel → M.rloads_l0 C (i:Int) (V.plcs C) F T k1 fuel (k:Int) (ldI C (chP C) i F T k s0).1 (ldI C (chP C) i F T k s0).2.1.1 (ldI C (chP C) i F T k s0).2.1.2.1 (ldI C (chP C) i F T k s0).2.1.2.2 (ldI C (chP C) i F T k s0).2.2.1 (ldI C (chP C) i F T k s0).2.2.2.1 (ldI C (chP C) i F T k s0).2.2.2.2 =
     k1 (ldI C (chP C) i F T C.length s0).1 (ldI C (chP C) i F T C.length s0).2.1.1 (ldI C (chP C) i F T C.length s0).2.1.2.1 (ldI C (chP C) i F T C.length s0).2.1.2.2 (ldI C (chP C) i F T C.length s0).2.2.1 (ldI C (chP C) i F T C.length s0).2.2.2.1 (ldI C (chP C) i F T C.length s0).2.2.2.2
 | 0,k,h1,h2 => by omega
 | f + 1,k,h1,h2 => by
   by_cases hk:k < C.length
   · obtain ⟨_, e2, e3, ht⟩ := lay_zip h
     have ih := rloads_l0_val C F T i hi h hF hT s0 k1 f (k + 1) (by omega) (by omega)
     have es:ldI C (chP C) i F T (k + 1) s0 = ldK C (chP C) i F T k (ldI C (chP C) i F T k s0) := rfl
     rw [es] at ih
     generalize ldI C (chP C) i F T k s0 = s at *
     generalize ldI C (chP C) i F T C.length s0 = r at *
     obtain ⟨b,⟨f1,f2,f3⟩,t1,t2,t3⟩ := s
     have g0:List.getD C (Int.toNat (k:Int)) (0,0,0,0,0,0,0,0,0,0,false,0,0,0,0) = lnk C k := rfl
     have g1:List.getD (V.plcs C) (Int.toNat (k:Int)) (0,0,0,0,0,0,0) = pl7 ((chP C).getD k pl0) := by
       rw [plcs_eq h]; exact getD_pl7 (chP C) k (by omega)
     have g2:List.getD (V.plcs C) (Int.toNat (i:Int)) (0,0,0,0,0,0,0) = pl7 ((chP C).getD i pl0) := by
       rw [plcs_eq h]; exact getD_pl7 (chP C) i (by omega)
     have lp:(V.plcs C).length = C.length := by rw [plcs_eq h,List.length_map,e2]
     have b0:(0:Int) ≤ (k:Int) ∧ (k:Int) < (C.length:Int) := by omega
     have b1:(0:Int) ≤ (i:Int) ∧ (i:Int) < (C.length:Int) := by omega
     unfold M.rloads_l0 M.rloads_l0_step
     try simp only
     rw [cLt_nat,if_pos (by simpa using hk),if_pos b0,g0,g1,g2,hF,hT,lp,w_next (by omega),cEq_eq]
     by_cases e:(lnk C k).1 = (i:Int)
     · unfold ldK at ih
       rw [if_pos e] at ih
       rw [if_pos (by rw [e]; exact beq_self_eq_true _),if_pos b0,if_pos b0,if_pos b0,if_pos b1,if_pos b0]
       exact ih
     · unfold ldK at ih
       rw [if_neg e] at ih
       rw [if_neg (by simpa using e)]
       exact ih
   · have : k = C.length := by omega
     subst this
     unfold M.rloads_l0 M.rloads_l0_step
     try simp only
     rw [cLt_nat,if_neg (by simp)]
theorem rloads_l1_val {α:Type} (C:List L15) (p:V.T3) (h:V.chC C = 0) (k1:Bool → List V.T3 → List V.T3 → List Int → Option α) :
   ∀ (fuel m:Nat) (s:LdA),m ≤ C.length → m < fuel → s.2.1.length = C.length → s.2.2.1.length = C.length → s.2.2.2.length = C.length →
     M.rloads_l1 C p.1 p.2.1 p.2.2 (V.plcs C) (V.mdls C) k1 fuel ((m:Int) - 1) s.1 s.2.1 s.2.2.1 s.2.2.2 = k1 (ldA C (chP C) p m s).1 (ldA C (chP C) p m s).2.1 (ldA C (chP C) p m s).2.2.1 (ldA C (chP C) p m s).2.2.2
 | 0,m,s,h1,h2,_,_,_ => by omega
 | f + 1,0,s,h1,h2,_,_,_ => by
   unfold M.rloads_l1 M.rloads_l1_step
   try simp only
   rw [cLe_eq,if_neg (by simp)]
   rfl
 | f + 1,m + 1,s,h1,h2,l1,l2,l3 => by
   obtain ⟨_,e2,e3,ht⟩ := lay_zip h
   have hO := ldO_len C (chP C) p m s
   have ih := rloads_l1_val C p h k1 f m (ldO C (chP C) p m s) (by omega) (by omega) (hO.1.trans l1) (hO.2.1.trans l2) (hO.2.2.trans l3)
   have eA:ldA C (chP C) p (m + 1) s = ldA C (chP C) p m (ldO C (chP C) p m s) := rfl
   rw [← eA] at ih
   generalize ldA C (chP C) p (m + 1) s = r at *
   unfold M.rloads_l1 M.rloads_l1_step
   try simp only
   have hm:m < C.length := by omega
   have em:((m + 1:Nat):Int) - 1 = (m:Int) := by omega
   have g0:List.getD C (Int.toNat (m:Int)) (0,0,0,0,0,0,0,0,0,0,false,0,0,0,0) = lnk C m := rfl
   have g1:List.getD (V.plcs C) (Int.toNat (m:Int)) (0,0,0,0,0,0,0) = pl7 ((chP C).getD m pl0) := by
     rw [plcs_eq h]; exact getD_pl7 (chP C) m (by omega)
   have g2:List.getD (V.mdls C) (Int.toNat (m:Int)) (0,0,0) = pMid (chP C) m := by
     rw [mdls_eq h]
     show ((chP C).map (fun r => r.2.2.2)).getD m (0,0,0) = ((chP C).getD m pl0).2.2.2
     simp [List.getD_eq_getElem?_getD,e2,hm]
   have lp:(V.plcs C).length = C.length := by rw [plcs_eq h,List.length_map,e2]
   have lm:(V.mdls C).length = C.length := by rw [mdls_eq h,List.length_map,e2]
   have b0:(0:Int) ≤ (m:Int) ∧ (m:Int) < (C.length:Int) := by omega
   have ew:IntKind.wrap .i64 ((m:Int) - 1) = (m:Int) - 1 := IntWalk.i64_in _ (by omega)
   have esk : ldI C (chP C) m s.2.1 s.2.2.1 (m + 1) (ldB C (chP C) p m s.1) = ldB C (chP C) p m s.1 := ldI_skip (m + 1) (fun j hj => by
     have := (ht j _ (lnk_get (show j < C.length by omega))).2
     omega)
   have h0 := rloads_l0_val C s.2.1 s.2.2.1 m hm h l1 l2 (ldB C (chP C) p m s.1) (fun x107 x108 x109 x110 x111 x112 x113 =>
     if (0:Int) ≤ (m:Int) ∧ (m:Int) < (C.length:Int) then (if (0:Int) ≤ (m:Int) ∧ (m:Int) < (C.length:Int) then (if (0:Int) ≤ (m:Int) ∧ (m:Int) < (C.length:Int) then
       (if (lnk C m).2.2.2.2.2.2.2.2.2.2.1 = true then (if V.gB (V.chC C = 0 ∧ V.plcs C = V.plcs C ∧ (0:Int) ≤ (m:Int) ∧ (m:Int) < (C.length:Int)) = true then (if (0:Int) ≤ (m:Int) ∧ (m:Int) < (C.length:Int) then
         M.rloads_l1 C p.1 p.2.1 p.2.2 (V.plcs C) (V.mdls C) k1 f (IntKind.wrap .i64 ((m:Int) - 1)) (V.gn (V.tDot (V.axs C (m:Int)) (x108,x109,x110)) x107) (s.2.1.set (Int.toNat (m:Int)) (x108,x109,x110)) (s.2.2.1.set (Int.toNat (m:Int)) (x111,x112,x113)) (s.2.2.2.set (Int.toNat (m:Int)) (V.gv (V.tDot (V.axs C (m:Int)) (x108,x109,x110)))) else none) else none)
        else (if V.gB (V.chC C = 0 ∧ V.plcs C = V.plcs C ∧ (0:Int) ≤ (m:Int) ∧ (m:Int) < (C.length:Int)) = true then (if (0:Int) ≤ (m:Int) ∧ (m:Int) < (C.length:Int) then
         M.rloads_l1 C p.1 p.2.1 p.2.2 (V.plcs C) (V.mdls C) k1 f (IntKind.wrap .i64 ((m:Int) - 1)) (V.gn (V.tDot (V.axs C (m:Int)) (x111,x112,x113)) x107) (s.2.1.set (Int.toNat (m:Int)) (x108,x109,x110)) (s.2.2.1.set (Int.toNat (m:Int)) (x111,x112,x113)) (s.2.2.2.set (Int.toNat (m:Int)) (V.gv (V.tDot (V.axs C (m:Int)) (x111,x112,x113)))) else none) else none)) else none) else none) else none)
     (100 + C.length + C.length + C.length + C.length + C.length + C.length) (m + 1) (by omega) (by omega)
   rw [esk] at h0
   rw [em,cLe_eq,if_pos (by simp),g0,g1,g2,lp,lm,if_pos b0,if_pos b0,if_pos b0,l1,l2,l3,w_next (by omega)]
   refine Eq.trans (b := _) ?_ (Eq.trans h0 ?_)
   · simp only [eq_self_iff_true, true_and]
     rfl
   · rw [if_pos b0, if_pos b0, if_pos b0, ew, axs_at]
     unfold ldO ldAl at ih
     by_cases e:lSl (lnk C m) = true
     · rw [if_pos e] at ih
       rw [if_pos (show (lnk C m).2.2.2.2.2.2.2.2.2.2.1 = true from e),if_pos (gB_of ⟨h,rfl,b0.1,b0.2⟩),if_pos b0]
       exact ih
     · rw [if_neg e] at ih
       rw [if_neg (show ¬ (lnk C m).2.2.2.2.2.2.2.2.2.2.1 = true from e),if_pos (gB_of ⟨h,rfl,b0.1,b0.2⟩),if_pos b0]
       exact ih
theorem rloads_v {α:Type} (bad:Bool) (l:List L15) (px p_y pz:Int) (k0:Bool → List V.T3 → List V.T3 → List Int → Option α):M.rloads bad l px p_y pz k0 = k0 (V.ldsB l px p_y pz bad) (V.ldsF l px p_y pz) (V.ldsT l px p_y pz) (V.ldsN l px p_y pz) := by
 unfold M.rloads V.ldsB V.ldsF V.ldsT V.ldsN
 try simp only
 rw [hid_eq,hid_eq,hid_eq,hid_eq,cEq_eq]
 by_cases h:V.chC l = 0
 · obtain ⟨e1, e2, e3, _⟩ := lay_zip h
   have ew:IntKind.wrap .i64 ((l.length:Int) - 1) = (l.length:Int) - 1 := IntWalk.i64_in _ (by omega)
   rw [if_neg (by rw [h]; decide),if_pos h,if_pos (by first | exact gB_of ⟨h,trivial⟩ | exact gB_of ⟨h,rfl⟩),if_pos trivial,if_pos (by omega),if_pos trivial,if_pos (by omega),if_pos trivial,if_pos (by omega),ew,toNat_natG]
   refine Eq.trans (rloads_l1_val l (px,p_y,pz) h _ _ l.length (ldZ l.length) (by omega) (by omega) (by simp [ldZ]) (by simp [ldZ]) (by simp [ldZ])) ?_
   have er:ldA l (chP l) (px,p_y,pz) l.length (ldZ l.length) = ldR l (px,p_y,pz) := rfl
   rw [er]
   cases hb:(ldR l (px,p_y,pz)).1 with
   | true => cases bad <;> simp [h]
   | false => cases bad <;> simp [h]
 · rw [if_pos (by simpa using h)]
   simp [h]
noncomputable def rloads_h {α:Type} (ds:List D) (Q:SV → Hp → Option α):Option α :=
 dB ds fun bad ds => dL (K.st (LK.i IntKind.i64) [LK.i IntKind.i64,LK.i IntKind.i64,LK.i IntKind.i64,LK.i IntKind.i64,LK.i IntKind.i64,LK.i IntKind.i64,LK.i IntKind.i64,LK.i IntKind.i64,LK.i IntKind.i64,LK.b,LK.i IntKind.i64,LK.i IntKind.i64,LK.i IntKind.i64,LK.i IntKind.i64]) ds fun l ds => dI ds fun px ds => dI ds fun p_y ds => dI ds fun pz ds => dE ds (Q (.tup [.sl 1,.sl 2,.sl 3]) ([.cells [.bool (V.ldsB l px p_y pz bad)] 30,.seq kP (V.ldsF l px p_y pz) 24,.seq kP (V.ldsT l px p_y pz) 24,.seq kI64 (V.ldsN l px p_y pz) 3]))
theorem rloads_h_ok {α:Type}:FnOk E.P 19 (fEnt (α := α) rloads_sp rloads_h) :=
 fEntR_ok E (look_rmotion_ok) (exec_sound E E_ok (look_rmotion_ok) (rloads_l1_lps_ok) 400) fun ds Q r h => by
   unfold rloads_h at h
   obtain ⟨bad,ds,rfl,h1⟩ := dB_inv h
   obtain ⟨l,ds,rfl,h2⟩ := dL_inv h1
   obtain ⟨px,ds,rfl,h3⟩ := dI_inv h2
   obtain ⟨p_y,ds,rfl,h4⟩ := dI_inv h3
   obtain ⟨pz,ds,rfl,h5⟩ := dI_inv h4
   obtain ⟨rfl,hE⟩ := dE_inv h5
   exact ⟨_,_,hE,fun vs => ⟨_,_,by kernel_rfl,(rloads_eq bad l px p_y pz (vs.tail.headD undef) _).trans (rloads_v bad l px p_y pz _)⟩⟩
noncomputable def look_rloads {α:Type}:LookF α := addFn 19 (fEnt rloads_sp rloads_h) look_rmotion
theorem look_rloads_ok {α:Type}:LookOk E.P (look_rloads (α := α)) := addFn_ok rloads_h_ok (look_rmotion_ok)
end
section
open Go
set_option maxRecDepth 20000
noncomputable def M.rPlaces {α:Type} (bad:Bool) (l:List L15) (k0:Bool → List (Int × Int × Int × Int × Int × Int × Int) → Option α):Option α := if (!cEq (V.chC l) (0:Int)) = true then k0 bad [] else if V.chC l = (0:Int) then if bad = true then k0 true (V.plcs l) else k0 false (V.plcs l) else none
theorem rPlaces_eq {α:Type} (bad:Bool) (l:List L15) (v0:Value) (Q:SV → Hp → Option α):callI E look_rloads (exec E look_rloads noLps 400) 10 ([SV.ptr (nat_lit 0) (nat_lit 0),SV.ros v0 (K.st (LK.i IntKind.i64) [LK.i IntKind.i64,LK.i IntKind.i64,LK.i IntKind.i64,LK.i IntKind.i64,LK.i IntKind.i64,LK.i IntKind.i64,LK.i IntKind.i64,LK.i IntKind.i64,LK.i IntKind.i64,LK.b,LK.i IntKind.i64,LK.i IntKind.i64,LK.i IntKind.i64,LK.i IntKind.i64]) l]) ([.cells [SV.bool bad] (nat_lit 30)]) Q = M.rPlaces bad l (fun (x1:Bool) (x2:List (Int × Int × Int × Int × Int × Int × Int)) => Q (SV.sl (nat_lit 1)) ([.cells [SV.bool x1] (nat_lit 30),.seq (K.st (LK.i IntKind.i64) [LK.i IntKind.i64,LK.i IntKind.i64,LK.i IntKind.i64,LK.i IntKind.i64,LK.i IntKind.i64,LK.i IntKind.i64]) x2 (nat_lit 59)])) := by kernel_rfl
def rPlaces_sp:List AS := [.ptr 30 [.bool false],.ro (.st (.i .i64) [.i .i64,.i .i64,.i .i64,.i .i64,.i .i64,.i .i64,.i .i64,.i .i64,.i .i64,.b,.i .i64,.i .i64,.i .i64,.i .i64])]
noncomputable def M.rMiddles {α:Type} (bad:Bool) (l:List L15) (k0:Bool → L3 → Option α):Option α := if (!cEq (V.chC l) (0:Int)) = true then k0 bad [] else if V.chC l = (0:Int) then if V.gB (V.chC l = (0:Int) ∧ V.plcs l = V.plcs l) = true then if bad = true then k0 true (V.mdls l) else k0 false (V.mdls l) else none else none
theorem rMiddles_eq {α:Type} (bad:Bool) (l:List L15) (v3:Value) (Q:SV → Hp → Option α):callI E look_rloads (exec E look_rloads noLps 400) 13 ([SV.ptr (nat_lit 0) (nat_lit 0),SV.ros v3 (K.st (LK.i IntKind.i64) [LK.i IntKind.i64,LK.i IntKind.i64,LK.i IntKind.i64,LK.i IntKind.i64,LK.i IntKind.i64,LK.i IntKind.i64,LK.i IntKind.i64,LK.i IntKind.i64,LK.i IntKind.i64,LK.b,LK.i IntKind.i64,LK.i IntKind.i64,LK.i IntKind.i64,LK.i IntKind.i64]) l]) ([.cells [SV.bool bad] (nat_lit 30)]) Q = M.rMiddles bad l (fun (x4:Bool) (x5:L3) => Q (SV.sl (nat_lit 1)) ([.cells [SV.bool x4] (nat_lit 30),.seq kP x5 (nat_lit 24)])) := by kernel_rfl
def rMiddles_sp:List AS := [.ptr 30 [.bool false],.ro (.st (.i .i64) [.i .i64,.i .i64,.i .i64,.i .i64,.i .i64,.i .i64,.i .i64,.i .i64,.i .i64,.b,.i .i64,.i .i64,.i .i64,.i .i64])]
noncomputable def M.rMotion {α:Type} (bad:Bool) (l:List L15) (k0:Bool → L3 → L3 → Option α):Option α := if (!cEq (V.chC l) (0:Int)) = true then k0 bad [] [] else if V.chC l = (0:Int) then if bad = true then if (!!V.rmB l false) = true then k0 true [] [] else k0 true (V.rmS l) (V.rmV l) else if (!!V.rmB l false) = true then k0 (V.rmB l false) [] [] else k0 (V.rmB l false) (V.rmS l) (V.rmV l) else none
theorem rMotion_eq {α:Type} (bad:Bool) (l:List L15) (v6:Value) (Q:SV → Hp → Option α):callI E look_rloads (exec E look_rloads noLps 400) 15 ([SV.ptr (nat_lit 0) (nat_lit 0),SV.ros v6 (K.st (LK.i IntKind.i64) [LK.i IntKind.i64,LK.i IntKind.i64,LK.i IntKind.i64,LK.i IntKind.i64,LK.i IntKind.i64,LK.i IntKind.i64,LK.i IntKind.i64,LK.i IntKind.i64,LK.i IntKind.i64,LK.b,LK.i IntKind.i64,LK.i IntKind.i64,LK.i IntKind.i64,LK.i IntKind.i64]) l]) ([.cells [SV.bool bad] (nat_lit 30)]) Q = M.rMotion bad l (fun (x7:Bool) (x8 x9:L3) => Q (SV.tup [SV.sl (nat_lit 1),SV.sl (nat_lit 2)]) ([.cells [SV.bool x7] (nat_lit 30),.seq kP x8 (nat_lit 24),.seq kP x9 (nat_lit 24)])) := by kernel_rfl
def rMotion_sp:List AS := [.ptr 30 [.bool false],.ro (.st (.i .i64) [.i .i64,.i .i64,.i .i64,.i .i64,.i .i64,.i .i64,.i .i64,.i .i64,.i .i64,.b,.i .i64,.i .i64,.i .i64,.i .i64])]
noncomputable abbrev rMomentum_S1 (y1:Value) (y2:List L15) (y3:Int) (y4:Bool) (y5 y6 y7:Int) (y8:Bool) (y9:L3) (y10 y11 y12:Int):St := St.mk (some (SV.ptr (nat_lit 0) (nat_lit 0)) :: some (SV.ros y1 (K.st (LK.i IntKind.i64) [LK.i IntKind.i64,LK.i IntKind.i64,LK.i IntKind.i64,LK.i IntKind.i64,LK.i IntKind.i64,LK.i IntKind.i64,LK.i IntKind.i64,LK.i IntKind.i64,LK.i IntKind.i64,LK.b,LK.i IntKind.i64,LK.i IntKind.i64,LK.i IntKind.i64,LK.i IntKind.i64]) y2) :: none :: none :: some (SV.ptr (nat_lit 1) (nat_lit 0)) :: some (SV.ptr (nat_lit 2) (nat_lit 0)) :: none :: some (SV.sl (nat_lit 3)) :: some (SV.ptr (nat_lit 4) (nat_lit 0)) :: some (SV.int .i64 y3) :: nn 40 ([])) [.cells [SV.bool y4] (nat_lit 30),.cells [SV.int .i64 y5,SV.int .i64 y6,SV.int .i64 y7] (nat_lit 24),.cells [SV.bool y8] (nat_lit 30),.seq kP y9 (nat_lit 24),.cells [SV.int .i64 y10,SV.int .i64 y11,SV.int .i64 y12] (nat_lit 24)]
noncomputable abbrev rMomentum_S2 (y1:Bool) (y2 y3 y4:Int) (y5:Bool) (y6 y7 y8:Int):St := St.mk (some (SV.ptr (nat_lit 0) (nat_lit 0)) :: nn 3 (some (SV.ptr (nat_lit 1) (nat_lit 0)) :: some (SV.ptr (nat_lit 2) (nat_lit 0)) :: none :: none :: some (SV.ptr (nat_lit 3) (nat_lit 0)) :: nn 41 ([]))) [.cells [SV.bool y1] (nat_lit 30),.cells [SV.int .i64 y2,SV.int .i64 y3,SV.int .i64 y4] (nat_lit 24),.cells [SV.bool y5] (nat_lit 30),.cells [SV.int .i64 y6,SV.int .i64 y7,SV.int .i64 y8] (nat_lit 24)]
noncomputable abbrev rMomentum_S3:St := St.mk (some (SV.ptr (nat_lit 0) (nat_lit 0)) :: some (SV.ros undef (K.st (LK.i IntKind.i64) [LK.i IntKind.i64,LK.i IntKind.i64,LK.i IntKind.i64,LK.i IntKind.i64,LK.i IntKind.i64,LK.i IntKind.i64,LK.i IntKind.i64,LK.i IntKind.i64,LK.i IntKind.i64,LK.b,LK.i IntKind.i64,LK.i IntKind.i64,LK.i IntKind.i64,LK.i IntKind.i64]) []) :: none :: none :: some (SV.ptr (nat_lit 1) (nat_lit 0)) :: some (SV.ptr (nat_lit 2) (nat_lit 0)) :: none :: some (SV.sl (nat_lit 3)) :: some (SV.ptr (nat_lit 4) (nat_lit 0)) :: some (SV.int .i64 (0:Int)) :: nn 40 ([])) [.cells [SV.bool false] (nat_lit 30),.cells [SV.int .i64 (0:Int),SV.int .i64 (0:Int),SV.int .i64 (0:Int)] (nat_lit 24),.cells [SV.bool false] (nat_lit 30),.seq kP [] (nat_lit 24),.cells [SV.int .i64 (0:Int),SV.int .i64 (0:Int),SV.int .i64 (0:Int)] (nat_lit 24)]
abbrev rMomentum_P1:List Bool := [false,true,false,true,true,true,true,true]
noncomputable def M.rMomentum_l0_step {α:Type} (x24:List L15) (x31:L3) (kn:Int → Bool → Int → Int → Int → Option α) (k1:Bool → Int → Int → Int → Option α) (x25:Int) (x30:Bool) (x32 x33 x34:Int):Option α := let s35 := (↑(List.length x24):Int); let s36 := V.tScale (List.getD x31 (Int.toNat x25) ((0:Int),(0:Int),(0:Int))) (Prod.snd (Prod.snd (Prod.snd (Prod.snd (Prod.snd (Prod.snd (Prod.snd (Prod.snd (Prod.snd (Prod.snd (Prod.snd (Prod.snd (Prod.snd (Prod.snd (List.getD x24 (Int.toNat x25) ((0:Int),(0:Int),(0:Int),(0:Int),(0:Int),(0:Int),(0:Int),(0:Int),(0:Int),(0:Int),false,(0:Int),(0:Int),(0:Int),(0:Int))))))))))))))))); let s37 := V.tAdd (x32,x33,x34) (V.q3 s36); if cLt x25 s35 = true then if (0:Int) ≤ x25 ∧ x25 < (↑(List.length x31):Int) then if (0:Int) ≤ x25 ∧ x25 < s35 then kn (IntKind.wrap .i64 (x25 + (1:Int))) (V.on s37 (V.on s36 x30)) (V.x3 s37) (V.y3 s37) (V.z3 s37) else none else none else k1 x30 x32 x33 x34
noncomputable def M.rMomentum_l0 {α:Type} (x24:List L15) (x31:L3) (k1:Bool → Int → Int → Int → Option α):Nat → Int → Bool → Int → Int → Int → Option α
 | 0,_,_,_,_,_ => none
 | n + 1,x25,x30,x32,x33,x34 => M.rMomentum_l0_step x24 x31 (M.rMomentum_l0 x24 x31 k1 n) k1 x25 x30 x32 x33 x34
theorem rMomentum_l0_step_eq {α:Type} (x23:Value) (x24:List L15) (x25:Int) (x26:Bool) (x27 x28 x29:Int) (x30:Bool) (x31:L3) (x32 x33 x34:Int) (Q:Ex → St → Option α):(loopStep E (exec E look_rloads noLps 400) 17 rMomentum_P1 1 (codeAt E.P 17 rMomentum_P1)) (rMomentum_S1 x23 x24 x25 x26 x27 x28 x29 x30 x31 x32 x33 x34) Q = M.rMomentum_l0_step x24 x31 (fun (x42:Int) (x43:Bool) (x44 x45 x46:Int) => Q .normal (rMomentum_S1 x23 x24 x42 x26 x27 x28 x29 x43 x31 x44 x45 x46)) (fun (x38:Bool) (x39 x40 x41:Int) => Q (.exit 0) (rMomentum_S2 x26 x27 x28 x29 x38 x39 x40 x41)) x25 x30 x32 x33 x34 := by kernel_rfl
theorem rMomentum_l0_iter {α:Type} (x23:Value) (x24:List L15) (x26:Bool) (x27 x28 x29:Int) (x31:L3) (Q:Ex → St → Option α):∀ (n:Nat) (x25:Int) (x30:Bool) (x32 x33 x34:Int),iter (loopStep E (exec E look_rloads noLps 400) 17 rMomentum_P1 1 (codeAt E.P 17 rMomentum_P1)) n (rMomentum_S1 x23 x24 x25 x26 x27 x28 x29 x30 x31 x32 x33 x34) Q = M.rMomentum_l0 x24 x31 (fun (x38:Bool) (x39 x40 x41:Int) => Q (.exit 0) (rMomentum_S2 x26 x27 x28 x29 x38 x39 x40 x41)) n x25 x30 x32 x33 x34
 | 0,_,_,_,_,_ => rfl
 | n + 1,x25,x30,x32,x33,x34 => (rMomentum_l0_step_eq x23 x24 x25 x26 x27 x28 x29 x30 x31 x32 x33 x34 (iterK (loopStep E (exec E look_rloads noLps 400) 17 rMomentum_P1 1 (codeAt E.P 17 rMomentum_P1)) n Q)).trans (congrArg (fun kn => M.rMomentum_l0_step x24 x31 kn (fun (x38:Bool) (x39 x40 x41:Int) => Q (.exit 0) (rMomentum_S2 x26 x27 x28 x29 x38 x39 x40 x41)) x25 x30 x32 x33 x34) (funext fun x25 => funext fun x30 => funext fun x32 => funext fun x33 => funext fun x34 => rMomentum_l0_iter x23 x24 x26 x27 x28 x29 x31 Q n x25 x30 x32 x33 x34))
noncomputable def rMomentum_l0_go {α:Type} (ds:List D) (Q:Ex → St → Option α):Option α :=
 dV ds fun x23 ds => dL (K.st (LK.i IntKind.i64) [LK.i IntKind.i64,LK.i IntKind.i64,LK.i IntKind.i64,LK.i IntKind.i64,LK.i IntKind.i64,LK.i IntKind.i64,LK.i IntKind.i64,LK.i IntKind.i64,LK.i IntKind.i64,LK.b,LK.i IntKind.i64,LK.i IntKind.i64,LK.i IntKind.i64,LK.i IntKind.i64]) ds fun x24 ds => dI ds fun x25 ds => dB ds fun x26 ds => dI ds fun x27 ds => dI ds fun x28 ds => dI ds fun x29 ds => dB ds fun x30 ds => dL kP ds fun x31 ds => dI ds fun x32 ds => dI ds fun x33 ds => dI ds fun x34 ds => dE ds (M.rMomentum_l0 x24 x31 (fun (x38:Bool) (x39 x40 x41:Int) => Q (.exit 0) (rMomentum_S2 x26 x27 x28 x29 x38 x39 x40 x41)) (100 + x24.length + x31.length) x25 x30 x32 x33 x34)
theorem rMomentum_l0_ok {α:Type}:LoopOk E.P 17 rMomentum_P1 1 (lEnt (α := α) (rMomentum_S3) rMomentum_l0_go) :=
 lEnt_ok E (exec_sound E E_ok (look_rloads_ok) (noLps_ok _) 400) fun ds Q r h S hS => by
   unfold rMomentum_l0_go at h
   obtain ⟨x23,ds,rfl,h1⟩ := dV_inv h
   obtain ⟨x24,ds,rfl,h2⟩ := dL_inv h1
   obtain ⟨x25,ds,rfl,h3⟩ := dI_inv h2
   obtain ⟨x26,ds,rfl,h4⟩ := dB_inv h3
   obtain ⟨x27,ds,rfl,h5⟩ := dI_inv h4
   obtain ⟨x28,ds,rfl,h6⟩ := dI_inv h5
   obtain ⟨x29,ds,rfl,h7⟩ := dI_inv h6
   obtain ⟨x30,ds,rfl,h8⟩ := dB_inv h7
   obtain ⟨x31,ds,rfl,h9⟩ := dL_inv h8
   obtain ⟨x32,ds,rfl,h10⟩ := dI_inv h9
   obtain ⟨x33,ds,rfl,h11⟩ := dI_inv h10
   obtain ⟨x34,ds,rfl,h12⟩ := dI_inv h11
   obtain ⟨rfl,hE⟩ := dE_inv h12
   have e:fillS (rMomentum_S3) [.v x23,.l (K.st (LK.i IntKind.i64) [LK.i IntKind.i64,LK.i IntKind.i64,LK.i IntKind.i64,LK.i IntKind.i64,LK.i IntKind.i64,LK.i IntKind.i64,LK.i IntKind.i64,LK.i IntKind.i64,LK.i IntKind.i64,LK.b,LK.i IntKind.i64,LK.i IntKind.i64,LK.i IntKind.i64,LK.i IntKind.i64]) x24,.i x25,.b x26,.i x27,.i x28,.i x29,.b x30,.l kP x31,.i x32,.i x33,.i x34] = some (rMomentum_S1 x23 x24 x25 x26 x27 x28 x29 x30 x31 x32 x33 x34) := by kernel_rfl
   rw [e] at hS
   cases hS
   exact ⟨_,(rMomentum_l0_iter x23 x24 x26 x27 x28 x29 x31 Q _ x25 x30 x32 x33 x34).trans hE⟩
noncomputable def rMomentum_l0_lps {α:Type}:LookL α := addLp 17 rMomentum_P1 1 (lEnt (rMomentum_S3) rMomentum_l0_go) noLps
theorem rMomentum_l0_lps_ok {α:Type}:LoopsOk E.P (rMomentum_l0_lps (α := α)) := addLp_ok rMomentum_l0_ok (noLps_ok _)
noncomputable def M.rMomentum {α:Type} (bad:Bool) (l:List L15) (k0:Int → Int → Int → Bool → Option α):Option α := if (!cEq (V.chC l) (0:Int)) = true then k0 (0:Int) (0:Int) (0:Int) bad else if V.chC l = (0:Int) then M.rMomentum_l0 l (V.rmV l) (fun (x48:Bool) (x49 x50 x51:Int) ↦ if bad = true then if (!!x48) = true then k0 (0:Int) (0:Int) (0:Int) true else k0 x49 x50 x51 true else if (!!x48) = true then k0 (0:Int) (0:Int) (0:Int) x48 else k0 x49 x50 x51 x48) ((100:Nat) + List.length l + List.length (V.rmV l)) (0:Int) (V.rmB l false) (0:Int) (0:Int) (0:Int) else none
theorem rMomentum_eq {α:Type} (bad:Bool) (l:List L15) (v47:Value) (Q:SV → Hp → Option α):callI E look_rloads (exec E look_rloads rMomentum_l0_lps 400) 17 ([SV.ptr (nat_lit 0) (nat_lit 0),SV.ros v47 (K.st (LK.i IntKind.i64) [LK.i IntKind.i64,LK.i IntKind.i64,LK.i IntKind.i64,LK.i IntKind.i64,LK.i IntKind.i64,LK.i IntKind.i64,LK.i IntKind.i64,LK.i IntKind.i64,LK.i IntKind.i64,LK.b,LK.i IntKind.i64,LK.i IntKind.i64,LK.i IntKind.i64,LK.i IntKind.i64]) l]) ([.cells [SV.bool bad] (nat_lit 30)]) Q = M.rMomentum bad l (fun (x52 x53 x54:Int) (x55:Bool) => Q (SV.agg [SV.int .i64 x52,SV.int .i64 x53,SV.int .i64 x54]) ([.cells [SV.bool x55] (nat_lit 30)])) := by kernel_rfl
def rMomentum_sp:List AS := [.ptr 30 [.bool false],.ro (.st (.i .i64) [.i .i64,.i .i64,.i .i64,.i .i64,.i .i64,.i .i64,.i .i64,.i .i64,.i .i64,.b,.i .i64,.i .i64,.i .i64,.i .i64])]
theorem rPlaces_v {α:Type} (bad:Bool) (l:List L15) (k0:Bool → List T7 → Option α):M.rPlaces bad l k0 = k0 bad (V.plcs l) := by
 unfold M.rPlaces
 try simp only
 rw [cEq_eq]
 by_cases h:V.chC l = 0
 · rw [if_neg (by rw [h]; decide), if_pos h]
   cases bad <;> rfl
 · rw [if_pos (by simpa using h)]
   unfold V.plcs
   rw [hid_eq,if_neg h]
theorem rMiddles_v {α:Type} (bad:Bool) (l:List L15) (k0:Bool → List V.T3 → Option α):M.rMiddles bad l k0 = k0 bad (V.mdls l) := by
 unfold M.rMiddles
 try simp only
 rw [cEq_eq]
 by_cases h:V.chC l = 0
 · rw [if_neg (by rw [h]; decide), if_pos h, if_pos (by first | exact gB_of ⟨h, trivial⟩ | exact gB_of ⟨h, rfl⟩)]
   cases bad <;> rfl
 · rw [if_pos (by simpa using h)]
   unfold V.mdls
   rw [hid_eq,if_neg h]
theorem rMotion_v {α:Type} (bad:Bool) (l:List L15) (k0:Bool → List V.T3 → List V.T3 → Option α):M.rMotion bad l k0 = k0 (V.motB l bad) (V.motS l) (V.motV l) := by
 unfold M.rMotion V.motB V.motS V.motV V.rmB V.rmS V.rmV
 try simp only
 rw [hid_eq,hid_eq,hid_eq,hid_eq,hid_eq,hid_eq,cEq_eq]
 by_cases h:V.chC l = 0
 · rw [if_neg (by rw [h]; decide), if_pos h]
   cases hb:(pcR l).1 with
   | true => cases bad <;> simp [h]
   | false => cases bad <;> simp [h]
 · rw [if_pos (by simpa using h)]
   simp [h]
theorem rMomentum_l0_val {α:Type} (C:List L15) (W:List V.T3) (bad:Bool) (hC:C.length ≤ 1000) (hW:W.length = C.length) (k1:Bool → Int → Int → Int → Option α):∀ (fuel i:Nat),i ≤ C.length → C.length - i < fuel →
   M.rMomentum_l0 C W k1 fuel (i:Int) (dsL C W bad i).1 (dsL C W bad i).2.1 (dsL C W bad i).2.2.1 (dsL C W bad i).2.2.2 = k1 (dsL C W bad C.length).1 (dsL C W bad C.length).2.1 (dsL C W bad C.length).2.2.1 (dsL C W bad C.length).2.2.2
 | 0,i,h1,h2 => by omega
 | f + 1,i,h1,h2 => by
   by_cases hi:i < C.length
   · have ih := rMomentum_l0_val C W bad hC hW k1 f (i + 1) (by omega) (by omega)
     have g0:List.getD C (Int.toNat (i:Int)) (0,0,0,0,0,0,0,0,0,0,false,0,0,0,0) = lnk C i := rfl
     have g1:List.getD W (Int.toNat (i:Int)) (0,0,0) = W.getD i v30 := rfl
     unfold M.rMomentum_l0 M.rMomentum_l0_step
     try simp only
     rw [cLt_nat,if_pos (by simpa using hi),g0,g1,hW,if_pos (by omega),if_pos (by omega),w_next (by omega)]
     exact ih
   · have : i = C.length := by omega
     subst this
     unfold M.rMomentum_l0 M.rMomentum_l0_step
     try simp only
     rw [cLt_nat,if_neg (by simp)]
theorem rMomentum_v {α:Type} (bad:Bool) (l:List L15) (k0:Int → Int → Int → Bool → Option α):M.rMomentum bad l k0 = k0 (V.mom l).1 (V.mom l).2.1 (V.mom l).2.2 (V.momB l bad) := by
 unfold M.rMomentum V.momB V.mom V.rmB V.rmV
 try simp only
 rw [hid_eq,hid_eq,hid_eq,hid_eq,cEq_eq]
 by_cases h:V.chC l = 0
 · have h12 := ((chC_iff l).1 h).1
   have lV:(pcR l).2.length = l.length := pcL_len _ _ _ _
   rw [if_neg (by rw [h]; decide),if_pos h]
   refine Eq.trans (rMomentum_l0_val l (pcR l).2 (false || (pcR l).1) (by omega) lV _ _ 0 (by omega) (by omega)) ?_
   rw [dsL_end l false lV]
   cases hb:(smR l).1 with
   | true => cases bad <;> simp [h]
   | false => cases bad <;> simp [h]
 · rw [if_pos (by simpa using h)]
   simp [h]
noncomputable def rPlaces_h {α:Type} (ds:List D) (Q:SV → Hp → Option α):Option α :=
 dB ds fun bad ds => dL (K.st (LK.i IntKind.i64) [LK.i IntKind.i64,LK.i IntKind.i64,LK.i IntKind.i64,LK.i IntKind.i64,LK.i IntKind.i64,LK.i IntKind.i64,LK.i IntKind.i64,LK.i IntKind.i64,LK.i IntKind.i64,LK.b,LK.i IntKind.i64,LK.i IntKind.i64,LK.i IntKind.i64,LK.i IntKind.i64]) ds fun l ds => dE ds (Q (.sl 1) ([.cells [.bool bad] 30,.seq kPs (V.plcs l) 59]))
theorem rPlaces_h_ok {α:Type}:FnOk E.P 10 (fEnt (α := α) rPlaces_sp rPlaces_h) :=
 fEntR_ok E (look_rloads_ok) (exec_sound E E_ok (look_rloads_ok) (noLps_ok _) 400) fun ds Q r h => by
   unfold rPlaces_h at h
   obtain ⟨bad,ds,rfl,h1⟩ := dB_inv h
   obtain ⟨l,ds,rfl,h2⟩ := dL_inv h1
   obtain ⟨rfl,hE⟩ := dE_inv h2
   exact ⟨_,_,hE,fun vs => ⟨_,_,by kernel_rfl,(rPlaces_eq bad l (vs.tail.headD undef) _).trans (rPlaces_v bad l _)⟩⟩
noncomputable def look_rPlaces {α:Type}:LookF α := addFn 10 (fEnt rPlaces_sp rPlaces_h) look_rloads
theorem look_rPlaces_ok {α:Type}:LookOk E.P (look_rPlaces (α := α)) := addFn_ok rPlaces_h_ok (look_rloads_ok)
noncomputable def rMiddles_h {α:Type} (ds:List D) (Q:SV → Hp → Option α):Option α :=
 dB ds fun bad ds => dL (K.st (LK.i IntKind.i64) [LK.i IntKind.i64,LK.i IntKind.i64,LK.i IntKind.i64,LK.i IntKind.i64,LK.i IntKind.i64,LK.i IntKind.i64,LK.i IntKind.i64,LK.i IntKind.i64,LK.i IntKind.i64,LK.b,LK.i IntKind.i64,LK.i IntKind.i64,LK.i IntKind.i64,LK.i IntKind.i64]) ds fun l ds => dE ds (Q (.sl 1) ([.cells [.bool bad] 30,.seq kP (V.mdls l) 24]))
theorem rMiddles_h_ok {α:Type}:FnOk E.P 13 (fEnt (α := α) rMiddles_sp rMiddles_h) :=
 fEntR_ok E (look_rloads_ok) (exec_sound E E_ok (look_rloads_ok) (noLps_ok _) 400) fun ds Q r h => by
   unfold rMiddles_h at h
   obtain ⟨bad,ds,rfl,h1⟩ := dB_inv h
   obtain ⟨l,ds,rfl,h2⟩ := dL_inv h1
   obtain ⟨rfl,hE⟩ := dE_inv h2
   exact ⟨_,_,hE,fun vs => ⟨_,_,by kernel_rfl,(rMiddles_eq bad l (vs.tail.headD undef) _).trans (rMiddles_v bad l _)⟩⟩
noncomputable def look_rMiddles {α:Type}:LookF α := addFn 13 (fEnt rMiddles_sp rMiddles_h) look_rPlaces
theorem look_rMiddles_ok {α:Type}:LookOk E.P (look_rMiddles (α := α)) := addFn_ok rMiddles_h_ok (look_rPlaces_ok)
noncomputable def rMotion_h {α:Type} (ds:List D) (Q:SV → Hp → Option α):Option α :=
 dB ds fun bad ds => dL (K.st (LK.i IntKind.i64) [LK.i IntKind.i64,LK.i IntKind.i64,LK.i IntKind.i64,LK.i IntKind.i64,LK.i IntKind.i64,LK.i IntKind.i64,LK.i IntKind.i64,LK.i IntKind.i64,LK.i IntKind.i64,LK.b,LK.i IntKind.i64,LK.i IntKind.i64,LK.i IntKind.i64,LK.i IntKind.i64]) ds fun l ds => dE ds (Q (.tup [.sl 1,.sl 2]) ([.cells [.bool (V.motB l bad)] 30,.seq kP (V.motS l) 24,.seq kP (V.motV l) 24]))
theorem rMotion_h_ok {α:Type}:FnOk E.P 15 (fEnt (α := α) rMotion_sp rMotion_h) :=
 fEntR_ok E (look_rloads_ok) (exec_sound E E_ok (look_rloads_ok) (noLps_ok _) 400) fun ds Q r h => by
   unfold rMotion_h at h
   obtain ⟨bad,ds,rfl,h1⟩ := dB_inv h
   obtain ⟨l,ds,rfl,h2⟩ := dL_inv h1
   obtain ⟨rfl,hE⟩ := dE_inv h2
   exact ⟨_,_,hE,fun vs => ⟨_,_,by kernel_rfl,(rMotion_eq bad l (vs.tail.headD undef) _).trans (rMotion_v bad l _)⟩⟩
noncomputable def look_rMotion {α:Type}:LookF α := addFn 15 (fEnt rMotion_sp rMotion_h) look_rMiddles
theorem look_rMotion_ok {α:Type}:LookOk E.P (look_rMotion (α := α)) := addFn_ok rMotion_h_ok (look_rMiddles_ok)
noncomputable def rMomentum_h {α:Type} (ds:List D) (Q:SV → Hp → Option α):Option α :=
 dB ds fun bad ds => dL (K.st (LK.i IntKind.i64) [LK.i IntKind.i64,LK.i IntKind.i64,LK.i IntKind.i64,LK.i IntKind.i64,LK.i IntKind.i64,LK.i IntKind.i64,LK.i IntKind.i64,LK.i IntKind.i64,LK.i IntKind.i64,LK.b,LK.i IntKind.i64,LK.i IntKind.i64,LK.i IntKind.i64,LK.i IntKind.i64]) ds fun l ds => dE ds (Q (.agg [.int .i64 (V.mom l).1,.int .i64 (V.mom l).2.1,.int .i64 (V.mom l).2.2]) ([.cells [.bool (V.momB l bad)] 30]))
theorem rMomentum_h_ok {α:Type}:FnOk E.P 17 (fEnt (α := α) rMomentum_sp rMomentum_h) :=
 fEntR_ok E (look_rloads_ok) (exec_sound E E_ok (look_rloads_ok) (rMomentum_l0_lps_ok) 400) fun ds Q r h => by
   unfold rMomentum_h at h
   obtain ⟨bad,ds,rfl,h1⟩ := dB_inv h
   obtain ⟨l,ds,rfl,h2⟩ := dL_inv h1
   obtain ⟨rfl,hE⟩ := dE_inv h2
   exact ⟨_,_,hE,fun vs => ⟨_,_,by kernel_rfl,(rMomentum_eq bad l (vs.tail.headD undef) _).trans (rMomentum_v bad l _)⟩⟩
noncomputable def look_rMomentum {α:Type}:LookF α := addFn 17 (fEnt rMomentum_sp rMomentum_h) look_rMotion
theorem look_rMomentum_ok {α:Type}:LookOk E.P (look_rMomentum (α := α)) := addFn_ok rMomentum_h_ok (look_rMotion_ok)
end
section
open Go
set_option maxRecDepth 20000
noncomputable def look_ChXf_chposes {α:Type}:LookF α := addFn 8 (fEnt chposes_sp chposes_h) look_rMomentum
theorem look_ChXf_chposes_ok {α:Type}:LookOk E.P (look_ChXf_chposes (α := α)) := addFn_ok chposes_h_ok (look_rMomentum_ok)
noncomputable def M.chtells {α:Type} (l:List L15) (px:Int) (p_y:Int) (pz:Int) (k0:Bool → Option α):Option α := if cLt (40:Int) (↑(List.length l):Int) = true then k0 true else if (!cEq (V.chC l) (V.chC l)) = true then k0 false else if V.lenC (List.length (V.plcs l)) = true then if (!V.psEq (V.plcs l) (V.plcs l)) = true then k0 false else if V.lenC (List.length (V.mdls l)) = true then if (!V.vsEq (V.mdls l) (V.mdls l)) = true then k0 false else if V.lenC (List.length (V.motS l)) = true then if (!V.vsEq (V.motS l) (V.motS l)) = true then k0 false else if V.lenC (List.length (V.motV l)) = true then if (!V.vsEq (V.motV l) (V.motV l)) = true then k0 false else if (!V.motB l false == V.motB l false) = true then k0 false else if (!(cEq (Prod.fst (V.mom l)) (Prod.fst (V.mom l)) && (cEq (Prod.fst (Prod.snd (V.mom l))) (Prod.fst (Prod.snd (V.mom l))) && (cEq (Prod.snd (Prod.snd (V.mom l))) (Prod.snd (Prod.snd (V.mom l))) && true)))) = true then k0 false else if (!V.momB l (V.motB l false) == V.momB l (V.motB l false)) = true then k0 false else if V.lenC (List.length (V.ldsF l px p_y pz)) = true then if V.vsEq (V.ldsF l px p_y pz) (V.ldsF l px p_y pz) = true then if V.lenC (List.length (V.ldsT l px p_y pz)) = true then if V.vsEq (V.ldsT l px p_y pz) (V.ldsT l px p_y pz) = true then if V.lenC (List.length (V.ldsN l px p_y pz)) = true then if V.nsEq (V.ldsN l px p_y pz) (V.ldsN l px p_y pz) = true then k0 (V.ldsB l px p_y pz (V.momB l (V.motB l false)) == V.ldsB l px p_y pz (V.momB l (V.motB l false))) else k0 false else none else k0 false else none else k0 false else none else none else none else none else none
theorem chtells_eq {α:Type} (l:List L15) (px:Int) (p_y:Int) (pz:Int) (v0:Value) (Q:SV → Hp → Option α):callI E look_ChXf_chposes (exec E look_ChXf_chposes noLps 400) 3 ([SV.ros v0 (K.st (LK.i IntKind.i64) [LK.i IntKind.i64,LK.i IntKind.i64,LK.i IntKind.i64,LK.i IntKind.i64,LK.i IntKind.i64,LK.i IntKind.i64,LK.i IntKind.i64,LK.i IntKind.i64,LK.i IntKind.i64,LK.b,LK.i IntKind.i64,LK.i IntKind.i64,LK.i IntKind.i64,LK.i IntKind.i64]) l,SV.agg [SV.int .i64 px,SV.int .i64 p_y,SV.int .i64 pz]]) ([]) Q = M.chtells l px p_y pz (fun (x1:Bool) => Q (SV.bool x1) ([])) := by kernel_rfl
def chtells_sp:List AS := [.ro (.st (.i .i64) [.i .i64,.i .i64,.i .i64,.i .i64,.i .i64,.i .i64,.i .i64,.i .i64,.i .i64,.b,.i .i64,.i .i64,.i .i64,.i .i64]),.val (.agg [.int .i64 0,.int .i64 0,.int .i64 0])]
theorem lens {l:List L15} (px p_y pz:Int):V.lenC (V.plcs l).length = true ∧ V.lenC (V.mdls l).length = true ∧ V.lenC (V.motS l).length = true ∧ V.lenC (V.motV l).length = true ∧
   V.lenC (V.ldsF l px p_y pz).length = true ∧ V.lenC (V.ldsT l px p_y pz).length = true ∧ V.lenC (V.ldsN l px p_y pz).length = true := by
 by_cases h:V.chC l = 0
 · obtain ⟨_, e2, e3, _⟩ := lay_zip h
   have lM:(mvR l).2.length = l.length := mvL_len l (chP l) false l.length
   have lV:(pcR l).2.length = l.length := pcL_len _ _ _ _
   have lL := ldA_len l (chP l) (px,p_y,pz) l.length (ldZ l.length)
   have lL1:(ldR l (px,p_y,pz)).2.1.length = l.length := lL.1.trans (by simp [ldZ])
   have lL2:(ldR l (px,p_y,pz)).2.2.1.length = l.length := lL.2.1.trans (by simp [ldZ])
   have lL3:(ldR l (px,p_y,pz)).2.2.2.length = l.length := lL.2.2.trans (by simp [ldZ])
   have hl:∀ {n:Nat},n = l.length → V.lenC n = true := fun e => lenC_of (by omega)
   have h0:V.lenC 0 = true := lenC_of (by omega)
   refine ⟨hl (by rw [plcs_eq h,List.length_map,e2]),hl (by rw [mdls_eq h,List.length_map,e2]),?_,?_,?_,?_,?_⟩
   · unfold V.motS; rw [hid_eq]; split
     · exact hl (by rw [List.length_map,lM])
     · exact h0
   · unfold V.motV; rw [hid_eq]; split
     · exact hl lV
     · exact h0
   · unfold V.ldsF; rw [hid_eq]; split
     · exact hl lL1
     · exact h0
   · unfold V.ldsT; rw [hid_eq]; split
     · exact hl lL2
     · exact h0
   · unfold V.ldsN; rw [hid_eq]; split
     · exact hl lL3
     · exact h0
 · have h0 : V.lenC 0 = true := lenC_of (by omega)
   have q:∀ {p:Prop},¬ (V.chC l = 0 ∧ p) := fun hc => h hc.1
   refine ⟨?_,?_,?_,?_,?_,?_,?_⟩
   · unfold V.plcs; rw [hid_eq,if_neg h]; exact h0
   · unfold V.mdls; rw [hid_eq,if_neg h]; exact h0
   · unfold V.motS; rw [hid_eq,if_neg q]; exact h0
   · unfold V.motV; rw [hid_eq,if_neg q]; exact h0
   · unfold V.ldsF; rw [hid_eq,if_neg q]; exact h0
   · unfold V.ldsT; rw [hid_eq,if_neg q]; exact h0
   · unfold V.ldsN; rw [hid_eq,if_neg q]; exact h0
theorem chtells_v {α:Type} (l:List L15) (px p_y pz:Int) (k0:Bool → Option α):M.chtells l px p_y pz k0 = k0 true := by
 obtain ⟨l1,l2,l3,l4,l5,l6,l7⟩ := lens (l := l) px p_y pz
 have vs:∀ a:List V.T3,V.vsEq a a = true := fun a => exB_true rfl
 have ps:∀ a:List T7,V.psEq a a = true := fun a => exB_true rfl
 have ns:∀ a:List Int,V.nsEq a a = true := fun a => exB_true rfl
 unfold M.chtells
 by_cases h40:cLt 40 (l.length:Int) = true
 · rw [if_pos h40]
 · have be : ∀ b : Bool, (b == b) = true := fun b => by cases b <;> rfl
   have ce:∀ x:Int,cEq x x = true := fun x => by rw [cEq_eq]; exact beq_self_eq_true x
   rw [if_neg h40,ce,if_neg (by decide),if_pos l1,ps,if_neg (by decide),if_pos l2,vs,if_neg (by decide),if_pos l3,vs,if_neg (by decide),if_pos l4,vs,if_neg (by decide),be,if_neg (by decide),ce,ce,ce,if_neg (by decide),be,if_neg (by decide),if_pos l5,vs,if_pos rfl,if_pos l6,vs,if_pos rfl,if_pos l7,ns,if_pos rfl,be]
noncomputable def chtells_h {α:Type} (ds:List D) (Q:SV → Hp → Option α):Option α :=
 dL (K.st (LK.i IntKind.i64) [LK.i IntKind.i64,LK.i IntKind.i64,LK.i IntKind.i64,LK.i IntKind.i64,LK.i IntKind.i64,LK.i IntKind.i64,LK.i IntKind.i64,LK.i IntKind.i64,LK.i IntKind.i64,LK.b,LK.i IntKind.i64,LK.i IntKind.i64,LK.i IntKind.i64,LK.i IntKind.i64]) ds fun l ds => dI ds fun px ds => dI ds fun p_y ds => dI ds fun pz ds => dE ds (if true = true then Q (.bool true) ([]) else none)
theorem chtells_h_ok {α:Type}:FnOk E.P 3 (fEnt (α := α) chtells_sp chtells_h) :=
 fEntR_ok E (look_ChXf_chposes_ok) (exec_sound E E_ok (look_ChXf_chposes_ok) (noLps_ok _) 400) fun ds Q r h => by
   unfold chtells_h at h
   obtain ⟨l,ds,rfl,h1⟩ := dL_inv h
   obtain ⟨px,ds,rfl,h2⟩ := dI_inv h1
   obtain ⟨p_y,ds,rfl,h3⟩ := dI_inv h2
   obtain ⟨pz,ds,rfl,h4⟩ := dI_inv h3
   obtain ⟨rfl,hE⟩ := dE_inv h4
   split at hE
   · rename_i hg
     exact ⟨_,_,hE,fun vs => ⟨_,_,by kernel_rfl,(chtells_eq l px p_y pz (vs.headD undef) _).trans (chtells_v l px p_y pz _)⟩⟩
   · cases hE
noncomputable def look_chtells {α:Type}:LookF α := addFn 3 (fEnt chtells_sp chtells_h) look_ChXf_chposes
theorem look_chtells_ok {α:Type}:LookOk E.P (look_chtells (α := α)) := addFn_ok chtells_h_ok (look_ChXf_chposes_ok)
end
section
open Go
set_option maxRecDepth 20000
noncomputable def M.chrightl {α:Type} (l:List L15) (px:Int) (p_y:Int) (pz:Int) (k0:Bool → Option α):Option α := if cEq (V.chC (V.rtC l)) (0:Int) = true then if V.lvec_g px p_y pz (68719476736:Int) = true then k0 true else none else k0 false
theorem chrightl_eq {α:Type} (l:List L15) (px:Int) (p_y:Int) (pz:Int) (v0:Value) (Q:SV → Hp → Option α):callI E look_chtells (exec E look_chtells noLps 400) 4 ([SV.ros v0 (K.st (LK.i IntKind.i64) [LK.i IntKind.i64,LK.i IntKind.i64,LK.i IntKind.i64,LK.i IntKind.i64,LK.i IntKind.i64,LK.i IntKind.i64,LK.i IntKind.i64,LK.i IntKind.i64,LK.i IntKind.i64,LK.b,LK.i IntKind.i64,LK.i IntKind.i64,LK.i IntKind.i64,LK.i IntKind.i64]) l,SV.agg [SV.int .i64 px,SV.int .i64 p_y,SV.int .i64 pz]]) ([]) Q = M.chrightl l px p_y pz (fun (x1:Bool) => Q (SV.bool x1) ([])) := by kernel_rfl
def chrightl_sp:List AS := [.ro (.st (.i .i64) [.i .i64,.i .i64,.i .i64,.i .i64,.i .i64,.i .i64,.i .i64,.i .i64,.i .i64,.b,.i .i64,.i .i64,.i .i64,.i .i64]),.val (.agg [.int .i64 0,.int .i64 0,.int .i64 0])]
theorem chrightl_v {α:Type} (l:List L15) (px p_y pz:Int) (hg:((l.length < 9223372036854775808 ∧ ∀ x ∈ l,(RT.good (.i .i64) [.i .i64,.i .i64,.i .i64,.i .i64,.i .i64,.i .i64,.i .i64,.i .i64,.i .i64,.b,.i .i64,.i .i64,.i .i64,.i .i64]) x) ∧ (-9223372036854775808 ≤ px ∧ px < 9223372036854775808) ∧ (-9223372036854775808 ≤ p_y ∧ p_y < 9223372036854775808) ∧ (-9223372036854775808 ≤ pz ∧ pz < 9223372036854775808))) (k0:Bool → Option α):M.chrightl l px p_y pz k0 = k0 true := by
 obtain ⟨⟨gl,gp⟩,_⟩ := hg
 obtain ⟨_,r2,_⟩ := rtC_facts gp
 unfold M.chrightl
 rw [r2,cEq_eq,if_pos (by decide),if_pos (lvec_ge (by omega))]
noncomputable def chrightl_h {α:Type} (ds:List D) (Q:SV → Hp → Option α):Option α :=
 dL (K.st (LK.i IntKind.i64) [LK.i IntKind.i64,LK.i IntKind.i64,LK.i IntKind.i64,LK.i IntKind.i64,LK.i IntKind.i64,LK.i IntKind.i64,LK.i IntKind.i64,LK.i IntKind.i64,LK.i IntKind.i64,LK.b,LK.i IntKind.i64,LK.i IntKind.i64,LK.i IntKind.i64,LK.i IntKind.i64]) ds fun l ds => dI ds fun px ds => dI ds fun p_y ds => dI ds fun pz ds => dE ds (if V.gB ((l.length < 9223372036854775808 ∧ ∀ x ∈ l,(RT.good (.i .i64) [.i .i64,.i .i64,.i .i64,.i .i64,.i .i64,.i .i64,.i .i64,.i .i64,.i .i64,.b,.i .i64,.i .i64,.i .i64,.i .i64]) x) ∧ (-9223372036854775808 ≤ px ∧ px < 9223372036854775808) ∧ (-9223372036854775808 ≤ p_y ∧ p_y < 9223372036854775808) ∧ (-9223372036854775808 ≤ pz ∧ pz < 9223372036854775808)) = true then Q (.bool true) ([]) else none)
theorem chrightl_h_ok {α:Type}:FnOk E.P 4 (fEnt (α := α) chrightl_sp chrightl_h) :=
 fEntR_ok E (look_chtells_ok) (exec_sound E E_ok (look_chtells_ok) (noLps_ok _) 400) fun ds Q r h => by
   unfold chrightl_h at h
   obtain ⟨l,ds,rfl,h1⟩ := dL_inv h
   obtain ⟨px,ds,rfl,h2⟩ := dI_inv h1
   obtain ⟨p_y,ds,rfl,h3⟩ := dI_inv h2
   obtain ⟨pz,ds,rfl,h4⟩ := dI_inv h3
   obtain ⟨rfl,hE⟩ := dE_inv h4
   split at hE
   · rename_i hg
     exact ⟨_,_,hE,fun vs => ⟨_,_,by kernel_rfl,(chrightl_eq l px p_y pz (vs.headD undef) _).trans (chrightl_v l px p_y pz (gB_iff hg) _)⟩⟩
   · cases hE
end
end Go.Proofs.YtajomehkgaamoaaGreat.Sx
