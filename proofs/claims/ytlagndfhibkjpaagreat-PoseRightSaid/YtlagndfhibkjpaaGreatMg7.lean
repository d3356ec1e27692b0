/- Texts of the walk, merged. -/
import Derived.Test.YtlagndfhibkjpaaGreatMg6
import Derived.Test.YtlagndfhibkjpaaGreatMg5
set_option linter.unusedVariables false
set_option linter.unusedSimpArgs false
namespace Go.Proofs.YtlagndfhibkjpaaGreat.Sx
section
open Go
set_option maxRecDepth 20000
noncomputable abbrev rtimes_S1 (y1 y2 y3:Int) (y4:Bool) (y5:List Int) (y6:Bool) (y7:List Int) (y8:Bool) (y9:List Int) (y10:Bool) (y11:List Int):St := St.mk (none :: none :: some (SV.ptr (nat_lit 0) (nat_lit 0)) :: some (SV.ptr (nat_lit 1) (nat_lit 0)) :: some (SV.ptr (nat_lit 2) (nat_lit 0)) :: some (SV.ptr (nat_lit 3) (nat_lit 0)) :: some (SV.int .i64 y1) :: some (SV.int .i64 y2) :: some (SV.int .i64 y3) :: nn 50 ([])) [.cells [SV.bool y4,SV.arr (K.int IntKind.i64) y5 (nat_lit 8)] (nat_lit 115),.cells [SV.bool y6,SV.arr (K.int IntKind.i64) y7 (nat_lit 8)] (nat_lit 115),.cells [SV.bool y8,SV.arr (K.int IntKind.i64) y9 (nat_lit 8)] (nat_lit 115),.cells [SV.bool y10,SV.arr (K.int IntKind.i64) y11 (nat_lit 8)] (nat_lit 115)]
noncomputable abbrev rtimes_S2 (y1:Int) (y2:Bool) (y3:List Int) (y4:Bool) (y5:List Int) (y6:Bool) (y7:List Int) (y8:Bool) (y9:List Int):St := St.mk (none :: none :: some (SV.ptr (nat_lit 0) (nat_lit 0)) :: some (SV.ptr (nat_lit 1) (nat_lit 0)) :: some (SV.ptr (nat_lit 2) (nat_lit 0)) :: some (SV.ptr (nat_lit 3) (nat_lit 0)) :: some (SV.int .i64 y1) :: nn 52 ([])) [.cells [SV.bool y2,SV.arr (K.int IntKind.i64) y3 (nat_lit 8)] (nat_lit 115),.cells [SV.bool y4,SV.arr (K.int IntKind.i64) y5 (nat_lit 8)] (nat_lit 115),.cells [SV.bool y6,SV.arr (K.int IntKind.i64) y7 (nat_lit 8)] (nat_lit 115),.cells [SV.bool y8,SV.arr (K.int IntKind.i64) y9 (nat_lit 8)] (nat_lit 115)]
noncomputable abbrev rtimes_S3:St := St.mk (none :: none :: some (SV.ptr (nat_lit 0) (nat_lit 0)) :: some (SV.ptr (nat_lit 1) (nat_lit 0)) :: some (SV.ptr (nat_lit 2) (nat_lit 0)) :: some (SV.ptr (nat_lit 3) (nat_lit 0)) :: some (SV.int .i64 (0:Int)) :: some (SV.int .i64 (0:Int)) :: some (SV.int .i64 (0:Int)) :: nn 50 ([])) [.cells [SV.bool false,SV.arr (K.int IntKind.i64) [] (nat_lit 8)] (nat_lit 115),.cells [SV.bool false,SV.arr (K.int IntKind.i64) [] (nat_lit 8)] (nat_lit 115),.cells [SV.bool false,SV.arr (K.int IntKind.i64) [] (nat_lit 8)] (nat_lit 115),.cells [SV.bool false,SV.arr (K.int IntKind.i64) [] (nat_lit 8)] (nat_lit 115)]
noncomputable abbrev rtimes_S4 (y1:Bool) (y2:List Int) (y3:Bool) (y4:List Int) (y5:Bool) (y6:List Int) (y7:Bool) (y8:List Int):St := St.mk (none :: none :: some (SV.ptr (nat_lit 0) (nat_lit 0)) :: some (SV.ptr (nat_lit 1) (nat_lit 0)) :: some (SV.ptr (nat_lit 2) (nat_lit 0)) :: some (SV.ptr (nat_lit 3) (nat_lit 0)) :: nn 53 ([])) [.cells [SV.bool y1,SV.arr (K.int IntKind.i64) y2 (nat_lit 8)] (nat_lit 115),.cells [SV.bool y3,SV.arr (K.int IntKind.i64) y4 (nat_lit 8)] (nat_lit 115),.cells [SV.bool y5,SV.arr (K.int IntKind.i64) y6 (nat_lit 8)] (nat_lit 115),.cells [SV.bool y7,SV.arr (K.int IntKind.i64) y8 (nat_lit 8)] (nat_lit 115)]
noncomputable abbrev rtimes_S5:St := St.mk (none :: none :: some (SV.ptr (nat_lit 0) (nat_lit 0)) :: some (SV.ptr (nat_lit 1) (nat_lit 0)) :: some (SV.ptr (nat_lit 2) (nat_lit 0)) :: some (SV.ptr (nat_lit 3) (nat_lit 0)) :: some (SV.int .i64 (0:Int)) :: nn 52 ([])) [.cells [SV.bool false,SV.arr (K.int IntKind.i64) [] (nat_lit 8)] (nat_lit 115),.cells [SV.bool false,SV.arr (K.int IntKind.i64) [] (nat_lit 8)] (nat_lit 115),.cells [SV.bool false,SV.arr (K.int IntKind.i64) [] (nat_lit 8)] (nat_lit 115),.cells [SV.bool false,SV.arr (K.int IntKind.i64) [] (nat_lit 8)] (nat_lit 115)]
abbrev rtimes_P1:List Bool := [false,true,true,true,false,false,true,false,false,true,false,true,true]
noncomputable def M.rtimes_l0_step {α:Type} (x29:Int) (x33:List Int) (x35:List Int) (kn:Int → Int → List Int → Option α) (k1:List Int → Option α) (x30 x31:Int) (x39:List Int):Option α := if cLt (IntKind.wrap .i64 (x29 + x31)) (8:Int) = true then if (0:Int) ≤ IntKind.wrap .i64 (x29 + x31) ∧ IntKind.wrap .i64 (x29 + x31) < (8:Int) then if (0:Int) ≤ x29 ∧ x29 < (8:Int) then if (0:Int) ≤ x31 ∧ x31 < (8:Int) then if (0:Int) ≤ IntKind.wrap .i64 (x29 + x31) ∧ IntKind.wrap .i64 (x29 + x31) < (8:Int) then kn (IntKind.wrap .i64 (Int.tdiv (IntKind.wrap .i64 (IntKind.wrap .i64 (List.getD x39 (Int.toNat (IntKind.wrap .i64 (x29 + x31))) (0:Int) + IntKind.wrap .i64 (List.getD x33 (Int.toNat x29) (0:Int) * List.getD x35 (Int.toNat x31) (0:Int))) + x30)) (16777216:Int))) (IntKind.wrap .i64 (x31 + (1:Int))) (List.set x39 (Int.toNat (IntKind.wrap .i64 (x29 + x31))) (Int.tmod (IntKind.wrap .i64 (IntKind.wrap .i64 (List.getD x39 (Int.toNat (IntKind.wrap .i64 (x29 + x31))) (0:Int) + IntKind.wrap .i64 (List.getD x33 (Int.toNat x29) (0:Int) * List.getD x35 (Int.toNat x31) (0:Int))) + x30)) (16777216:Int))) else none else none else none else none else k1 x39
noncomputable def M.rtimes_l0 {α:Type} (x29:Int) (x33:List Int) (x35:List Int) (k1:List Int → Option α):Nat → Int → Int → List Int → Option α
 | 0,_,_,_ => none
 | n + 1,x30,x31,x39 => M.rtimes_l0_step x29 x33 x35 (M.rtimes_l0 x29 x33 x35 k1 n) k1 x30 x31 x39
theorem rtimes_l0_step_eq {α:Type} (x29 x30 x31:Int) (x32:Bool) (x33:List Int) (x34:Bool) (x35:List Int) (x36:Bool) (x37:List Int) (x38:Bool) (x39:List Int) (Q:Ex → St → Option α):(loopStep E (exec E look_plus noLps 400) 94 rtimes_P1 0 (codeAt E.P 94 rtimes_P1)) (rtimes_S1 x29 x30 x31 x32 x33 x34 x35 x36 x37 x38 x39) Q = M.rtimes_l0_step x29 x33 x35 (fun (x41 x42:Int) (x43:List Int) => Q .normal (rtimes_S1 x29 x41 x42 x32 x33 x34 x35 x36 x37 x38 x43)) (fun (x40:List Int) => Q (.exit 2) (rtimes_S2 x29 x32 x33 x34 x35 x36 x37 x38 x40)) x30 x31 x39 := by kernel_rfl
theorem rtimes_l0_iter {α:Type} (x29:Int) (x32:Bool) (x33:List Int) (x34:Bool) (x35:List Int) (x36:Bool) (x37:List Int) (x38:Bool) (Q:Ex → St → Option α):∀ (n:Nat) (x30 x31:Int) (x39:List Int),iter (loopStep E (exec E look_plus noLps 400) 94 rtimes_P1 0 (codeAt E.P 94 rtimes_P1)) n (rtimes_S1 x29 x30 x31 x32 x33 x34 x35 x36 x37 x38 x39) Q = M.rtimes_l0 x29 x33 x35 (fun (x40:List Int) => Q (.exit 2) (rtimes_S2 x29 x32 x33 x34 x35 x36 x37 x38 x40)) n x30 x31 x39
 | 0,_,_,_ => rfl
 | n + 1,x30,x31,x39 => (rtimes_l0_step_eq x29 x30 x31 x32 x33 x34 x35 x36 x37 x38 x39 (iterK (loopStep E (exec E look_plus noLps 400) 94 rtimes_P1 0 (codeAt E.P 94 rtimes_P1)) n Q)).trans (congrArg (fun kn => M.rtimes_l0_step x29 x33 x35 kn (fun (x40:List Int) => Q (.exit 2) (rtimes_S2 x29 x32 x33 x34 x35 x36 x37 x38 x40)) x30 x31 x39) (funext fun x30 => funext fun x31 => funext fun x39 => rtimes_l0_iter x29 x32 x33 x34 x35 x36 x37 x38 Q n x30 x31 x39))
noncomputable def rtimes_l0_go {α:Type} (ds:List D) (Q:Ex → St → Option α):Option α :=
 dI ds fun x29 ds => dI ds fun x30 ds => dI ds fun x31 ds => dB ds fun x32 ds => dL (K.int IntKind.i64) ds fun x33 ds => dB ds fun x34 ds => dL (K.int IntKind.i64) ds fun x35 ds => dB ds fun x36 ds => dL (K.int IntKind.i64) ds fun x37 ds => dB ds fun x38 ds => dL (K.int IntKind.i64) ds fun x39 ds => dE ds (M.rtimes_l0 x29 x33 x35 (fun (x40:List Int) => Q (.exit 2) (rtimes_S2 x29 x32 x33 x34 x35 x36 x37 x38 x40)) (100 + x33.length + x35.length + x37.length + x39.length) x30 x31 x39)
theorem rtimes_l0_ok {α:Type}:LoopOk E.P 94 rtimes_P1 0 (lEnt (α := α) (rtimes_S3) rtimes_l0_go) :=
 lEnt_ok E (exec_sound E E_ok (look_plus_ok) (noLps_ok _) 400) fun ds Q r h S hS => by
   unfold rtimes_l0_go at h
   obtain ⟨x29,ds,rfl,h1⟩ := dI_inv h
   obtain ⟨x30,ds,rfl,h2⟩ := dI_inv h1
   obtain ⟨x31,ds,rfl,h3⟩ := dI_inv h2
   obtain ⟨x32,ds,rfl,h4⟩ := dB_inv h3
   obtain ⟨x33,ds,rfl,h5⟩ := dL_inv h4
   obtain ⟨x34,ds,rfl,h6⟩ := dB_inv h5
   obtain ⟨x35,ds,rfl,h7⟩ := dL_inv h6
   obtain ⟨x36,ds,rfl,h8⟩ := dB_inv h7
   obtain ⟨x37,ds,rfl,h9⟩ := dL_inv h8
   obtain ⟨x38,ds,rfl,h10⟩ := dB_inv h9
   obtain ⟨x39,ds,rfl,h11⟩ := dL_inv h10
   obtain ⟨rfl,hE⟩ := dE_inv h11
   have e:fillS (rtimes_S3) [.i x29,.i x30,.i x31,.b x32,.l (K.int IntKind.i64) x33,.b x34,.l (K.int IntKind.i64) x35,.b x36,.l (K.int IntKind.i64) x37,.b x38,.l (K.int IntKind.i64) x39] = some (rtimes_S1 x29 x30 x31 x32 x33 x34 x35 x36 x37 x38 x39) := by kernel_rfl
   rw [e] at hS
   cases hS
   exact ⟨_,(rtimes_l0_iter x29 x32 x33 x34 x35 x36 x37 x38 Q _ x30 x31 x39).trans hE⟩
noncomputable def rtimes_l0_lps {α:Type}:LookL α := addLp 94 rtimes_P1 0 (lEnt (rtimes_S3) rtimes_l0_go) noLps
theorem rtimes_l0_lps_ok {α:Type}:LoopsOk E.P (rtimes_l0_lps (α := α)) := addLp_ok rtimes_l0_ok (noLps_ok _)
noncomputable def M.rtimes_l1_step {α:Type} (x46:List Int) (x48:List Int) (x50:List Int) (kn:Int → List Int → Option α) (k1:List Int → Option α) (x44:Int) (x52:List Int):Option α := if cLt x44 (8:Int) = true then if (0:Int) ≤ x44 ∧ x44 < (8:Int) then if cEq (List.getD x46 (Int.toNat x44) (0:Int)) (0:Int) = true then kn (IntKind.wrap .i64 (x44 + (1:Int))) x52 else M.rtimes_l0 x44 x46 x48 (fun (x53:List Int) ↦ kn (IntKind.wrap .i64 (x44 + (1:Int))) x53) ((100:Nat) + List.length x46 + List.length x48 + List.length x50 + List.length x52) (0:Int) (0:Int) x52 else none else k1 x52
noncomputable def M.rtimes_l1 {α:Type} (x46:List Int) (x48:List Int) (x50:List Int) (k1:List Int → Option α):Nat → Int → List Int → Option α
 | 0,_,_ => none
 | n + 1,x44,x52 => M.rtimes_l1_step x46 x48 x50 (M.rtimes_l1 x46 x48 x50 k1 n) k1 x44 x52
theorem rtimes_l1_step_eq {α:Type} (x44:Int) (x45:Bool) (x46:List Int) (x47:Bool) (x48:List Int) (x49:Bool) (x50:List Int) (x51:Bool) (x52:List Int) (Q:Ex → St → Option α):(loopStep E (exec E look_plus rtimes_l0_lps 400) 94 [false,true,false,true,true] 0 (codeAt E.P 94 [false,true,false,true,true])) (rtimes_S2 x44 x45 x46 x47 x48 x49 x50 x51 x52) Q = M.rtimes_l1_step x46 x48 x50 (fun (x55:Int) (x56:List Int) => Q .normal (rtimes_S2 x55 x45 x46 x47 x48 x49 x50 x51 x56)) (fun (x54:List Int) => Q (.exit 0) (rtimes_S4 x45 x46 x47 x48 x49 x50 x51 x54)) x44 x52 := by kernel_rfl
theorem rtimes_l1_iter {α:Type} (x45:Bool) (x46:List Int) (x47:Bool) (x48:List Int) (x49:Bool) (x50:List Int) (x51:Bool) (Q:Ex → St → Option α):∀ (n:Nat) (x44:Int) (x52:List Int),iter (loopStep E (exec E look_plus rtimes_l0_lps 400) 94 [false,true,false,true,true] 0 (codeAt E.P 94 [false,true,false,true,true])) n (rtimes_S2 x44 x45 x46 x47 x48 x49 x50 x51 x52) Q = M.rtimes_l1 x46 x48 x50 (fun (x54:List Int) => Q (.exit 0) (rtimes_S4 x45 x46 x47 x48 x49 x50 x51 x54)) n x44 x52
 | 0,_,_ => rfl
 | n + 1,x44,x52 => (rtimes_l1_step_eq x44 x45 x46 x47 x48 x49 x50 x51 x52 (iterK (loopStep E (exec E look_plus rtimes_l0_lps 400) 94 [false,true,false,true,true] 0 (codeAt E.P 94 [false,true,false,true,true])) n Q)).trans (congrArg (fun kn => M.rtimes_l1_step x46 x48 x50 kn (fun (x54:List Int) => Q (.exit 0) (rtimes_S4 x45 x46 x47 x48 x49 x50 x51 x54)) x44 x52) (funext fun x44 => funext fun x52 => rtimes_l1_iter x45 x46 x47 x48 x49 x50 x51 Q n x44 x52))
noncomputable def rtimes_l1_go {α:Type} (ds:List D) (Q:Ex → St → Option α):Option α :=
 dI ds fun x44 ds => dB ds fun x45 ds => dL (K.int IntKind.i64) ds fun x46 ds => dB ds fun x47 ds => dL (K.int IntKind.i64) ds fun x48 ds => dB ds fun x49 ds => dL (K.int IntKind.i64) ds fun x50 ds => dB ds fun x51 ds => dL (K.int IntKind.i64) ds fun x52 ds => dE ds (M.rtimes_l1 x46 x48 x50 (fun (x54:List Int) => Q (.exit 0) (rtimes_S4 x45 x46 x47 x48 x49 x50 x51 x54)) (100 + x46.length + x48.length + x50.length + x52.length) x44 x52)
theorem rtimes_l1_ok {α:Type}:LoopOk E.P 94 [false,true,false,true,true] 0 (lEnt (α := α) (rtimes_S5) rtimes_l1_go) :=
 lEnt_ok E (exec_sound E E_ok (look_plus_ok) (rtimes_l0_lps_ok) 400) fun ds Q r h S hS => by
   unfold rtimes_l1_go at h
   obtain ⟨x44,ds,rfl,h1⟩ := dI_inv h
   obtain ⟨x45,ds,rfl,h2⟩ := dB_inv h1
   obtain ⟨x46,ds,rfl,h3⟩ := dL_inv h2
   obtain ⟨x47,ds,rfl,h4⟩ := dB_inv h3
   obtain ⟨x48,ds,rfl,h5⟩ := dL_inv h4
   obtain ⟨x49,ds,rfl,h6⟩ := dB_inv h5
   obtain ⟨x50,ds,rfl,h7⟩ := dL_inv h6
   obtain ⟨x51,ds,rfl,h8⟩ := dB_inv h7
   obtain ⟨x52,ds,rfl,h9⟩ := dL_inv h8
   obtain ⟨rfl,hE⟩ := dE_inv h9
   have e:fillS (rtimes_S5) [.i x44,.b x45,.l (K.int IntKind.i64) x46,.b x47,.l (K.int IntKind.i64) x48,.b x49,.l (K.int IntKind.i64) x50,.b x51,.l (K.int IntKind.i64) x52] = some (rtimes_S2 x44 x45 x46 x47 x48 x49 x50 x51 x52) := by kernel_rfl
   rw [e] at hS
   cases hS
   exact ⟨_,(rtimes_l1_iter x45 x46 x47 x48 x49 x50 x51 Q _ x44 x52).trans hE⟩
noncomputable def rtimes_l1_lps {α:Type}:LookL α := addLp 94 [false,true,false,true,true] 0 (lEnt (rtimes_S5) rtimes_l1_go) rtimes_l0_lps
theorem rtimes_l1_lps_ok {α:Type}:LoopsOk E.P (rtimes_l1_lps (α := α)) := addLp_ok rtimes_l1_ok (rtimes_l0_lps_ok)
noncomputable def M.rtimes {α:Type} (an:Bool) (ad:List Int) (bn:Bool) (bd:List Int) (k0:Bool → List Int → Option α):Option α := M.rtimes_l1 ad bd (List.replicate (8:Nat) (0:Int)) (fun (x57:List Int) ↦ k0 (!an == bn) x57) ((100:Nat) + List.length ad + List.length bd + (8:Nat) + (8:Nat)) (0:Int) (List.replicate (8:Nat) (0:Int))
theorem rtimes_eq {α:Type} (an:Bool) (ad:List Int) (bn:Bool) (bd:List Int) (Q:SV → Hp → Option α):callI E look_plus (exec E look_plus rtimes_l1_lps 400) 94 ([SV.agg [SV.bool an,SV.arr (K.int IntKind.i64) ad (nat_lit 8)],SV.agg [SV.bool bn,SV.arr (K.int IntKind.i64) bd (nat_lit 8)]]) ([]) Q = M.rtimes an ad bn bd (fun (x58:Bool) (x59:List Int) => Q (SV.agg [SV.bool x58,SV.arr (K.int IntKind.i64) x59 (nat_lit 8)]) ([])) := by kernel_rfl
def rtimes_sp:List AS := [.val (.agg [.bool false,.arr (.int .i64) [] 8]),.val (.agg [.bool false,.arr (.int .i64) [] 8])]
theorem rtimes_l0_val {α:Type} (a b:List Int) (ha:okD a = true) (hb:okD b = true) (la:a.length = 8) (lb:b.length = 8) (i:Nat) (hi:i < 8) (k1:List Int → Option α):∀ (fuel k:Nat) (c:Int) (o:List Int),i + k ≤ 8 → 8 - k < fuel → o.length = 8 → okD o = true → 0 ≤ c → c < 16777216 →
   M.rtimes_l0 (i:Int) a b k1 fuel c (k:Int) o = k1 (o.take (i + k) ++ linL (a.getD i 0) (o.drop (i + k)) (b.drop k) c)
 | 0,k,c,o,h1,h2,_,_,_,_ => by omega
 | n + 1,k,c,o,h1,h2,lo,ho,hc0,hc1 => by
   unfold M.rtimes_l0 M.rtimes_l0_step
   have ew:IntKind.wrap .i64 ((i:Int) + (k:Int)) = ((i + k:Nat):Int) := by rw [IntWalk.i64_in _ (by omega)]; push_cast; rfl
   rw [ew,cLt_eq]
   by_cases hk:i + k < 8
   · have c1 : ((i + k : Nat) : Int) < 8 := by omega
     have c2:(0:Int) ≤ ((i + k:Nat):Int) := by omega
     have c3:(i:Int) < 8 := by omega
     have c4:(k:Int) < 8 := by omega
     have da := okD_get ha i
     have db := okD_get hb k
     have dd := okD_get ho (i + k)
     simp only [c1,c2,c3,c4,Int.natCast_nonneg,decide_true,if_true,and_self,Int.toNat_natCast]
     have hlin:linL (a.getD i 0) (o.drop (i + k)) (b.drop k) c = (o.getD (i + k) 0 + a.getD i 0 * b.getD k 0 + c) % 16777216 :: linL (a.getD i 0) (o.drop (i + k + 1)) (b.drop (k + 1)) ((o.getD (i + k) 0 + a.getD i 0 * b.getD k 0 + c) / 16777216) := by
       rw [drop_getD (by omega:i + k < o.length),drop_getD (by omega:k < b.length),linL]
     rw [hlin]
     generalize hx:a.getD i 0 = x at *
     generalize b.getD k 0 = y at *
     generalize o.getD (i + k) 0 = z at *
     have p1:x * y ≤ 16777215 * 16777215 := Int.mul_le_mul (by omega) (by omega) db.1 (by omega)
     have p0:0 ≤ x * y := Int.mul_nonneg da.1 db.1
     rw [IntWalk.i64_in (x * y) (by omega),IntWalk.i64_in (z + x * y) (by omega),IntWalk.i64_in (z + x * y + c) (by omega),Int.tdiv_eq_ediv_of_nonneg (by omega),Int.tmod_eq_emod_of_nonneg (by omega),IntWalk.i64_in ((z + x * y + c) / 16777216) (by omega),IntWalk.i64_in ((k:Int) + 1) (by omega)]
     have ho':okD (o.set (i + k) ((z + x * y + c) % 16777216)) = true := by
       rw [← List.take_append_drop (i + k + 1) (o.set (i + k) _),okD_append,take_set_succ _ (by omega),drop_set_succ,okD_append]
       exact ⟨⟨okD_take ho _,by rw [okD_cons]; exact ⟨by omega,rfl⟩⟩,okD_drop ho _⟩
     have := rtimes_l0_val a b ha hb la lb i hi k1 n (k + 1) ((z + x * y + c) / 16777216) (o.set (i + k) ((z + x * y + c) % 16777216)) (by omega) (by omega) (by simpa using lo) ho' (by omega) (by omega)
     rw [hx] at this
     push_cast at this
     rw [this,show i + (k + 1) = i + k + 1 by omega,take_set_succ _ (by omega),drop_set_succ,List.append_assoc,List.singleton_append]
   · have e : i + k = 8 := by omega
     rw [e]
     have e2:¬ ((8:Nat):Int) < 8 := by omega
     simp only [e2,decide_false,Bool.false_eq_true,if_false]
     rw [List.take_of_length_le (by omega),List.drop_of_length_le (by omega:o.length ≤ 8),linL,List.append_nil]
     · intro _ _ _ _ _; simp_all
def tmL:List Int → Nat → List Int → List Int → List Int
 | [],_,o,_ => o
 | x :: us,i,o,b => tmL us (i + 1) (o.take i ++ linL x (o.drop i) b 0) b
theorem linL_zero:∀ (xs ys:List Int),okD xs = true → xs.length ≤ ys.length → linL 0 xs ys 0 = xs
 | [],ys,_,_ => by simp [linL]
 | x :: xs,[],_,h => by simp at h
 | x :: xs,y :: ys,h,hl => by
   rw [okD_cons] at h
   rw [linL,Int.zero_mul,Int.add_zero,Int.add_zero,show x % 16777216 = x by omega,show x / 16777216 = 0 by omega,linL_zero xs ys h.2 (by simpa using hl)]
theorem tm_step {o b:List Int} (x:Int) {i:Nat} (lo:o.length = 8) (lb:b.length = 8) (ho:okD o = true) (hi:i ≤ 8):(o.take i ++ linL x (o.drop i) b 0).length = 8 ∧ okD (o.take i ++ linL x (o.drop i) b 0) = true := by
 refine ⟨?_,?_⟩
 · rw [List.length_append,linL_len _ _ _ _ (by rw [List.length_drop]; omega),List.length_take,List.length_drop]; omega
 · rw [okD_append]; exact ⟨okD_take ho i,linL_ok _ _ _ _⟩
theorem rtimes_l1_val {α:Type} (a b z:List Int) (ha:okD a = true) (hb:okD b = true) (la:a.length = 8) (lb:b.length = 8) (k1:List Int → Option α):∀ (fuel i:Nat) (o:List Int),i ≤ 8 → 8 - i < fuel → o.length = 8 → okD o = true →
   M.rtimes_l1 a b z k1 fuel (i:Int) o = k1 (tmL (a.drop i) i o b)
 | 0,i,o,h1,h2,_,_ => by omega
 | n + 1,i,o,h1,h2,lo,ho => by
   unfold M.rtimes_l1 M.rtimes_l1_step
   rw [cLt_eq]
   by_cases hi:i < 8
   · have c1 : (i : Int) < 8 := by omega
     have c2:(0:Int) ≤ (i:Int) := by omega
     simp only [c1,c2,decide_true,if_true,and_self,Int.toNat_natCast,cEq_eq]
     rw [IntWalk.i64_in ((i:Int) + 1) (by omega),drop_getD (by omega:i < a.length),tmL]
     obtain ⟨l',o'⟩ := tm_step (b := b) (a.getD i 0) lo lb ho h1
     have rc := rtimes_l1_val a b z ha hb la lb k1 n (i + 1) (o.take i ++ linL (a.getD i 0) (o.drop i) b 0) (by omega) (by omega) l' o'
     push_cast at rc
     by_cases h0:a.getD i 0 = 0
     · rw [h0] at rc ⊢
       rw [linL_zero _ _ (okD_drop ho i) (by rw [List.length_drop]; omega),List.take_append_drop] at rc ⊢
       simp only [beq_self_eq_true,if_true]
       exact rc
     · have : (a.getD i 0 == 0) = false := by simpa using h0
       simp only [this,Bool.false_eq_true,if_false]
       have inner := rtimes_l0_val a b ha hb la lb i hi (fun x => M.rtimes_l1 a b z k1 n ((i:Int) + 1) x) (100 + a.length + b.length + z.length + o.length) 0 0 o (by omega) (by omega) lo ho (by omega) (by omega)
       simp only [Int.natCast_zero,Nat.add_zero,List.drop_zero] at inner
       exact inner.trans rc
   · have : i = 8 := by omega
     subst this
     have e:¬ ((8:Nat):Int) < 8 := by omega
     simp only [e,decide_false,Bool.false_eq_true,if_false]
     rw [List.drop_of_length_le (by omega:a.length ≤ 8),tmL]
theorem tmL_ok (b:List Int) (lb:b.length = 8):∀ (us:List Int) (i:Nat) (o:List Int),us.length + i = 8 → o.length = 8 → okD o = true → (tmL us i o b).length = 8 ∧ okD (tmL us i o b) = true
 | [],i,o,_,lo,ho => ⟨lo,ho⟩
 | x :: us,i,o,h,lo,ho => by
   simp only [List.length_cons] at h
   obtain ⟨l',o'⟩ := tm_step (b := b) x lo lb ho (by omega:i ≤ 8)
   exact tmL_ok b lb us (i + 1) _ (by omega) l' o'
theorem tmL_val (b:List Int) (lb:b.length = 8):∀ (us:List Int) (i:Nat) (o:List Int),us.length + i = 8 → o.length = 8 → okD o = true → val (tmL us i o b) = (val o + 16777216 ^ i * val us * val b) % 16777216 ^ 8
 | [],i,o,_,lo,ho => by
   have := val_bound ho
   rw [lo] at this
   simp only [tmL,val,Int.mul_zero,Int.zero_mul,Int.add_zero]
   rw [Int.emod_eq_of_lt this.1 this.2]
 | x :: us,i,o,h,lo,ho => by
   simp only [List.length_cons] at h
   obtain ⟨l',o'⟩ := tm_step (b := b) x lo lb ho (by omega:i ≤ 8)
   rw [tmL,tmL_val b lb us (i + 1) _ (by omega) l' o',val_append,linL_val _ _ _ _ (by rw [List.length_drop]; omega),List.length_take,List.length_drop,lo,Nat.min_eq_left (by omega:i ≤ 8)]
   have e0:val o = val (o.take i) + 16777216 ^ i * val (o.drop i) := by
     have := val_append (o.take i) (o.drop i)
     rw [List.take_append_drop,List.length_take,lo,Nat.min_eq_left (by omega:i ≤ 8)] at this
     exact this
   have e1:(16777216:Int) ^ i * 16777216 ^ (8 - i) = 16777216 ^ 8 := by rw [← Int.pow_add]; exact congrArg (fun e:Nat => (16777216:Int) ^ e) (by omega)
   have e2 := Int.mul_ediv_add_emod (val (o.drop i) + x * val b + 0) (16777216 ^ (8 - i))
   rw [e0,pB1,val]
   generalize hM:(16777216:Int) ^ (8 - i) = M at *
   generalize hP:(16777216:Int) ^ i = P at *
   generalize hq:(val (o.drop i) + x * val b + 0) / M = q at *
   generalize hr:(val (o.drop i) + x * val b + 0) % M = r at *
   have:val (o.take i) + P * val (o.drop i) + P * (x + 16777216 * val us) * val b = val (o.take i) + P * r + 16777216 * P * val us * val b + 16777216 ^ 8 * q := by
     rw [← e1]
     grind
   rw [this,Int.add_mul_emod_self_left]
noncomputable def _root_.Go.Proofs.YtlagndfhibkjpaaGreat.V.tmD (a b:List Int):List Int := tmL a 0 (List.replicate 8 0) b
def _root_.Go.Proofs.YtlagndfhibkjpaaGreat.V.tmN (an bn:Bool):Bool := !(an == bn)
theorem rtimes_v {α:Type} (an:Bool) (a:List Int) (bn:Bool) (b:List Int) (ha:V.ok8 a = true) (hb:V.ok8 b = true) (k0:Bool → List Int → Option α):M.rtimes an a bn b k0 = k0 (V.tmN an bn) (V.tmD a b) := by
 rw [ok8_iff] at ha hb
 unfold M.rtimes V.tmN V.tmD
 have := rtimes_l1_val a b (List.replicate 8 0) ha.2 hb.2 ha.1 hb.1 (fun x => k0 (!(an == bn)) x) (100 + a.length + b.length + 8 + 8) 0 (List.replicate 8 0) (by omega) (by omega) rfl rfl
 simp only [Int.natCast_zero,List.drop_zero] at this
 exact this
noncomputable def rtimes_h {α:Type} (ds:List D) (Q:SV → Hp → Option α):Option α :=
 dB ds fun an ds => dL (K.int IntKind.i64) ds fun ad ds => dB ds fun bn ds => dL (K.int IntKind.i64) ds fun bd ds => dE ds (if V.ok8 ad = true ∧ V.ok8 bd = true then Q (.agg [.bool (V.tmN an bn),.arr (.int .i64) (V.tmD ad bd) 8]) ([]) else none)
theorem rtimes_h_ok {α:Type}:FnOk E.P 94 (fEnt (α := α) rtimes_sp rtimes_h) :=
 fEnt_ok E (look_plus_ok) (exec_sound E E_ok (look_plus_ok) (rtimes_l1_lps_ok) 400) fun ds Q r h => by
   unfold rtimes_h at h
   obtain ⟨an,ds,rfl,h1⟩ := dB_inv h
   obtain ⟨ad,ds,rfl,h2⟩ := dL_inv h1
   obtain ⟨bn,ds,rfl,h3⟩ := dB_inv h2
   obtain ⟨bd,ds,rfl,h4⟩ := dL_inv h3
   obtain ⟨rfl,hE⟩ := dE_inv h4
   split at hE
   · rename_i hg
     exact ⟨[SV.agg [SV.bool an,SV.arr (K.int IntKind.i64) ad (nat_lit 8)],SV.agg [SV.bool bn,SV.arr (K.int IntKind.i64) bd (nat_lit 8)]],[],fun vs => by kernel_rfl,(rtimes_eq an ad bn bd Q).trans ((rtimes_v an ad bn bd hg.1 hg.2 _).trans hE)⟩
   · cases hE
noncomputable def look_rtimes {α:Type}:LookF α := addFn 94 (fEnt rtimes_sp rtimes_h) look_plus
theorem look_rtimes_ok {α:Type}:LookOk E.P (look_rtimes (α := α)) := addFn_ok rtimes_h_ok (look_plus_ok)
theorem tmD_ok {a b:List Int} (ha:V.ok8 a = true) (hb:V.ok8 b = true):V.ok8 (V.tmD a b) = true := by
 rw [ok8_iff] at ha hb ⊢
 exact tmL_ok b hb.1 a 0 _ (by omega) rfl rfl
theorem tmD_val {a b:List Int} (ha:V.ok8 a = true) (hb:V.ok8 b = true) (h:val a * val b < 6277101735386680763835789423207666416102355444464034512896):val (V.tmD a b) = val a * val b := by
 rw [ok8_iff] at ha hb
 have va := val_bound ha.2
 have vb := val_bound hb.2
 have h0:0 ≤ val a * val b := Int.mul_nonneg va.1 vb.1
 unfold V.tmD
 rw [tmL_val b hb.1 a 0 _ (by omega) rfl rfl,p8]
 have e:val (List.replicate 8 (0:Int)) = 0 := by decide
 rw [e,Int.pow_zero,Int.one_mul,Int.zero_add,Int.emod_eq_of_lt h0 h]
theorem tm_val (an:Bool) {a:List Int} (bn:Bool) {b:List Int} (ha:V.ok8 a = true) (hb:V.ok8 b = true) (h:val a * val b < 6277101735386680763835789423207666416102355444464034512896):wv (V.tmN an bn) (V.tmD a b) = wv an a * wv bn b := by
 unfold wv V.tmN
 rw [tmD_val ha hb h]
 cases an <;> cases bn <;> simp [Int.mul_neg,Int.neg_mul]
end
section
open Go
set_option maxRecDepth 20000
noncomputable def M.less {α:Type} (an:Bool) (ad:List Int) (bn:Bool) (bd:List Int) (k0:Bool → Option α):Option α := if V.ok8 ad = true ∧ V.ok8 bd = true then if V.ok8 (V.plD an ad (!bn) bd) = true ∧ V.ok8 (List.replicate (8:Nat) (0:Int)) = true then if cEq (V.szD (V.plD an ad (!bn) bd) (List.replicate (8:Nat) (0:Int))) (0:Int) = true then k0 (cLt (0:Int) (0:Int)) else if V.plN an ad (!bn) bd = true then k0 (cLt (-1:Int) (0:Int)) else k0 (cLt (1:Int) (0:Int)) else none else none
theorem less_eq {α:Type} (an:Bool) (ad:List Int) (bn:Bool) (bd:List Int) (Q:SV → Hp → Option α):callI E look_rtimes (exec E look_rtimes noLps 400) 96 ([SV.agg [SV.bool an,SV.arr (K.int IntKind.i64) ad (nat_lit 8)],SV.agg [SV.bool bn,SV.arr (K.int IntKind.i64) bd (nat_lit 8)]]) ([]) Q = M.less an ad bn bd (fun (x0:Bool) => Q (SV.bool x0) ([])) := by kernel_rfl
def less_sp:List AS := [.val (.agg [.bool false,.arr (.int .i64) [] 8]),.val (.agg [.bool false,.arr (.int .i64) [] 8])]
def _root_.Go.Proofs.YtlagndfhibkjpaaGreat.V.two (a b:List Int):Bool := V.ok8 a && V.ok8 b && decide (val a + val b < 6277101735386680763835789423207666416102355444464034512896)
noncomputable def _root_.Go.Proofs.YtlagndfhibkjpaaGreat.V.ls (an:Bool) (a:List Int) (bn:Bool) (b:List Int):Bool := decide (wv an a < wv bn b)
theorem less_v {α:Type} (an:Bool) (a:List Int) (bn:Bool) (b:List Int) (h:V.two a b = true) (k0:Bool → Option α):M.less an a bn b k0 = k0 (V.ls an a bn b) := by
 unfold V.two at h
 simp only [Bool.and_eq_true,decide_eq_true_eq] at h
 obtain ⟨⟨ha,hb⟩,hs⟩ := h
 unfold M.less V.ls
 have hz:V.ok8 (List.replicate 8 0) = true := by decide
 have hd := plD_ok an (!bn) ha hb
 obtain ⟨hv,_⟩ := pl_val an (!bn) ha hb hs
 rw [if_pos ⟨ha,hb⟩,if_pos ⟨hd,hz⟩]
 have hflip:wv (!bn) b = - wv bn b := by unfold wv; cases bn <;> simp
 rw [hflip] at hv
 have vd := val_bound (ok8_iff.1 hd).2
 generalize V.plD an a (!bn) b = D at *
 generalize V.plN an a (!bn) b = N at *
 have e0:val (List.replicate 8 (0:Int)) = 0 := by decide
 unfold V.szD V.cmp
 rw [e0,cEq_eq,cLt_eq,cLt_eq,cLt_eq]
 unfold wv at hv
 by_cases hD:val D = 0
 · rw [hD] at hv
   have:wv an a - wv bn b = 0 := by unfold wv; cases N <;> simp at hv <;> omega
   have hn:¬ wv an a < wv bn b := by omega
   rw [hD]
   simp [hn]
 · have h1 : ¬ val D < 0 := by omega
   have h2:0 < val D := by omega
   simp only [h1,h2,if_true,if_false]
   cases N with
   | true =>
     have hn:wv an a < wv bn b := by unfold wv; simp at hv; omega
     simp [hn]
   | false =>
     have hn:¬ wv an a < wv bn b := by unfold wv; simp at hv; omega
     simp [hn]
noncomputable def less_h {α:Type} (ds:List D) (Q:SV → Hp → Option α):Option α :=
 dB ds fun an ds => dL (K.int IntKind.i64) ds fun ad ds => dB ds fun bn ds => dL (K.int IntKind.i64) ds fun bd ds => dE ds (if V.two ad bd = true then Q (.bool (V.ls an ad bn bd)) ([]) else none)
theorem less_h_ok {α:Type}:FnOk E.P 96 (fEnt (α := α) less_sp less_h) :=
 fEnt_ok E (look_rtimes_ok) (exec_sound E E_ok (look_rtimes_ok) (noLps_ok _) 400) fun ds Q r h => by
   unfold less_h at h
   obtain ⟨an,ds,rfl,h1⟩ := dB_inv h
   obtain ⟨ad,ds,rfl,h2⟩ := dL_inv h1
   obtain ⟨bn,ds,rfl,h3⟩ := dB_inv h2
   obtain ⟨bd,ds,rfl,h4⟩ := dL_inv h3
   obtain ⟨rfl,hE⟩ := dE_inv h4
   split at hE
   · rename_i hg
     exact ⟨[SV.agg [SV.bool an,SV.arr (K.int IntKind.i64) ad (nat_lit 8)],SV.agg [SV.bool bn,SV.arr (K.int IntKind.i64) bd (nat_lit 8)]],[],fun vs => by kernel_rfl,(less_eq an ad bn bd Q).trans ((less_v an ad bn bd hg _).trans hE)⟩
   · cases hE
noncomputable def look_less {α:Type}:LookF α := addFn 96 (fEnt less_sp less_h) look_rtimes
theorem look_less_ok {α:Type}:LookOk E.P (look_less (α := α)) := addFn_ok less_h_ok (look_rtimes_ok)
noncomputable abbrev down_S1 (y1:Int) (y2:Bool) (y3 y4 y5 y6:Int) (y7:Bool) (y8:List Int):St := St.mk (none :: some (SV.int .i64 y1) :: some (SV.ptr (nat_lit 0) (nat_lit 0)) :: nn 3 (some (SV.bool y2) :: some (SV.int .i64 y3) :: some (SV.int .i64 y4) :: some (SV.int .i64 y5) :: some (SV.int .i64 y6) :: nn 66 ([]))) [.cells [SV.bool y7,SV.arr (K.int IntKind.i64) y8 (nat_lit 8)] (nat_lit 115)]
noncomputable abbrev down_S2 (y1:Int) (y2:Bool) (y3 y4 y5:Int) (y6:Bool) (y7:List Int):St := St.mk (none :: some (SV.int .i64 y1) :: some (SV.ptr (nat_lit 0) (nat_lit 0)) :: none :: some (SV.int .i64 (0:Int)) :: some (SV.bool false) :: some (SV.bool y2) :: some (SV.int .i64 y3) :: some (SV.int .i64 y4) :: some (SV.int .i64 y5) :: nn 67 ([])) [.cells [SV.bool y6,SV.arr (K.int IntKind.i64) y7 (nat_lit 8)] (nat_lit 115)]
noncomputable abbrev down_S3 (y1:Int) (y2:Bool) (y3 y4 y5:Int) (y6:Bool) (y7:List Int):St := St.mk (none :: some (SV.int .i64 y1) :: some (SV.ptr (nat_lit 0) (nat_lit 0)) :: nn 3 (some (SV.bool y2) :: some (SV.int .i64 y3) :: some (SV.int .i64 y4) :: some (SV.int .i64 y5) :: nn 67 ([]))) [.cells [SV.bool y6,SV.arr (K.int IntKind.i64) y7 (nat_lit 8)] (nat_lit 115)]
noncomputable abbrev down_S4:St := St.mk (none :: some (SV.int .i64 (0:Int)) :: some (SV.ptr (nat_lit 0) (nat_lit 0)) :: nn 3 (some (SV.bool false) :: some (SV.int .i64 (0:Int)) :: some (SV.int .i64 (0:Int)) :: some (SV.int .i64 (0:Int)) :: some (SV.int .i64 (0:Int)) :: nn 66 ([]))) [.cells [SV.bool false,SV.arr (K.int IntKind.i64) [] (nat_lit 8)] (nat_lit 115)]
noncomputable abbrev down_S5 (y1:Bool) (y2 y3:Int):St := St.mk (nn 4 (some (SV.int .i64 (0:Int)) :: some (SV.bool false) :: some (SV.bool y1) :: some (SV.int .i64 y2) :: some (SV.int .i64 y3) :: nn 68 ([]))) []
noncomputable abbrev down_S6:St := St.mk (none :: some (SV.int .i64 (0:Int)) :: some (SV.ptr (nat_lit 0) (nat_lit 0)) :: nn 3 (some (SV.bool false) :: some (SV.int .i64 (0:Int)) :: some (SV.int .i64 (0:Int)) :: some (SV.int .i64 (0:Int)) :: nn 67 ([]))) [.cells [SV.bool false,SV.arr (K.int IntKind.i64) [] (nat_lit 8)] (nat_lit 115)]
abbrev down_P1:List Bool := [false,true,true,false,false,true,false,false,true,false,true,true,true,true,true]
abbrev down_P2:List Bool := [false,true,false,true,true,true,true,true]
noncomputable def M.down_l0_step {α:Type} (x23 x27:Int) (x30:List Int) (kn:Int → Int → Int → Option α) (k0:Int → Int → Option α) (k2:Int → Int → Option α) (x25 x26 x28:Int):Option α := if cLt (0:Int) x28 = true then if (0:Int) ≤ x27 ∧ x27 < (8:Int) then if x28 = (0:Int) then none else if cEq (Int.tmod (IntKind.wrap .i64 (Int.tdiv (List.getD x30 (Int.toNat x27) (0:Int)) x28)) (2:Int)) (1:Int) = true then if cLt (2305843009213693951:Int) x25 = true then k0 x25 (IntKind.wrap .i64 (IntKind.wrap .i64 ((2:Int) * x26) + (1:Int))) else if cLe x23 (IntKind.wrap .i64 (IntKind.wrap .i64 ((2:Int) * x26) + (1:Int))) = true then kn (IntKind.wrap .i64 (IntKind.wrap .i64 ((2:Int) * x25) + (1:Int))) (IntKind.wrap .i64 (IntKind.wrap .i64 (IntKind.wrap .i64 ((2:Int) * x26) + (1:Int)) - x23)) (IntKind.wrap .i64 (Int.tdiv x28 (2:Int))) else kn (IntKind.wrap .i64 ((2:Int) * x25)) (IntKind.wrap .i64 (IntKind.wrap .i64 ((2:Int) * x26) + (1:Int))) (IntKind.wrap .i64 (Int.tdiv x28 (2:Int))) else if cLt (2305843009213693951:Int) x25 = true then k0 x25 (IntKind.wrap .i64 ((2:Int) * x26)) else if cLe x23 (IntKind.wrap .i64 ((2:Int) * x26)) = true then kn (IntKind.wrap .i64 (IntKind.wrap .i64 ((2:Int) * x25) + (1:Int))) (IntKind.wrap .i64 (IntKind.wrap .i64 ((2:Int) * x26) - x23)) (IntKind.wrap .i64 (Int.tdiv x28 (2:Int))) else kn (IntKind.wrap .i64 ((2:Int) * x25)) (IntKind.wrap .i64 ((2:Int) * x26)) (IntKind.wrap .i64 (Int.tdiv x28 (2:Int))) else none else k2 x25 x26
noncomputable def M.down_l0 {α:Type} (x23 x27:Int) (x30:List Int) (k0:Int → Int → Option α) (k2:Int → Int → Option α):Nat → Int → Int → Int → Option α
 | 0,_,_,_ => none
 | n + 1,x25,x26,x28 => M.down_l0_step x23 x27 x30 (M.down_l0 x23 x27 x30 k0 k2 n) k0 k2 x25 x26 x28
theorem down_l0_step_eq {α:Type} (x23:Int) (x24:Bool) (x25 x26 x27 x28:Int) (x29:Bool) (x30:List Int) (Q:Ex → St → Option α):(loopStep E (exec E look_less noLps 400) 98 down_P1 0 (codeAt E.P 98 down_P1)) (down_S1 x23 x24 x25 x26 x27 x28 x29 x30) Q = M.down_l0_step x23 x27 x30 (fun (x35 x36 x37:Int) => Q .normal (down_S1 x23 x24 x35 x36 x27 x37 x29 x30)) (fun (x31 x32:Int) => Q .ret (down_S2 x23 x24 x31 x32 x27 x29 x30)) (fun (x33 x34:Int) => Q (.exit 2) (down_S3 x23 x24 x33 x34 x27 x29 x30)) x25 x26 x28 := by kernel_rfl
theorem down_l0_iter {α:Type} (x23:Int) (x24:Bool) (x27:Int) (x29:Bool) (x30:List Int) (Q:Ex → St → Option α):∀ (n:Nat) (x25 x26 x28:Int),iter (loopStep E (exec E look_less noLps 400) 98 down_P1 0 (codeAt E.P 98 down_P1)) n (down_S1 x23 x24 x25 x26 x27 x28 x29 x30) Q = M.down_l0 x23 x27 x30 (fun (x31 x32:Int) => Q .ret (down_S2 x23 x24 x31 x32 x27 x29 x30)) (fun (x33 x34:Int) => Q (.exit 2) (down_S3 x23 x24 x33 x34 x27 x29 x30)) n x25 x26 x28
 | 0,_,_,_ => rfl
 | n + 1,x25,x26,x28 => (down_l0_step_eq x23 x24 x25 x26 x27 x28 x29 x30 (iterK (loopStep E (exec E look_less noLps 400) 98 down_P1 0 (codeAt E.P 98 down_P1)) n Q)).trans (congrArg (fun kn => M.down_l0_step x23 x27 x30 kn (fun (x31 x32:Int) => Q .ret (down_S2 x23 x24 x31 x32 x27 x29 x30)) (fun (x33 x34:Int) => Q (.exit 2) (down_S3 x23 x24 x33 x34 x27 x29 x30)) x25 x26 x28) (funext fun x25 => funext fun x26 => funext fun x28 => down_l0_iter x23 x24 x27 x29 x30 Q n x25 x26 x28))
noncomputable def down_l0_go {α:Type} (ds:List D) (Q:Ex → St → Option α):Option α :=
 dI ds fun x23 ds => dB ds fun x24 ds => dI ds fun x25 ds => dI ds fun x26 ds => dI ds fun x27 ds => dI ds fun x28 ds => dB ds fun x29 ds => dL (K.int IntKind.i64) ds fun x30 ds => dE ds (M.down_l0 x23 x27 x30 (fun (x31 x32:Int) => Q .ret (down_S2 x23 x24 x31 x32 x27 x29 x30)) (fun (x33 x34:Int) => Q (.exit 2) (down_S3 x23 x24 x33 x34 x27 x29 x30)) (100 + x30.length) x25 x26 x28)
theorem down_l0_ok {α:Type}:LoopOk E.P 98 down_P1 0 (lEnt (α := α) (down_S4) down_l0_go) :=
 lEnt_ok E (exec_sound E E_ok (look_less_ok) (noLps_ok _) 400) fun ds Q r h S hS => by
   unfold down_l0_go at h
   obtain ⟨x23,ds,rfl,h1⟩ := dI_inv h
   obtain ⟨x24,ds,rfl,h2⟩ := dB_inv h1
   obtain ⟨x25,ds,rfl,h3⟩ := dI_inv h2
   obtain ⟨x26,ds,rfl,h4⟩ := dI_inv h3
   obtain ⟨x27,ds,rfl,h5⟩ := dI_inv h4
   obtain ⟨x28,ds,rfl,h6⟩ := dI_inv h5
   obtain ⟨x29,ds,rfl,h7⟩ := dB_inv h6
   obtain ⟨x30,ds,rfl,h8⟩ := dL_inv h7
   obtain ⟨rfl,hE⟩ := dE_inv h8
   have e:fillS (down_S4) [.i x23,.b x24,.i x25,.i x26,.i x27,.i x28,.b x29,.l (K.int IntKind.i64) x30] = some (down_S1 x23 x24 x25 x26 x27 x28 x29 x30) := by kernel_rfl
   rw [e] at hS
   cases hS
   exact ⟨_,(down_l0_iter x23 x24 x27 x29 x30 Q _ x25 x26 x28).trans hE⟩
noncomputable def down_l0_lps {α:Type}:LookL α := addLp 98 down_P1 0 (lEnt (down_S4) down_l0_go) noLps
theorem down_l0_lps_ok {α:Type}:LoopsOk E.P (down_l0_lps (α := α)) := addLp_ok down_l0_ok (noLps_ok _)
noncomputable def M.down_l1_step {α:Type} (x38:Int) (x44:List Int) (kn:Int → Int → Int → Option α) (k1:Int → Int → Option α) (k2:Int → Int → Option α) (x40 x41 x42:Int):Option α := if cLe (0:Int) x42 = true then if (0:Int) ≤ x42 ∧ x42 < (8:Int) then if cEq (List.getD x44 (Int.toNat x42) (0:Int)) (0:Int) = true then if cEq x40 (0:Int) = true then if cEq x41 (0:Int) = true then kn x40 x41 (IntKind.wrap .i64 (x42 - (1:Int))) else M.down_l0 x38 x42 x44 (fun (x45 x46:Int) ↦ k1 x45 x46) (fun (x47 x48:Int) ↦ kn x47 x48 (IntKind.wrap .i64 (x42 - (1:Int)))) ((100:Nat) + List.length x44) x40 x41 (8388608:Int) else M.down_l0 x38 x42 x44 (fun (x49 x50:Int) ↦ k1 x49 x50) (fun (x51 x52:Int) ↦ kn x51 x52 (IntKind.wrap .i64 (x42 - (1:Int)))) ((100:Nat) + List.length x44) x40 x41 (8388608:Int) else M.down_l0 x38 x42 x44 (fun (x53 x54:Int) ↦ k1 x53 x54) (fun (x55 x56:Int) ↦ kn x55 x56 (IntKind.wrap .i64 (x42 - (1:Int)))) ((100:Nat) + List.length x44) x40 x41 (8388608:Int) else none else k2 x40 x41
noncomputable def M.down_l1 {α:Type} (x38:Int) (x44:List Int) (k1:Int → Int → Option α) (k2:Int → Int → Option α):Nat → Int → Int → Int → Option α
 | 0,_,_,_ => none
 | n + 1,x40,x41,x42 => M.down_l1_step x38 x44 (M.down_l1 x38 x44 k1 k2 n) k1 k2 x40 x41 x42
theorem down_l1_step_eq {α:Type} (x38:Int) (x39:Bool) (x40 x41 x42:Int) (x43:Bool) (x44:List Int) (Q:Ex → St → Option α):(loopStep E (exec E look_less down_l0_lps 400) 98 down_P2 0 (codeAt E.P 98 down_P2)) (down_S3 x38 x39 x40 x41 x42 x43 x44) Q = M.down_l1_step x38 x44 (fun (x61 x62 x63:Int) => Q .normal (down_S3 x38 x39 x61 x62 x63 x43 x44)) (fun (x57 x58:Int) => Q .ret (down_S5 x39 x57 x58)) (fun (x59 x60:Int) => Q (.exit 0) (St.mk (nn 6 (some (SV.bool x39) :: some (SV.int .i64 x59) :: some (SV.int .i64 x60) :: nn 68 ([])))
 [])) x40 x41 x42 := by kernel_rfl
theorem down_l1_iter {α:Type} (x38:Int) (x39 x43:Bool) (x44:List Int) (Q:Ex → St → Option α):∀ (n:Nat) (x40 x41 x42:Int),iter (loopStep E (exec E look_less down_l0_lps 400) 98 down_P2 0 (codeAt E.P 98 down_P2)) n (down_S3 x38 x39 x40 x41 x42 x43 x44) Q = M.down_l1 x38 x44 (fun (x57 x58:Int) => Q .ret (down_S5 x39 x57 x58)) (fun (x59 x60:Int) => Q (.exit 0) (St.mk (nn 6 (some (SV.bool x39) :: some (SV.int .i64 x59) :: some (SV.int .i64 x60) :: nn 68 ([])))
 [])) n x40 x41 x42
 | 0,_,_,_ => rfl
 | n + 1,x40,x41,x42 => (down_l1_step_eq x38 x39 x40 x41 x42 x43 x44 (iterK (loopStep E (exec E look_less down_l0_lps 400) 98 down_P2 0 (codeAt E.P 98 down_P2)) n Q)).trans (congrArg (fun kn => M.down_l1_step x38 x44 kn (fun (x57 x58:Int) => Q .ret (down_S5 x39 x57 x58)) (fun (x59 x60:Int) => Q (.exit 0) (St.mk (nn 6 (some (SV.bool x39) :: some (SV.int .i64 x59) :: some (SV.int .i64 x60) :: nn 68 ([])))
 [])) x40 x41 x42) (funext fun x40 => funext fun x41 => funext fun x42 => down_l1_iter x38 x39 x43 x44 Q n x40 x41 x42))
noncomputable def down_l1_go {α:Type} (ds:List D) (Q:Ex → St → Option α):Option α :=
 dI ds fun x38 ds => dB ds fun x39 ds => dI ds fun x40 ds => dI ds fun x41 ds => dI ds fun x42 ds => dB ds fun x43 ds => dL (K.int IntKind.i64) ds fun x44 ds => dE ds (M.down_l1 x38 x44 (fun (x57 x58:Int) => Q .ret (down_S5 x39 x57 x58)) (fun (x59 x60:Int) => Q (.exit 0) (St.mk (nn 6 (some (SV.bool x39) :: some (SV.int .i64 x59) :: some (SV.int .i64 x60) :: nn 68 ([])))
 [])) (100 + x44.length) x40 x41 x42)
theorem down_l1_ok {α:Type}:LoopOk E.P 98 down_P2 0 (lEnt (α := α) (down_S6) down_l1_go) :=
 lEnt_ok E (exec_sound E E_ok (look_less_ok) (down_l0_lps_ok) 400) fun ds Q r h S hS => by
   unfold down_l1_go at h
   obtain ⟨x38,ds,rfl,h1⟩ := dI_inv h
   obtain ⟨x39,ds,rfl,h2⟩ := dB_inv h1
   obtain ⟨x40,ds,rfl,h3⟩ := dI_inv h2
   obtain ⟨x41,ds,rfl,h4⟩ := dI_inv h3
   obtain ⟨x42,ds,rfl,h5⟩ := dI_inv h4
   obtain ⟨x43,ds,rfl,h6⟩ := dB_inv h5
   obtain ⟨x44,ds,rfl,h7⟩ := dL_inv h6
   obtain ⟨rfl,hE⟩ := dE_inv h7
   have e:fillS (down_S6) [.i x38,.b x39,.i x40,.i x41,.i x42,.b x43,.l (K.int IntKind.i64) x44] = some (down_S3 x38 x39 x40 x41 x42 x43 x44) := by kernel_rfl
   rw [e] at hS
   cases hS
   exact ⟨_,(down_l1_iter x38 x39 x43 x44 Q _ x40 x41 x42).trans hE⟩
noncomputable def down_l1_lps {α:Type}:LookL α := addLp 98 down_P2 0 (lEnt (down_S6) down_l1_go) down_l0_lps
theorem down_l1_lps_ok {α:Type}:LoopsOk E.P (down_l1_lps (α := α)) := addLp_ok down_l1_ok (down_l0_lps_ok)
noncomputable def M.down {α:Type} (neg:Bool) (d:List Int) (c:Int) (k0:Int → Bool → Option α):Option α := if cLt c (0:Int) = true then M.down_l1 (IntKind.wrap .i64 ((0:Int) - c)) d (fun (x64 x65:Int) ↦ k0 (0:Int) false) (fun (x66 x67:Int) ↦ if (!neg) = true then if cLt (0:Int) x67 = true then if cLt (4611686018427387903:Int) (IntKind.wrap .i64 (x66 + (1:Int))) = true then k0 (0:Int) false else if (!neg) = true then k0 (IntKind.wrap .i64 ((0:Int) - IntKind.wrap .i64 (x66 + (1:Int)))) true else k0 (IntKind.wrap .i64 (x66 + (1:Int))) true else if cLt (4611686018427387903:Int) x66 = true then k0 (0:Int) false else if (!neg) = true then k0 (IntKind.wrap .i64 ((0:Int) - x66)) true else k0 x66 true else if cLt (4611686018427387903:Int) x66 = true then k0 (0:Int) false else if (!neg) = true then k0 (IntKind.wrap .i64 ((0:Int) - x66)) true else k0 x66 true) ((100:Nat) + List.length d) (0:Int) (0:Int) (7:Int) else M.down_l1 c d (fun (x68 x69:Int) ↦ k0 (0:Int) false) (fun (x70 x71:Int) ↦ if neg = true then if cLt (0:Int) x71 = true then if cLt (4611686018427387903:Int) (IntKind.wrap .i64 (x70 + (1:Int))) = true then k0 (0:Int) false else if neg = true then k0 (IntKind.wrap .i64 ((0:Int) - IntKind.wrap .i64 (x70 + (1:Int)))) true else k0 (IntKind.wrap .i64 (x70 + (1:Int))) true else if cLt (4611686018427387903:Int) x70 = true then k0 (0:Int) false else if neg = true then k0 (IntKind.wrap .i64 ((0:Int) - x70)) true else k0 x70 true else if cLt (4611686018427387903:Int) x70 = true then k0 (0:Int) false else if neg = true then k0 (IntKind.wrap .i64 ((0:Int) - x70)) true else k0 x70 true) ((100:Nat) + List.length d) (0:Int) (0:Int) (7:Int)
theorem down_eq {α:Type} (neg:Bool) (d:List Int) (c:Int) (Q:SV → Hp → Option α):callI E look_less (exec E look_less down_l1_lps 400) 98 ([SV.agg [SV.bool neg,SV.arr (K.int IntKind.i64) d (nat_lit 8)],SV.int .i64 c]) ([]) Q = M.down neg d c (fun (x72:Int) (x73:Bool) => Q (SV.tup [SV.int .i64 x72,SV.bool x73]) ([])) := by kernel_rfl
def down_sp:List AS := [.val (.agg [.bool false,.arr (.int .i64) [] 8]),.val (.int .i64 0)]
def bitOf:Nat → Int
 | 0 => 0
 | k + 1 => 2 ^ k
theorem bitOf0:bitOf 0 = 0 := rfl
theorem bitOfS (k:Nat):bitOf (k + 1) = 2 ^ k := rfl
theorem bitOf_half (k:Nat):Int.tdiv (2 ^ k) 2 = bitOf k := by
 cases k with
 | zero => decide
 | succ k =>
   rw [bitOfS,Int.tdiv_eq_ediv_of_nonneg (Int.le_of_lt (Int.pow_pos (by decide))),Int.pow_succ]
   omega
theorem p2 (k:Nat):(0:Int) < 2 ^ k := Int.pow_pos (by decide)
theorem p2le {k n:Nat} (h:k ≤ n):(2:Int) ^ k ≤ 2 ^ n := by
 obtain ⟨m,rfl⟩ := Nat.le.dest h
 rw [Int.pow_add]
 have := Int.mul_le_mul_of_nonneg_left (show (1:Int) ≤ 2 ^ m by have := p2 m; omega) (Int.le_of_lt (p2 k))
 omega
theorem p23:(2:Int) ^ 23 = 8388608 := by kernel_rfl
theorem down_l0_val {α:Type} (cc:Int) (j:Nat) (d:List Int) (hd:okD d = true) (hj:j < 8) (hc0:0 < cc) (hc1:cc ≤ 4611686018427387903) (k0 k2:Int → Int → Option α):∀ (m fuel:Nat) (T:Int),m ≤ 24 → m < fuel → 0 ≤ T → T / cc < 4611686018427387904 →
   (∃ q r,M.down_l0 cc (j:Int) d k0 k2 fuel (T / cc) (T % cc) (bitOf m) = k0 q r ∧ 4611686018427387904 ≤ (T * 2 ^ m + d.getD j 0 % 2 ^ m) / cc) ∨
   (M.down_l0 cc (j:Int) d k0 k2 fuel (T / cc) (T % cc) (bitOf m) = k2 ((T * 2 ^ m + d.getD j 0 % 2 ^ m) / cc) ((T * 2 ^ m + d.getD j 0 % 2 ^ m) % cc) ∧ (T * 2 ^ m + d.getD j 0 % 2 ^ m) / cc < 4611686018427387904)
 | 0,fuel,T,h1,h2,hT,hq => by
   obtain ⟨f,rfl⟩:∃ f,fuel = f + 1 := ⟨fuel - 1,by omega⟩
   right
   unfold M.down_l0 M.down_l0_step
   simp only [bitOf0,cLt_eq,Int.lt_irrefl,decide_false,Bool.false_eq_true,if_false,Int.pow_zero,Int.emod_one,Int.mul_one,Int.add_zero,true_and]
   exact hq
 | m + 1,fuel,T,h1,h2,hT,hq => by
   obtain ⟨f,rfl⟩:∃ f,fuel = f + 1 := ⟨fuel - 1,by omega⟩
   have da := okD_get hd j
   have hp := p2 m
   have hp24:(2:Int) ^ m ≤ 8388608 := Int.le_trans (p2le (show m ≤ 23 by omega)) (Int.le_of_eq p23)
   have hps:(2:Int) ^ (m + 1) = 2 * 2 ^ m := by rw [Int.pow_succ]; omega
   have hq0:0 ≤ T / cc := Int.ediv_nonneg hT (by omega)
   have hr0:0 ≤ T % cc := Int.emod_nonneg T (by omega)
   have hr1:T % cc < cc := Int.emod_lt_of_pos T hc0
   have hTe:T / cc * cc + T % cc = T := Int.ediv_mul_add_emod T cc
   generalize ha:d.getD j 0 = a at *
   -- the bit
   have hb0:0 ≤ a / 2 ^ m := Int.ediv_nonneg da.1 (by omega)
   have hble:a / 2 ^ m ≤ a := Int.ediv_le_self _ da.1
   have hbit:a % 2 ^ (m + 1) = a / 2 ^ m % 2 * 2 ^ m + a % 2 ^ m := by
     have e1:a / 2 ^ m * 2 ^ m + a % 2 ^ m = a := Int.ediv_mul_add_emod a _
     have e2:2 * (a / 2 ^ m / 2) + a / 2 ^ m % 2 = a / 2 ^ m := Int.mul_ediv_add_emod _ 2
     have hm0:0 ≤ a % 2 ^ m := Int.emod_nonneg a (by omega)
     have hm1:a % 2 ^ m < 2 ^ m := Int.emod_lt_of_pos a hp
     have e3:a = (a / 2 ^ m % 2 * 2 ^ m + a % 2 ^ m) + 2 ^ (m + 1) * (a / 2 ^ m / 2) := by
       rw [hps]; grind
     have e4:a / 2 ^ m % 2 = 0 ∨ a / 2 ^ m % 2 = 1 := by omega
     conv => lhs; rw [e3]
     rw [Int.add_mul_emod_self_left]
     apply Int.emod_eq_of_lt
     · rcases e4 with h | h <;> rw [h] <;> omega
     · rw [hps]; rcases e4 with h | h <;> rw [h] <;> omega
   generalize hβ:a / 2 ^ m % 2 = β at *
   have hβ':β = 0 ∨ β = 1 := by omega
   -- what comes next
   have hnext:T * 2 ^ (m + 1) + a % 2 ^ (m + 1) = (2 * T + β) * 2 ^ m + a % 2 ^ m := by rw [hbit,hps]; grind
   have hm0:0 ≤ a % 2 ^ m := Int.emod_nonneg a (by omega)
   rw [hnext]
   have hexit:2305843009213693951 < T / cc → 4611686018427387904 ≤ ((2 * T + β) * 2 ^ m + a % 2 ^ m) / cc := by
     intro h
     apply Int.le_ediv_of_mul_le hc0
     have g1:2305843009213693952 * cc ≤ T / cc * cc := Int.mul_le_mul_of_nonneg_right (by omega) (by omega)
     have g2:(2 * T + β) * 1 ≤ (2 * T + β) * 2 ^ m := Int.mul_le_mul_of_nonneg_left (by omega) (by omega)
     omega
   have hstep:T / cc ≤ 2305843009213693951 → (2 * T + β) / cc = (if cc ≤ 2 * (T % cc) + β then 2 * (T / cc) + 1 else 2 * (T / cc)) ∧ (2 * T + β) % cc = (if cc ≤ 2 * (T % cc) + β then 2 * (T % cc) + β - cc else 2 * (T % cc) + β) := by
     intro h
     split
     · have e : 2 * T + β = (2 * (T % cc) + β - cc) + cc * (2 * (T / cc) + 1) := by
         have:cc * (2 * (T / cc) + 1) = 2 * (T / cc * cc) + cc := by grind
         omega
       constructor
       · rw [e,Int.add_mul_ediv_left _ _ (by omega),Int.ediv_eq_zero_of_lt (by omega) (by omega)]; omega
       · rw [e,Int.add_mul_emod_self_left]; exact Int.emod_eq_of_lt (by omega) (by omega)
     · have e : 2 * T + β = (2 * (T % cc) + β) + cc * (2 * (T / cc)) := by
         have:cc * (2 * (T / cc)) = 2 * (T / cc * cc) := by grind
         omega
       constructor
       · rw [e,Int.add_mul_ediv_left _ _ (by omega),Int.ediv_eq_zero_of_lt (by omega) (by omega)]; omega
       · rw [e,Int.add_mul_emod_self_left]; exact Int.emod_eq_of_lt (by omega) (by omega)
   have ih := down_l0_val cc j d hd hj hc0 hc1 k0 k2 m f (2 * T + β) (by omega) (by omega) (by omega)
   rw [ha] at ih
   conv => enter [1,1,q,1,r]; lhs; unfold M.down_l0 M.down_l0_step
   conv => enter [2]; lhs; lhs; unfold M.down_l0 M.down_l0_step
   have hj0:(0:Int) ≤ (j:Int) ∧ (j:Int) < 8 := by omega
   have hbit0:¬ (2:Int) ^ m = 0 := by omega
   have hdig:Int.tmod (IntKind.wrap IntKind.i64 (Int.tdiv a (2 ^ m))) 2 = β := by
     rw [Int.tdiv_eq_ediv_of_nonneg da.1,IntWalk.i64_in _ (by omega),Int.tmod_eq_emod_of_nonneg hb0]; exact hβ
   have w2:IntKind.wrap .i64 (2 * (T % cc)) = 2 * (T % cc) := IntWalk.i64_in _ (by omega)
   have w3:IntKind.wrap .i64 (2 * (T % cc) + 1) = 2 * (T % cc) + 1 := IntWalk.i64_in _ (by omega)
   have w4:IntKind.wrap .i64 (Int.tdiv (2 ^ m) 2) = bitOf m := by
     rw [bitOf_half]
     apply IntWalk.i64_in
     cases m with
     | zero => rw [bitOf0]; omega
     | succ k => rw [bitOfS]; have g1 := p2 k; have g2:(2:Int) ^ k ≤ 8388608 := Int.le_trans (p2le (show k ≤ 23 by omega)) (Int.le_of_eq p23); omega
   simp only [bitOfS,cLt_eq,cLe_eq,cEq_eq,hp,hj0,hbit0,Int.toNat_natCast,ha,hdig,w2,w3,w4,decide_true,if_true,if_false,and_self]
   by_cases hbig:2305843009213693951 < T / cc
   · left
     rcases hβ' with h | h
     · exact ⟨T / cc,2 * (T % cc),by simp [h,hbig],hexit hbig⟩
     · exact ⟨T / cc,2 * (T % cc) + 1,by simp [h,hbig],hexit hbig⟩
   · obtain ⟨s1, s2⟩ := hstep (by omega)
     have w5:IntKind.wrap .i64 (2 * (T / cc)) = 2 * (T / cc) := IntWalk.i64_in _ (by omega)
     have w6:IntKind.wrap .i64 (2 * (T / cc) + 1) = 2 * (T / cc) + 1 := IntWalk.i64_in _ (by omega)
     have hq':(2 * T + β) / cc < 4611686018427387904 := by rw [s1]; split <;> omega
     have ih := ih hq'
     rw [s1,s2] at ih
     simp only [hbig,decide_false,Bool.false_eq_true,if_false,w5,w6]
     rcases hβ' with h | h
     · subst h
       simp only [Int.add_zero] at ih ⊢
       have e:((0:Int) == 1) = false := by decide
       simp only [e,Bool.false_eq_true,if_false]
       by_cases hge:cc ≤ 2 * (T % cc)
       · have w7 : IntKind.wrap .i64 (2 * (T % cc) - cc) = 2 * (T % cc) - cc := IntWalk.i64_in _ (by omega)
         simp only [hge,decide_true,if_true,w7] at ih ⊢
         exact ih
       · simp only [hge, decide_false, Bool.false_eq_true, if_false] at ih ⊢
         exact ih
     · subst h
       simp only [beq_self_eq_true,if_true]
       by_cases hge:cc ≤ 2 * (T % cc) + 1
       · have w7 : IntKind.wrap .i64 (2 * (T % cc) + 1 - cc) = 2 * (T % cc) + 1 - cc := IntWalk.i64_in _ (by omega)
         simp only [hge,decide_true,if_true,w7] at ih ⊢
         exact ih
       · simp only [hge, decide_false, Bool.false_eq_true, if_false] at ih ⊢
         exact ih
theorem p24:(2:Int) ^ 24 = 16777216 := by kernel_rfl
theorem val_drop_le {D:List Int} (h:okD D = true) (m:Nat):val (D.drop m) ≤ val D := by
 have e := val_append (D.take m) (D.drop m)
 rw [List.take_append_drop] at e
 have h1 := val_bound (okD_take h m)
 have h2 := val_bound (okD_drop h m)
 have := Int.mul_le_mul_of_nonneg_right (show (1:Int) ≤ 16777216 ^ (D.take m).length by have := pB (D.take m).length; omega) h2.1
 omega
theorem down_l1_val {α:Type} (cc:Int) (d:List Int) (hd:okD d = true) (ld:d.length = 8) (hc0:0 < cc) (hc1:cc ≤ 4611686018427387903) (k1 k2:Int → Int → Option α):∀ (m fuel:Nat),m ≤ 8 → m < fuel → val (d.drop m) / cc < 4611686018427387904 →
   (∃ q r,M.down_l1 cc d k1 k2 fuel (val (d.drop m) / cc) (val (d.drop m) % cc) ((m:Int) - 1) = k1 q r ∧ 4611686018427387904 ≤ val d / cc) ∨
   (M.down_l1 cc d k1 k2 fuel (val (d.drop m) / cc) (val (d.drop m) % cc) ((m:Int) - 1) = k2 (val d / cc) (val d % cc) ∧ val d / cc < 4611686018427387904)
 | 0,fuel,h1,h2,hq => by
   obtain ⟨f,rfl⟩:∃ f,fuel = f + 1 := ⟨fuel - 1,by omega⟩
   right
   unfold M.down_l1 M.down_l1_step
   have e:¬ (0:Int) ≤ ((0:Nat):Int) - 1 := by omega
   rw [List.drop_zero] at hq ⊢
   simp only [cLe_eq,e,decide_false,Bool.false_eq_true,if_false,true_and]
   exact hq
 | m + 1,fuel,h1,h2,hq => by
   obtain ⟨f,rfl⟩:∃ f,fuel = f + 1 := ⟨fuel - 1,by omega⟩
   have e0:(((m + 1:Nat):Int) - 1) = (m:Int) := by omega
   rw [e0]
   have dm := okD_get hd m
   have hT0 := (val_bound (okD_drop hd (m + 1))).1
   have hT'0 := (val_bound (okD_drop hd m)).1
   have hT':val (d.drop m) = val (d.drop (m + 1)) * 2 ^ 24 + d.getD m 0 % 2 ^ 24 := by
     rw [drop_getD (by omega:m < d.length),val,p24]; omega
   have hTe:val (d.drop (m + 1)) / cc * cc + val (d.drop (m + 1)) % cc = val (d.drop (m + 1)) := Int.ediv_mul_add_emod _ cc
   have ih := down_l1_val cc d hd ld hc0 hc1 k1 k2 m f (by omega) (by omega)
   have hle:val (d.drop m) / cc ≤ val d / cc := Int.ediv_le_ediv hc0 (val_drop_le hd m)
   have w1:IntKind.wrap .i64 ((m:Int) - 1) = (m:Int) - 1 := IntWalk.i64_in _ (by omega)
   -- the digit's bits
   have hR:(∃ q r,M.down_l0 cc (m:Int) d (fun x y => k1 x y) (fun x y => M.down_l1 cc d k1 k2 f x y ((m:Int) - 1)) (100 + d.length) (val (d.drop (m + 1)) / cc) (val (d.drop (m + 1)) % cc) 8388608 = k1 q r ∧ 4611686018427387904 ≤ val d / cc) ∨
       (M.down_l0 cc (m:Int) d (fun x y => k1 x y) (fun x y => M.down_l1 cc d k1 k2 f x y ((m:Int) - 1)) (100 + d.length) (val (d.drop (m + 1)) / cc) (val (d.drop (m + 1)) % cc) 8388608 = k2 (val d / cc) (val d % cc) ∧ val d / cc < 4611686018427387904) := by
     have hb:(8388608:Int) = bitOf 24 := p23.symm
     rw [hb]
     rcases down_l0_val cc m d hd (by omega) hc0 hc1 (fun x y => k1 x y) (fun x y => M.down_l1 cc d k1 k2 f x y ((m:Int) - 1)) 24 (100 + d.length) (val (d.drop (m + 1))) (by omega) (by omega) hT0 hq with ⟨q,r,g1,g2⟩ | ⟨g1,g2⟩
     · rw [← hT'] at g2
       exact .inl ⟨q,r,g1,by omega⟩
     · rw [← hT'] at g1 g2
       rw [g1]
       exact ih g2
   conv => enter [1,1,q,1,r]; lhs; unfold M.down_l1 M.down_l1_step
   conv => enter [2]; lhs; lhs; unfold M.down_l1 M.down_l1_step
   have c1:(0:Int) ≤ (m:Int) := by omega
   have c2:(m:Int) < 8 := by omega
   simp only [cLe_eq,cEq_eq,c1,c2,decide_true,if_true,and_self,Int.toNat_natCast,w1]
   by_cases z1:d.getD m 0 = 0
   · by_cases z2 : val (d.drop (m + 1)) / cc = 0
     · by_cases z3 : val (d.drop (m + 1)) % cc = 0
       · have hz : val (d.drop m) = 0 := by
           rw [z2,z3] at hTe
           rw [hT',z1,← hTe]; simp
         rw [hz] at ih
         have := ih (by rw [Int.zero_ediv]; omega)
         rw [Int.zero_ediv,Int.zero_emod] at this
         simp only [z1,z2,z3,beq_self_eq_true,if_true]
         exact this
       · have f3 : (val (d.drop (m + 1)) % cc == 0) = false := by simpa using z3
         rw [z2] at hR
         simp only [z1,z2,f3,beq_self_eq_true,if_true,Bool.false_eq_true,if_false]
         exact hR
     · have f2 : (val (d.drop (m + 1)) / cc == 0) = false := by simpa using z2
       simp only [z1,f2,beq_self_eq_true,if_true,Bool.false_eq_true,if_false]
       exact hR
   · have : (d.getD m 0 == 0) = false := by simpa using z1
     simp only [this,Bool.false_eq_true,if_false]
     exact hR
def _root_.Go.Proofs.YtlagndfhibkjpaaGreat.V.sm (o:Option Int):Bool := o.isSome
noncomputable def _root_.Go.Proofs.YtlagndfhibkjpaaGreat.V.dn (n:Bool) (d:List Int) (c:Int):Option Int := V.tl (Int.fdiv (wv n d) c)
theorem down_fin {α:Type} (N:Bool) (X cc:Int) (hX:0 ≤ X) (hc0:0 < cc) (hq:X / cc < 4611686018427387904) (k0:Int → Bool → Option α) :
   (if N = true then
       if cLt (0:Int) (X % cc) = true then
         if cLt (4611686018427387903:Int) (IntKind.wrap IntKind.i64 (X / cc + (1:Int))) = true then k0 (0:Int) false
         else
           if N = true then k0 (IntKind.wrap IntKind.i64 ((0:Int) - IntKind.wrap IntKind.i64 (X / cc + (1:Int)))) true
           else k0 (IntKind.wrap IntKind.i64 (X / cc + (1:Int))) true
       else
         if cLt (4611686018427387903:Int) (X / cc) = true then k0 (0:Int) false else if N = true then k0 (IntKind.wrap IntKind.i64 ((0:Int) - X / cc)) true else k0 (X / cc) true
     else
       if cLt (4611686018427387903:Int) (X / cc) = true then k0 (0:Int) false else if N = true then k0 (IntKind.wrap IntKind.i64 ((0:Int) - X / cc)) true else k0 (X / cc) true) =
     k0 (V.gv (V.tl ((if N then -X else X) / cc))) (V.sm (V.tl ((if N then -X else X) / cc))) := by
 have hq0:0 ≤ X / cc := Int.ediv_nonneg hX (by omega)
 have hm0:0 ≤ X % cc := Int.emod_nonneg X (by omega)
 have hm1:X % cc < cc := Int.emod_lt_of_pos X hc0
 have hd:X / cc * cc + X % cc = X := Int.ediv_mul_add_emod X cc
 have hneg:(-X) / cc = if 0 < X % cc then -(X / cc) - 1 else -(X / cc) := by
   split
   · rename_i h
     apply Int.ediv_eq_iff_of_pos hc0 |>.2
     have e:(-(X / cc) - 1) * cc = -(X / cc * cc) - cc := by grind
     constructor <;> grind
   · rename_i h
     have e:X = cc * (X / cc) := by rw [Int.mul_comm]; omega
     have:-X = cc * (-(X / cc)) := by rw [Int.mul_neg,← e]
     rw [this,Int.mul_ediv_cancel_left _ (by omega)]
 simp only [cLt_eq]
 unfold V.tl V.gv V.sm
 cases N with
 | false =>
   simp only [Bool.false_eq_true,if_false]
   have h1:¬ 4611686018427387903 < X / cc := by omega
   have h2:isG (X / cc) = false := by rw [isG_false]; omega
   simp [h1,h2]
 | true =>
   simp only [if_true]
   rw [hneg]
   by_cases c0:0 < X % cc
   · simp only [c0, decide_true, if_true]
     rw [IntWalk.i64_in (X / cc + 1) (by omega)]
     by_cases c1:4611686018427387903 < X / cc + 1
     · have h2 : isG (-(X / cc) - 1) = true := by rw [isG_iff]; omega
       simp [c1,h2]
     · have h2 : isG (-(X / cc) - 1) = false := by rw [isG_false]; omega
       rw [IntWalk.i64_in (0 - (X / cc + 1)) (by omega)]
       simp only [c1,h2,decide_false,Bool.false_eq_true,if_false,Option.getD_some,Option.isSome_some]
       rw [show (0:Int) - (X / cc + 1) = -(X / cc) - 1 by omega]
   · simp only [c0, decide_false, Bool.false_eq_true, if_false]
     have h1:¬ 4611686018427387903 < X / cc := by omega
     have h2:isG (-(X / cc)) = false := by rw [isG_false]; omega
     rw [IntWalk.i64_in (0 - X / cc) (by omega)]
     simp only [h1,h2,decide_false,Bool.false_eq_true,if_false,Option.getD_some,Option.isSome_some]
     rw [show (0:Int) - X / cc = -(X / cc) by omega]
theorem down_main {α:Type} (N:Bool) (cc:Int) (d:List Int) (hd:V.ok8 d = true) (hc0:0 < cc) (hc1:cc ≤ 4611686018427387903) (k0:Int → Bool → Option α) (k2:Int → Int → Option α)
   (hk:∀ X,0 ≤ X → X / cc < 4611686018427387904 → k2 (X / cc) (X % cc) = k0 (V.gv (V.tl ((if N then -X else X) / cc))) (V.sm (V.tl ((if N then -X else X) / cc)))) :
   M.down_l1 cc d (fun _ _ => k0 0 false) k2 (100 + d.length) 0 0 7 = k0 (V.gv (V.tl (wv N d / cc))) (V.sm (V.tl (wv N d / cc))) := by
 rw [ok8_iff] at hd
 have v := val_bound hd.2
 have e8:d.drop 8 = [] := List.drop_of_length_le (by omega)
 have h := down_l1_val cc d hd.2 hd.1 hc0 hc1 (fun _ _ => k0 0 false) k2 8 (100 + d.length) (by omega) (by omega) (by rw [e8,val,Int.zero_ediv]; omega)
 rw [e8,val,Int.zero_ediv,Int.zero_emod,show (((8:Nat):Int) - 1) = 7 by rfl] at h
 rcases h with ⟨_,_,g1,g2⟩ | ⟨g1,g2⟩
 · rw [g1]
   have hg:isG (wv N d / cc) = true := by
     rw [isG_iff]
     unfold wv
     cases N with
     | false => simp only [Bool.false_eq_true,if_false]; omega
     | true =>
       simp only [if_true]
       left
       have:(-val d) / cc ≤ -(val d / cc) := by
         have h1:(-val d) / cc * cc + (-val d) % cc = -val d := Int.ediv_mul_add_emod _ cc
         have h2:val d / cc * cc + val d % cc = val d := Int.ediv_mul_add_emod _ cc
         have h3:0 ≤ (-val d) % cc := Int.emod_nonneg _ (by omega)
         have h4:0 ≤ val d % cc := Int.emod_nonneg _ (by omega)
         by_cases hlt:(-val d) / cc ≤ -(val d / cc)
         · exact hlt
         · have : (-(val d / cc) + 1) * cc ≤ (-val d) / cc * cc := Int.mul_le_mul_of_nonneg_right (by omega) (by omega)
           have e:(-(val d / cc) + 1) * cc = -(val d / cc * cc) + cc := by grind
           omega
       omega
   unfold V.tl V.gv V.sm
   simp [hg]
 · rw [g1, hk _ v.1 g2]
   rfl
theorem down_v {α:Type} (n:Bool) (d:List Int) (c:Int) (hd:V.ok8 d = true) (h0:c ≠ 0) (hc:-4611686018427387903 ≤ c ∧ c ≤ 4611686018427387903) (k0:Int → Bool → Option α):M.down n d c k0 = k0 (V.gv (V.dn n d c)) (V.sm (V.dn n d c)) := by
 unfold M.down V.dn
 rw [cLt_eq]
 by_cases hn:c < 0
 · simp only [hn, decide_true, if_true]
   rw [IntWalk.i64_in (0 - c) (by omega)]
   have hf:Int.fdiv (wv n d) c = wv (!n) d / (0 - c) := by
     rw [← Int.neg_fdiv_neg,fdiv_pos _ _ (by omega),Int.zero_sub]
     unfold wv; cases n <;> simp
   rw [hf]
   exact down_main (!n) (0 - c) d hd (by omega) (by omega) k0 _ (fun X hX hq => down_fin (!n) X (0 - c) hX (by omega) hq k0)
 · simp only [hn, decide_false, Bool.false_eq_true, if_false]
   rw [fdiv_pos _ _ (by omega)]
   exact down_main n c d hd (by omega) (by omega) k0 _ (fun X hX hq => down_fin n X c hX (by omega) hq k0)
noncomputable def down_h {α:Type} (ds:List D) (Q:SV → Hp → Option α):Option α :=
 dB ds fun neg ds => dL (K.int IntKind.i64) ds fun d ds => dI ds fun c ds => dE ds (if V.ok8 d = true ∧ c ≠ 0 ∧ -4611686018427387903 ≤ c ∧ c ≤ 4611686018427387903 then Q (.tup [.int .i64 (V.gv (V.dn neg d c)),.bool (V.sm (V.dn neg d c))]) ([]) else none)
theorem down_h_ok {α:Type}:FnOk E.P 98 (fEnt (α := α) down_sp down_h) :=
 fEnt_ok E (look_less_ok) (exec_sound E E_ok (look_less_ok) (down_l1_lps_ok) 400) fun ds Q r h => by
   unfold down_h at h
   obtain ⟨neg,ds,rfl,h1⟩ := dB_inv h
   obtain ⟨d,ds,rfl,h2⟩ := dL_inv h1
   obtain ⟨c,ds,rfl,h3⟩ := dI_inv h2
   obtain ⟨rfl,hE⟩ := dE_inv h3
   split at hE
   · rename_i hg
     exact ⟨[SV.agg [SV.bool neg,SV.arr (K.int IntKind.i64) d (nat_lit 8)],SV.int .i64 c],[],fun vs => by kernel_rfl,(down_eq neg d c Q).trans ((down_v neg d c hg.1 hg.2.1 hg.2.2 _).trans hE)⟩
   · cases hE
noncomputable def look_down {α:Type}:LookF α := addFn 98 (fEnt down_sp down_h) look_less
theorem look_down_ok {α:Type}:LookOk E.P (look_down (α := α)) := addFn_ok down_h_ok (look_less_ok)
end
section
open Go
set_option maxRecDepth 20000
theorem anyG_cons' (x:Int) (l:List Int):V.anyG (x :: l) = (isG x || V.anyG l) := by simp [V.anyG]
noncomputable abbrev rootOf_S1 (y1 y2:Int) (y3:Bool) (y4:List Int):St := St.mk (none :: some (SV.ptr (nat_lit 0) (nat_lit 0)) :: nn 4 (some (SV.int .i64 y1) :: some (SV.int .i64 y2) :: nn 29 ([]))) [.cells [SV.bool y3,SV.arr (K.int IntKind.i64) y4 (nat_lit 8)] (nat_lit 115)]
noncomputable abbrev rootOf_S2:St := St.mk (none :: some (SV.ptr (nat_lit 0) (nat_lit 0)) :: nn 4 (some (SV.int .i64 (0:Int)) :: some (SV.int .i64 (0:Int)) :: nn 29 ([]))) [.cells [SV.bool false,SV.arr (K.int IntKind.i64) [] (nat_lit 8)] (nat_lit 115)]
abbrev rootOf_P1:List Bool := [false,true,false,true,true,true,true,true]
noncomputable def M.rootOf_l0_step {α:Type} (x6:Bool) (x7:List Int) (kn:Int → Int → Option α) (k1:Int → Option α) (x4 x5:Int):Option α := if cLt (0:Int) x5 = true then if (-9223372036854775808:Int) ≤ IntKind.wrap .i64 (x4 + x5) ∧ IntKind.wrap .i64 (x4 + x5) < (9223372036854775808:Int) then if V.ok8 (V.ofN (IntKind.wrap .i64 (x4 + x5))) = true ∧ V.ok8 (V.ofN (IntKind.wrap .i64 (x4 + x5))) = true then if V.two x7 (V.tmD (V.ofN (IntKind.wrap .i64 (x4 + x5))) (V.ofN (IntKind.wrap .i64 (x4 + x5)))) = true then if (!V.ls x6 x7 (V.tmN (decide (IntKind.wrap .i64 (x4 + x5) < (0:Int))) (decide (IntKind.wrap .i64 (x4 + x5) < (0:Int)))) (V.tmD (V.ofN (IntKind.wrap .i64 (x4 + x5))) (V.ofN (IntKind.wrap .i64 (x4 + x5))))) = true then kn (IntKind.wrap .i64 (x4 + x5)) (IntKind.wrap .i64 (Int.tdiv x5 (2:Int))) else kn x4 (IntKind.wrap .i64 (Int.tdiv x5 (2:Int))) else none else none else none else k1 x4
noncomputable def M.rootOf_l0 {α:Type} (x6:Bool) (x7:List Int) (k1:Int → Option α):Nat → Int → Int → Option α
 | 0,_,_ => none
 | n + 1,x4,x5 => M.rootOf_l0_step x6 x7 (M.rootOf_l0 x6 x7 k1 n) k1 x4 x5
theorem rootOf_l0_step_eq {α:Type} (x4 x5:Int) (x6:Bool) (x7:List Int) (Q:Ex → St → Option α):(loopStep E (exec E look_down noLps 400) 82 rootOf_P1 0 (codeAt E.P 82 rootOf_P1)) (rootOf_S1 x4 x5 x6 x7) Q = M.rootOf_l0_step x6 x7 (fun (x9 x10:Int) => Q .normal (rootOf_S1 x9 x10 x6 x7)) (fun (x8:Int) => Q (.exit 0) (St.mk (nn 6 (some (SV.int .i64 x8) :: nn 30 ([]))) [])) x4 x5 := by kernel_rfl
theorem rootOf_l0_iter {α:Type} (x6:Bool) (x7:List Int) (Q:Ex → St → Option α):∀ (n:Nat) (x4 x5:Int),iter (loopStep E (exec E look_down noLps 400) 82 rootOf_P1 0 (codeAt E.P 82 rootOf_P1)) n (rootOf_S1 x4 x5 x6 x7) Q = M.rootOf_l0 x6 x7 (fun (x8:Int) => Q (.exit 0) (St.mk (nn 6 (some (SV.int .i64 x8) :: nn 30 ([]))) [])) n x4 x5
 | 0,_,_ => rfl
 | n + 1,x4,x5 => (rootOf_l0_step_eq x4 x5 x6 x7 (iterK (loopStep E (exec E look_down noLps 400) 82 rootOf_P1 0 (codeAt E.P 82 rootOf_P1)) n Q)).trans (congrArg (fun kn => M.rootOf_l0_step x6 x7 kn (fun (x8:Int) => Q (.exit 0) (St.mk (nn 6 (some (SV.int .i64 x8) :: nn 30 ([]))) [])) x4 x5) (funext fun x4 => funext fun x5 => rootOf_l0_iter x6 x7 Q n x4 x5))
noncomputable def rootOf_l0_go {α:Type} (ds:List D) (Q:Ex → St → Option α):Option α :=
 dI ds fun x4 ds => dI ds fun x5 ds => dB ds fun x6 ds => dL (K.int IntKind.i64) ds fun x7 ds => dE ds (M.rootOf_l0 x6 x7 (fun (x8:Int) => Q (.exit 0) (St.mk (nn 6 (some (SV.int .i64 x8) :: nn 30 ([]))) [])) (100 + x7.length) x4 x5)
theorem rootOf_l0_ok {α:Type}:LoopOk E.P 82 rootOf_P1 0 (lEnt (α := α) (rootOf_S2) rootOf_l0_go) :=
 lEnt_ok E (exec_sound E E_ok (look_down_ok) (noLps_ok _) 400) fun ds Q r h S hS => by
   unfold rootOf_l0_go at h
   obtain ⟨x4,ds,rfl,h1⟩ := dI_inv h
   obtain ⟨x5,ds,rfl,h2⟩ := dI_inv h1
   obtain ⟨x6,ds,rfl,h3⟩ := dB_inv h2
   obtain ⟨x7,ds,rfl,h4⟩ := dL_inv h3
   obtain ⟨rfl,hE⟩ := dE_inv h4
   have e:fillS (rootOf_S2) [.i x4,.i x5,.b x6,.l (K.int IntKind.i64) x7] = some (rootOf_S1 x4 x5 x6 x7) := by kernel_rfl
   rw [e] at hS
   cases hS
   exact ⟨_,(rootOf_l0_iter x6 x7 Q _ x4 x5).trans hE⟩
noncomputable def rootOf_l0_lps {α:Type}:LookL α := addLp 82 rootOf_P1 0 (lEnt (rootOf_S2) rootOf_l0_go) noLps
theorem rootOf_l0_lps_ok {α:Type}:LoopsOk E.P (rootOf_l0_lps (α := α)) := addLp_ok rootOf_l0_ok (noLps_ok _)
noncomputable def M.rootOf {α:Type} (neg:Bool) (d:List Int) (k0:Int → Bool → Option α):Option α := if V.ok8 (V.ofN (4611686018427387904:Int)) = true ∧ V.ok8 (V.ofN (4611686018427387904:Int)) = true then if V.two d (V.tmD (V.ofN (4611686018427387904:Int)) (V.ofN (4611686018427387904:Int))) = true then if (!V.ls neg d (V.tmN (decide ((4611686018427387904:Int) < (0:Int))) (decide ((4611686018427387904:Int) < (0:Int)))) (V.tmD (V.ofN (4611686018427387904:Int)) (V.ofN (4611686018427387904:Int)))) = true then k0 (0:Int) false else M.rootOf_l0 neg d (fun (x11:Int) ↦ k0 x11 true) ((100:Nat) + List.length d) (0:Int) (2305843009213693952:Int) else none else none
theorem rootOf_eq {α:Type} (neg:Bool) (d:List Int) (Q:SV → Hp → Option α):callI E look_down (exec E look_down rootOf_l0_lps 400) 82 ([SV.agg [SV.bool neg,SV.arr (K.int IntKind.i64) d (nat_lit 8)]]) ([]) Q = M.rootOf neg d (fun (x12:Int) (x13:Bool) => Q (SV.tup [SV.int .i64 x12,SV.bool x13]) ([])) := by kernel_rfl
def rootOf_sp:List AS := [.val (.agg [.bool false,.arr (.int .i64) [] 8])]
theorem ofN_prod {x y:Int} (hx:isG x = false) (hy:isG y = false):val (V.ofN x) * val (V.ofN y) ≤ 21267647932558653966460912964485513216 ∧ V.ok8 (V.tmD (V.ofN x) (V.ofN y)) = true ∧ val (V.tmD (V.ofN x) (V.ofN y)) ≤ 21267647932558653966460912964485513216 ∧
   wv (V.tmN (decide (x < 0)) (decide (y < 0))) (V.tmD (V.ofN x) (V.ofN y)) = x * y := by
 rw [isG_false] at hx hy
 have ex := ofN_val (n := x) (by omega)
 have ey := ofN_val (n := y) (by omega)
 have bx:0 ≤ val (V.ofN x) ∧ val (V.ofN x) ≤ 4611686018427387903 := by rw [ex]; split <;> omega
 have bY:0 ≤ val (V.ofN y) ∧ val (V.ofN y) ≤ 4611686018427387903 := by rw [ey]; split <;> omega
 have hp:val (V.ofN x) * val (V.ofN y) ≤ 4611686018427387903 * 4611686018427387903 := Int.mul_le_mul bx.2 bY.2 bY.1 (by omega)
 have ok := tmD_ok (ofN_ok x) (ofN_ok y)
 have hv := tmD_val (ofN_ok x) (ofN_ok y) (by omega)
 refine ⟨by omega,ok,by rw [hv]; omega,?_⟩
 rw [tm_val _ _ (ofN_ok x) (ofN_ok y) (by omega)]
 unfold wv
 rw [ex,ey]
 by_cases h1:x < 0 <;> by_cases h2:y < 0 <;> simp [h1,h2]
theorem sq_ls {d:List Int} {t:Int} (hd:V.ok8 d = true) (h0:0 ≤ t) (h1:t ≤ 4611686018427387904) (hs:val d < 1569275433846670190958947355801916604025588861116008628224) :
   V.two d (V.tmD (V.ofN t) (V.ofN t)) = true ∧ V.ls false d (V.tmN (decide (t < 0)) (decide (t < 0))) (V.tmD (V.ofN t) (V.ofN t)) = decide (val d < t * t) := by
 have ex := ofN_val (n := t) (by omega)
 rw [if_neg (by omega)] at ex
 have hp:t * t ≤ 4611686018427387904 * 4611686018427387904 := Int.mul_le_mul h1 h1 h0 (by omega)
 have ok := tmD_ok (ofN_ok t) (ofN_ok t)
 have hv := tmD_val (ofN_ok t) (ofN_ok t) (by rw [ex]; omega)
 rw [ex] at hv
 have hn:¬ t < 0 := by omega
 refine ⟨?_,?_⟩
 · unfold V.two
   rw [hd,ok,hv]
   simp only [Bool.and_self,Bool.true_and,decide_eq_true_eq]
   omega
 · unfold V.ls wv V.tmN
   simp [hn,hv]
theorem rootOf_l0_val {α:Type} (d:List Int) (hd:V.ok8 d = true) (hs:val d < 1569275433846670190958947355801916604025588861116008628224) (k1:Int → Option α):∀ (m fuel:Nat) (r:Int),m ≤ 62 → m < fuel → 0 ≤ r → r + 2 ^ m ≤ 4611686018427387904 → r * r ≤ val d → val d < (r + 2 ^ m) * (r + 2 ^ m) →
   M.rootOf_l0 false d k1 fuel r (bitOf m) = k1 (V.isq (val d))
 | 0,fuel,r,h1,h2,hr,hb,l1,l2 => by
   obtain ⟨f,rfl⟩:∃ f,fuel = f + 1 := ⟨fuel - 1,by omega⟩
   unfold M.rootOf_l0 M.rootOf_l0_step
   rw [bitOf0,cLt_eq]
   simp only [Int.lt_irrefl,decide_false,Bool.false_eq_true,if_false]
   rw [isq_eq ⟨hr,l1,by simpa using l2⟩]
 | m + 1,fuel,r,h1,h2,hr,hb,l1,l2 => by
   obtain ⟨f,rfl⟩:∃ f,fuel = f + 1 := ⟨fuel - 1,by omega⟩
   have hp := p2 m
   have hps:(2:Int) ^ (m + 1) = 2 * 2 ^ m := by rw [Int.pow_succ]; omega
   rw [hps] at hb l2
   obtain ⟨s1,s2⟩ := sq_ls (t := r + 2 ^ m) hd (by omega) (by omega) hs
   unfold M.rootOf_l0 M.rootOf_l0_step
   rw [bitOfS,cLt_eq,IntWalk.i64_in (r + 2 ^ m) (by omega),bitOf_half]
   have w:IntKind.wrap .i64 (bitOf m) = bitOf m := by
     apply IntWalk.i64_in
     cases m with
     | zero => rw [bitOf0]; omega
     | succ k =>
       rw [bitOfS]
       have g1 := p2 k
       have g2:(2:Int) ^ (k + 1) = 2 * 2 ^ k := by rw [Int.pow_succ]; omega
       omega
   have hrng:(-9223372036854775808:Int) ≤ r + 2 ^ m ∧ r + 2 ^ m < 9223372036854775808 := by omega
   simp only [hp,decide_true,if_true,hrng,and_self,ofN_ok,s1,s2,w]
   by_cases hlt:val d < (r + 2 ^ m) * (r + 2 ^ m)
   · simp only [hlt, decide_true, Bool.not_true, Bool.false_eq_true, if_false]
     exact rootOf_l0_val d hd hs k1 m f r (by omega) (by omega) hr (by omega) l1 hlt
   · simp only [hlt, decide_false, Bool.not_false, if_true]
     exact rootOf_l0_val d hd hs k1 m f (r + 2 ^ m) (by omega) (by omega) (by omega) (by omega) (by omega) (by
       rw [show r + 2 ^ m + 2 ^ m = r + 2 * 2 ^ m by omega]; exact l2)
theorem p62:(2:Int) ^ 62 = 4611686018427387904 := by kernel_rfl
theorem p61:(2305843009213693952:Int) = bitOf 62 := by kernel_rfl
theorem isq_big {x:Int} (h0:0 ≤ x):(4611686018427387903 < V.isq x) ↔ ¬ x < 4611686018427387904 * 4611686018427387904 := by
 have hex:∀ n:Nat,∃ r:Int,0 ≤ r ∧ r * r ≤ (n:Int) ∧ (n:Int) < (r + 1) * (r + 1) := by
   intro n
   induction n with
   | zero => exact ⟨0,by decide,by decide,by decide⟩
   | succ n ih =>
     obtain ⟨r,h0,h1,h2⟩ := ih
     by_cases h:((n + 1:Nat):Int) < (r + 1) * (r + 1)
     · exact ⟨r,h0,by push_cast; omega,h⟩
     · refine ⟨r + 1, by omega, by omega, ?_⟩
       have e:(r + 1 + 1) * (r + 1 + 1) = (r + 1) * (r + 1) + 2 * r + 3 := by grind
       push_cast at h ⊢
       omega
 obtain ⟨n,rfl⟩ := Int.eq_ofNat_of_zero_le h0
 obtain ⟨r,hr⟩ := hex n
 rw [isq_eq hr]
 constructor
 · intro h
   have:4611686018427387904 * 4611686018427387904 ≤ r * r := Int.mul_le_mul (by omega) (by omega) (by omega) (by omega)
   omega
 · intro h
   by_cases hlt:4611686018427387903 < r
   · exact hlt
   · have : (r + 1) * (r + 1) ≤ 4611686018427387904 * 4611686018427387904 := Int.mul_le_mul (by omega) (by omega) (by omega) (by omega)
     omega
theorem rootOf_v {α:Type} (d:List Int) (hd:V.ok8 d = true) (hs:val d < 1569275433846670190958947355801916604025588861116008628224) (k0:Int → Bool → Option α):M.rootOf false d k0 = k0 (V.gv (V.mRt (val d))) (V.sm (V.mRt (val d))) := by
 unfold M.rootOf V.mRt
 have v := val_bound (ok8_iff.1 hd).2
 obtain ⟨s1,s2⟩ := sq_ls (t := 4611686018427387904) hd (by omega) (by omega) hs
 have big := isq_big v.1
 rw [if_pos s1,s2]
 by_cases h:val d < 4611686018427387904 * 4611686018427387904
 · have hb : ¬ 4611686018427387903 < V.isq (val d) := fun hc => (big.1 hc) h
   simp only [h,decide_true,Bool.not_true,Bool.false_eq_true,if_false,hb]
   rw [p61,rootOf_l0_val d hd hs _ 62 (100 + d.length) 0 (by omega) (by omega) (by omega) (by rw [p62]; omega) (by omega) (by rw [p62]; simpa using h)]
   rfl
 · have hb : 4611686018427387903 < V.isq (val d) := big.2 h
   simp only [h,decide_false,Bool.not_false,if_true,hb]
   rfl
def _root_.Go.Proofs.YtlagndfhibkjpaaGreat.V.vl (d:List Int):Int := val d
theorem rootOf_g {α:Type} (n:Bool) (d:List Int) (h:n = false ∧ V.ok8 d = true ∧ V.vl d < 1569275433846670190958947355801916604025588861116008628224) (k0:Int → Bool → Option α):M.rootOf n d k0 = k0 (V.gv (V.mRt (V.vl d))) (V.sm (V.mRt (V.vl d))) := by
 rw [h.1]; exact rootOf_v d h.2.1 h.2.2 k0
noncomputable def rootOf_h {α:Type} (ds:List D) (Q:SV → Hp → Option α):Option α :=
 dB ds fun neg ds => dL (K.int IntKind.i64) ds fun d ds => dE ds (if neg = false ∧ V.ok8 d = true ∧ V.vl d < 1569275433846670190958947355801916604025588861116008628224 then Q (.tup [.int .i64 (V.gv (V.mRt (V.vl d))),.bool (V.sm (V.mRt (V.vl d)))]) ([]) else none)
theorem rootOf_h_ok {α:Type}:FnOk E.P 82 (fEnt (α := α) rootOf_sp rootOf_h) :=
 fEnt_ok E (look_down_ok) (exec_sound E E_ok (look_down_ok) (rootOf_l0_lps_ok) 400) fun ds Q r h => by
   unfold rootOf_h at h
   obtain ⟨neg,ds,rfl,h1⟩ := dB_inv h
   obtain ⟨d,ds,rfl,h2⟩ := dL_inv h1
   obtain ⟨rfl,hE⟩ := dE_inv h2
   split at hE
   · rename_i hg
     exact ⟨[SV.agg [SV.bool neg,SV.arr (K.int IntKind.i64) d (nat_lit 8)]],[],fun vs => by kernel_rfl,(rootOf_eq neg d Q).trans ((rootOf_g neg d hg _).trans hE)⟩
   · cases hE
noncomputable def look_rootOf {α:Type}:LookF α := addFn 82 (fEnt rootOf_sp rootOf_h) look_down
theorem look_rootOf_ok {α:Type}:LookOk E.P (look_rootOf (α := α)) := addFn_ok rootOf_h_ok (look_down_ok)
noncomputable abbrev rsum_S1 (y1:Value) (y2:List Int) (y3:Value) (y4:List Int) (y5:Int) (y6:Bool) (y7:List Int) (y8:Bool) (y9:List Int):St := St.mk (some (SV.ros y1 (K.int IntKind.i64) y2) :: some (SV.ros y3 (K.int IntKind.i64) y4) :: none :: none :: some (SV.ptr (nat_lit 0) (nat_lit 0)) :: some (SV.ptr (nat_lit 1) (nat_lit 0)) :: some (SV.int .i64 y5) :: nn 20 ([])) [.cells [SV.bool y6,SV.arr (K.int IntKind.i64) y7 (nat_lit 8)] (nat_lit 115),.cells [SV.bool y8,SV.arr (K.int IntKind.i64) y9 (nat_lit 8)] (nat_lit 115)]
noncomputable abbrev rsum_S2 (y1:Bool) (y2:List Int) (y3:Bool) (y4:List Int):St := St.mk (nn 4 (some (SV.ptr (nat_lit 0) (nat_lit 0)) :: some (SV.ptr (nat_lit 1) (nat_lit 0)) :: nn 21 ([]))) [.cells [SV.bool y1,SV.arr (K.int IntKind.i64) y2 (nat_lit 8)] (nat_lit 115),.cells [SV.bool y3,SV.arr (K.int IntKind.i64) y4 (nat_lit 8)] (nat_lit 115)]
noncomputable abbrev rsum_S3:St := St.mk (some (SV.ros undef (K.int IntKind.i64) []) :: some (SV.ros undef (K.int IntKind.i64) []) :: none :: none :: some (SV.ptr (nat_lit 0) (nat_lit 0)) :: some (SV.ptr (nat_lit 1) (nat_lit 0)) :: some (SV.int .i64 (0:Int)) :: nn 20 ([])) [.cells [SV.bool false,SV.arr (K.int IntKind.i64) [] (nat_lit 8)] (nat_lit 115),.cells [SV.bool false,SV.arr (K.int IntKind.i64) [] (nat_lit 8)] (nat_lit 115)]
noncomputable def M.rsum_l0_step {α:Type} (x26:List Int) (x28:List Int) (kn:Int → Bool → List Int → Option α) (k1:Bool → List Int → Option α) (x29:Int) (x32:Bool) (x33:List Int):Option α := if cLt x29 (↑(List.length x26):Int) = true then if (0:Int) ≤ x29 ∧ x29 < (↑(List.length x26):Int) then if (-9223372036854775808:Int) ≤ List.getD x26 (Int.toNat x29) (0:Int) ∧ List.getD x26 (Int.toNat x29) (0:Int) < (9223372036854775808:Int) then if (0:Int) ≤ x29 ∧ x29 < (↑(List.length x28):Int) then if (-9223372036854775808:Int) ≤ List.getD x28 (Int.toNat x29) (0:Int) ∧ List.getD x28 (Int.toNat x29) (0:Int) < (9223372036854775808:Int) then if V.ok8 (V.ofN (List.getD x26 (Int.toNat x29) (0:Int))) = true ∧ V.ok8 (V.ofN (List.getD x28 (Int.toNat x29) (0:Int))) = true then if V.ok8 x33 = true ∧ V.ok8 (V.tmD (V.ofN (List.getD x26 (Int.toNat x29) (0:Int))) (V.ofN (List.getD x28 (Int.toNat x29) (0:Int)))) = true then kn (IntKind.wrap .i64 (x29 + (1:Int))) (V.plN x32 x33 (V.tmN (decide (List.getD x26 (Int.toNat x29) (0:Int) < (0:Int))) (decide (List.getD x28 (Int.toNat x29) (0:Int) < (0:Int)))) (V.tmD (V.ofN (List.getD x26 (Int.toNat x29) (0:Int))) (V.ofN (List.getD x28 (Int.toNat x29) (0:Int))))) (V.plD x32 x33 (V.tmN (decide (List.getD x26 (Int.toNat x29) (0:Int) < (0:Int))) (decide (List.getD x28 (Int.toNat x29) (0:Int) < (0:Int)))) (V.tmD (V.ofN (List.getD x26 (Int.toNat x29) (0:Int))) (V.ofN (List.getD x28 (Int.toNat x29) (0:Int))))) else none else none else none else none else none else none else k1 x32 x33
noncomputable def M.rsum_l0 {α:Type} (x26:List Int) (x28:List Int) (k1:Bool → List Int → Option α):Nat → Int → Bool → List Int → Option α
 | 0,_,_,_ => none
 | n + 1,x29,x32,x33 => M.rsum_l0_step x26 x28 (M.rsum_l0 x26 x28 k1 n) k1 x29 x32 x33
theorem rsum_l0_step_eq {α:Type} (x25:Value) (x26:List Int) (x27:Value) (x28:List Int) (x29:Int) (x30:Bool) (x31:List Int) (x32:Bool) (x33:List Int) (Q:Ex → St → Option α):(loopStep E (exec E look_rootOf noLps 400) 83 [false,true,false,true,true] 0 (codeAt E.P 83 [false,true,false,true,true])) (rsum_S1 x25 x26 x27 x28 x29 x30 x31 x32 x33) Q = M.rsum_l0_step x26 x28 (fun (x36:Int) (x37:Bool) (x38:List Int) => Q .normal (rsum_S1 x25 x26 x27 x28 x36 x30 x31 x37 x38)) (fun (x34:Bool) (x35:List Int) => Q (.exit 0) (rsum_S2 x30 x31 x34 x35)) x29 x32 x33 := by kernel_rfl
theorem rsum_l0_iter {α:Type} (x25:Value) (x26:List Int) (x27:Value) (x28:List Int) (x30:Bool) (x31:List Int) (Q:Ex → St → Option α):∀ (n:Nat) (x29:Int) (x32:Bool) (x33:List Int),iter (loopStep E (exec E look_rootOf noLps 400) 83 [false,true,false,true,true] 0 (codeAt E.P 83 [false,true,false,true,true])) n (rsum_S1 x25 x26 x27 x28 x29 x30 x31 x32 x33) Q = M.rsum_l0 x26 x28 (fun (x34:Bool) (x35:List Int) => Q (.exit 0) (rsum_S2 x30 x31 x34 x35)) n x29 x32 x33
 | 0,_,_,_ => rfl
 | n + 1,x29,x32,x33 => (rsum_l0_step_eq x25 x26 x27 x28 x29 x30 x31 x32 x33 (iterK (loopStep E (exec E look_rootOf noLps 400) 83 [false,true,false,true,true] 0 (codeAt E.P 83 [false,true,false,true,true])) n Q)).trans (congrArg (fun kn => M.rsum_l0_step x26 x28 kn (fun (x34:Bool) (x35:List Int) => Q (.exit 0) (rsum_S2 x30 x31 x34 x35)) x29 x32 x33) (funext fun x29 => funext fun x32 => funext fun x33 => rsum_l0_iter x25 x26 x27 x28 x30 x31 Q n x29 x32 x33))
noncomputable def rsum_l0_go {α:Type} (ds:List D) (Q:Ex → St → Option α):Option α :=
 dV ds fun x25 ds => dL (K.int IntKind.i64) ds fun x26 ds => dV ds fun x27 ds => dL (K.int IntKind.i64) ds fun x28 ds => dI ds fun x29 ds => dB ds fun x30 ds => dL (K.int IntKind.i64) ds fun x31 ds => dB ds fun x32 ds => dL (K.int IntKind.i64) ds fun x33 ds => dE ds (M.rsum_l0 x26 x28 (fun (x34:Bool) (x35:List Int) => Q (.exit 0) (rsum_S2 x30 x31 x34 x35)) (100 + x26.length + x28.length + x31.length + x33.length) x29 x32 x33)
theorem rsum_l0_ok {α:Type}:LoopOk E.P 83 [false,true,false,true,true] 0 (lEnt (α := α) (rsum_S3) rsum_l0_go) :=
 lEnt_ok E (exec_sound E E_ok (look_rootOf_ok) (noLps_ok _) 400) fun ds Q r h S hS => by
   unfold rsum_l0_go at h
   obtain ⟨x25,ds,rfl,h1⟩ := dV_inv h
   obtain ⟨x26,ds,rfl,h2⟩ := dL_inv h1
   obtain ⟨x27,ds,rfl,h3⟩ := dV_inv h2
   obtain ⟨x28,ds,rfl,h4⟩ := dL_inv h3
   obtain ⟨x29,ds,rfl,h5⟩ := dI_inv h4
   obtain ⟨x30,ds,rfl,h6⟩ := dB_inv h5
   obtain ⟨x31,ds,rfl,h7⟩ := dL_inv h6
   obtain ⟨x32,ds,rfl,h8⟩ := dB_inv h7
   obtain ⟨x33,ds,rfl,h9⟩ := dL_inv h8
   obtain ⟨rfl,hE⟩ := dE_inv h9
   have e:fillS (rsum_S3) [.v x25,.l (K.int IntKind.i64) x26,.v x27,.l (K.int IntKind.i64) x28,.i x29,.b x30,.l (K.int IntKind.i64) x31,.b x32,.l (K.int IntKind.i64) x33] = some (rsum_S1 x25 x26 x27 x28 x29 x30 x31 x32 x33) := by kernel_rfl
   rw [e] at hS
   cases hS
   exact ⟨_,(rsum_l0_iter x25 x26 x27 x28 x30 x31 Q _ x29 x32 x33).trans hE⟩
noncomputable def rsum_l0_lps {α:Type}:LookL α := addLp 83 [false,true,false,true,true] 0 (lEnt (rsum_S3) rsum_l0_go) noLps
theorem rsum_l0_lps_ok {α:Type}:LoopsOk E.P (rsum_l0_lps (α := α)) := addLp_ok rsum_l0_ok (noLps_ok _)
noncomputable def M.rsum {α:Type} (a:List Int) (b:List Int) (k0:Bool → List Int → Option α):Option α := M.rsum_l0 a b (fun (x41:Bool) (x42:List Int) ↦ k0 x41 x42) ((100:Nat) + List.length a + List.length b + (8:Nat) + (8:Nat)) (0:Int) false (List.replicate (8:Nat) (0:Int))
theorem rsum_eq {α:Type} (a:List Int) (b:List Int) (v39:Value) (v40:Value) (Q:SV → Hp → Option α):callI E look_rootOf (exec E look_rootOf rsum_l0_lps 400) 83 ([SV.ros v39 (K.int IntKind.i64) a,SV.ros v40 (K.int IntKind.i64) b]) ([]) Q = M.rsum a b (fun (x43:Bool) (x44:List Int) => Q (SV.agg [SV.bool x43,SV.arr (K.int IntKind.i64) x44 (nat_lit 8)]) ([])) := by kernel_rfl
def rsum_sp:List AS := [.ro (.int .i64),.ro (.int .i64)]
noncomputable def smF:List Int → List Int → Bool → List Int → Bool × List Int
 | x :: a,y :: b,n,D => smF a b (V.plN n D (V.tmN (decide (x < 0)) (decide (y < 0))) (V.tmD (V.ofN x) (V.ofN y))) (V.plD n D (V.tmN (decide (x < 0)) (decide (y < 0))) (V.tmD (V.ofN x) (V.ofN y)))
 | _,_,n,D => (n,D)
theorem smF_val:∀ (a b:List Int) (n:Bool) (D:List Int) (K:Nat),V.anyG a = false → V.anyG b = false → V.ok8 D = true → val D ≤ 21267647932558653966460912964485513216 * (K:Int) → K + a.length ≤ 16 →
   V.ok8 (smF a b n D).2 = true ∧ wv (smF a b n D).1 (smF a b n D).2 = wv n D + V.dotZ a b ∧ val (smF a b n D).2 ≤ 21267647932558653966460912964485513216 * ((K + a.length:Nat):Int)
 | [],b,n,D,K,_,_,hD,hv,hK => by simp [smF,V.dotZ,hD]; exact hv
 | x :: a,[],n,D,K,_,_,hD,hv,hK => by simp [smF,V.dotZ,hD]; omega
 | x :: a,y :: b,n,D,K,ha,hb,hD,hv,hK => by
   rw [anyG_cons',Bool.or_eq_false_iff] at ha hb
   obtain ⟨p1,p2,p3,p4⟩ := ofN_prod ha.1 hb.1
   simp only [List.length_cons] at hK ⊢
   obtain ⟨q1,q2⟩ := pl_val n (V.tmN (decide (x < 0)) (decide (y < 0))) hD p2 (by omega)
   have ok := plD_ok n (V.tmN (decide (x < 0)) (decide (y < 0))) hD p2
   obtain ⟨r1,r2,r3⟩ := smF_val a b _ _ (K + 1) ha.2 hb.2 ok (by push_cast; omega) (by omega)
   rw [smF]
   refine ⟨r1,?_,?_⟩
   · rw [r2, q1, p4]
     simp only [V.dotZ,List.zipWith_cons_cons,List.sum_cons]
     omega
   · rw [show K + (a.length + 1) = K + 1 + a.length by omega]; exact r3
theorem smF_sq:∀ (a:List Int) (D:List Int),(smF a a false D).1 = false
 | [],D => rfl
 | x :: a,D => by
   rw [smF]
   have:V.plN false D (V.tmN (decide (x < 0)) (decide (x < 0))) (V.tmD (V.ofN x) (V.ofN x)) = false := by unfold V.plN V.tmN; simp
   rw [this]
   exact smF_sq a _
theorem smF_drop (a b:List Int) (i:Nat) (h1:i < a.length) (h2:i < b.length) (n:Bool) (D:List Int) :
   smF (a.drop i) (b.drop i) n D = smF (a.drop (i + 1)) (b.drop (i + 1)) (V.plN n D (V.tmN (decide (a.getD i 0 < 0)) (decide (b.getD i 0 < 0))) (V.tmD (V.ofN (a.getD i 0)) (V.ofN (b.getD i 0)))) (V.plD n D (V.tmN (decide (a.getD i 0 < 0)) (decide (b.getD i 0 < 0))) (V.tmD (V.ofN (a.getD i 0)) (V.ofN (b.getD i 0)))) := by
 rw [drop_getD h1,drop_getD h2,smF]
theorem anyG_getG {l:List Int} (h:V.anyG l = false) (i:Nat):isG (l.getD i 0) = false := by
 unfold V.anyG at h
 by_cases hi:i < l.length
 · have := List.any_eq_false.1 h (l[i]) (List.getElem_mem hi)
   simpa [List.getD_eq_getElem?_getD,hi] using this
 · have e : l.getD i 0 = 0 := by simp [List.getD_eq_getElem?_getD, hi]
   rw [e]; decide
theorem rsum_l0_val {α:Type} (a b:List Int) (hl:a.length < 9223372036854775808) (hab:a.length = b.length) (ha:V.anyG a = false) (hb:V.anyG b = false) (k1:Bool → List Int → Option α):∀ (fuel i:Nat) (n:Bool) (D:List Int),i ≤ a.length → a.length - i < fuel → V.ok8 D = true →
   M.rsum_l0 a b k1 fuel (i:Int) n D = k1 (smF (a.drop i) (b.drop i) n D).1 (smF (a.drop i) (b.drop i) n D).2
 | 0,i,n,D,h1,h2,_ => by omega
 | f + 1,i,n,D,h1,h2,hD => by
   unfold M.rsum_l0 M.rsum_l0_step
   rw [cLt_eq]
   by_cases hi:i < a.length
   · have ga := anyG_getG ha i
     have gb := anyG_getG hb i
     have ra := (isG_false _).1 ga
     have rb := (isG_false _).1 gb
     obtain ⟨p1,p2,p3,p4⟩ := ofN_prod ga gb
     have c1:(i:Int) < (a.length:Int) := by omega
     have c2:(i:Int) < (b.length:Int) := by omega
     rw [smF_drop a b i hi (by omega)]
     simp only [Int.toNat_natCast]
     have r1:(-9223372036854775808:Int) ≤ a.getD i 0 ∧ a.getD i 0 < 9223372036854775808 := by omega
     have r2:(-9223372036854775808:Int) ≤ b.getD i 0 ∧ b.getD i 0 < 9223372036854775808 := by omega
     simp only [c1,c2,r1,r2,Int.natCast_nonneg,decide_true,if_true,and_self,ofN_ok,hD,p2]
     rw [IntWalk.i64_in ((i:Int) + 1) (by omega)]
     have := rsum_l0_val a b hl hab ha hb k1 f (i + 1) (V.plN n D (V.tmN (decide (a.getD i 0 < 0)) (decide (b.getD i 0 < 0))) (V.tmD (V.ofN (a.getD i 0)) (V.ofN (b.getD i 0)))) (V.plD n D (V.tmN (decide (a.getD i 0 < 0)) (decide (b.getD i 0 < 0))) (V.tmD (V.ofN (a.getD i 0)) (V.ofN (b.getD i 0)))) (by omega) (by omega) (plD_ok n (V.tmN (decide (a.getD i 0 < 0)) (decide (b.getD i 0 < 0))) hD p2)
     push_cast at this
     exact this
   · have : i = a.length := by omega
     subst this
     simp [smF]
noncomputable def _root_.Go.Proofs.YtlagndfhibkjpaaGreat.V.smN (a b:List Int):Bool := (smF a b false (List.replicate 8 0)).1
noncomputable def _root_.Go.Proofs.YtlagndfhibkjpaaGreat.V.smD (a b:List Int):List Int := (smF a b false (List.replicate 8 0)).2
theorem rsum_v {α:Type} (a b:List Int) (hl:a.length < 9223372036854775808) (hab:a.length = b.length) (ha:V.anyG a = false) (hb:V.anyG b = false) (k0:Bool → List Int → Option α):M.rsum a b k0 = k0 (V.smN a b) (V.smD a b) := by
 unfold M.rsum V.smN V.smD
 have := rsum_l0_val a b hl hab ha hb (fun x y => k0 x y) (100 + a.length + b.length + 8 + 8) 0 false (List.replicate 8 0) (by omega) (by omega) (by decide)
 simp only [Int.natCast_zero,List.drop_zero] at this
 exact this
noncomputable def rsum_h {α:Type} (ds:List D) (Q:SV → Hp → Option α):Option α :=
 dL (K.int IntKind.i64) ds fun a ds => dL (K.int IntKind.i64) ds fun b ds => dE ds (if (a.length < 9223372036854775808 ∧ a.length = b.length) ∧ V.anyG a = false ∧ V.anyG b = false then Q (.agg [.bool (V.smN a b),.arr (.int .i64) (V.smD a b) 8]) ([]) else none)
theorem rsum_h_ok {α:Type}:FnOk E.P 83 (fEnt (α := α) rsum_sp rsum_h) :=
 fEntR_ok E (look_rootOf_ok) (exec_sound E E_ok (look_rootOf_ok) (rsum_l0_lps_ok) 400) fun ds Q r h => by
   unfold rsum_h at h
   obtain ⟨a,ds,rfl,h1⟩ := dL_inv h
   obtain ⟨b,ds,rfl,h2⟩ := dL_inv h1
   obtain ⟨rfl,hE⟩ := dE_inv h2
   split at hE
   · rename_i hg
     exact ⟨_,_,hE,fun vs => ⟨_,_,by kernel_rfl,(rsum_eq a b (vs.headD undef) (vs.tail.headD undef) _).trans (rsum_v a b hg.1.1 hg.1.2 hg.2.1 hg.2.2 _)⟩⟩
   · cases hE
noncomputable def look_rsum {α:Type}:LookF α := addFn 83 (fEnt rsum_sp rsum_h) look_rootOf
theorem look_rsum_ok {α:Type}:LookOk E.P (look_rsum (α := α)) := addFn_ok rsum_h_ok (look_rootOf_ok)
end
section
open Go
set_option maxRecDepth 20000
theorem tells_none (bad:Bool) (n:Int):V.tells_r0 bad n false = V.gv none ∧ V.tells_r1 bad n false = V.gn none bad := by
 unfold V.tells_r0 V.tells_r1 V.gv V.gn; simp
theorem tells_tl (bad:Bool) (n:Int):V.tells_r0 bad n true = V.gv (V.tl n) ∧ V.tells_r1 bad n true = V.gn (V.tl n) bad := by
 unfold V.tells_r0 V.tells_r1 V.gv V.gn V.tl
 simp only [cLt_eq]
 by_cases h1:n < -4611686018427387903
 · have : isG n = true := by rw [isG_iff]; omega
   simp [h1,this]
 · by_cases h2 : 4611686018427387903 < n
   · have : isG n = true := by rw [isG_iff]; omega
     simp [h1,h2,this]
   · have : isG n = false := by rw [isG_false]; omega
     simp [h1,h2,this]
theorem tells_o (bad:Bool) {o:Option Int} (h:∀ n,o = some n → isG n = false):V.tells_r0 bad (V.gv o) (V.sm o) = V.gv o ∧ V.tells_r1 bad (V.gv o) (V.sm o) = V.gn o bad := by
 cases o with
 | none => exact tells_none bad _
 | some n =>
   have := tells_tl bad n
   unfold V.tl at this
   rw [h n rfl] at this
   exact this
theorem tl_G {n m:Int} (h:V.tl n = some m):isG m = false := by
 unfold V.tl at h
 cases hg:isG n <;> simp_all
theorem mRt_G {x m:Int} (h:V.mRt x = some m):isG m = false := by
 unfold V.mRt at h
 split at h
 · cases h
 · cases h
   have:0 ≤ V.isq x := by
     unfold V.isq
     split
     · rename_i he; exact (Classical.choose_spec he).1
     · omega
   rw [isG_false]; omega
theorem aG2 (a b:Int):V.anyG [a,b] = (isG a || isG b) := by simp [V.anyG]
theorem aG3 (a b c:Int):V.anyG [a,b,c] = (isG a || isG b || isG c) := by simp [V.anyG,Bool.or_assoc]
noncomputable def M.radd {α:Type} (bad:Bool) (a:Int) (b:Int) (k0:Int → Bool → Option α):Option α := if V.anyG [a,b] = true then k0 (V.tells_r0 bad (0:Int) false) (V.tells_r1 bad (0:Int) false) else k0 (V.tells_r0 bad (IntKind.wrap .i64 (a + b)) true) (V.tells_r1 bad (IntKind.wrap .i64 (a + b)) true)
theorem radd_eq {α:Type} (bad:Bool) (a:Int) (b:Int) (Q:SV → Hp → Option α):callI E look_rsum (exec E look_rsum noLps 400) 87 ([SV.ptr (nat_lit 0) (nat_lit 0),SV.int .i64 a,SV.int .i64 b]) ([.cells [SV.bool bad] (nat_lit 64)]) Q = M.radd bad a b (fun (x0:Int) (x1:Bool) => Q (SV.int .i64 x0) ([.cells [SV.bool x1] (nat_lit 64)])) := by kernel_rfl
def radd_sp:List AS := [.ptr 64 [.bool false],.val (.int .i64 0),.val (.int .i64 0)]
theorem radd_v {α:Type} (bad:Bool) (a b:Int) (k0:Int → Bool → Option α):M.radd bad a b k0 = k0 (V.gv (V.mAdd a b)) (V.gn (V.mAdd a b) bad) := by
 unfold M.radd V.mAdd
 rw [aG2]
 cases h:(isG a || isG b) with
 | true => simp only [if_true]; rw [(tells_none bad 0).1,(tells_none bad 0).2]
 | false =>
   simp only [Bool.false_eq_true,if_false]
   simp only [Bool.or_eq_false_iff,isG_false] at h
   rw [IntWalk.i64_in _ (by omega),(tells_tl bad _).1,(tells_tl bad _).2]
noncomputable def radd_h {α:Type} (ds:List D) (Q:SV → Hp → Option α):Option α :=
 dB ds fun bad ds => dI ds fun a ds => dI ds fun b ds => dE ds (Q (.int .i64 (V.gv (V.mAdd a b))) ([.cells [.bool (V.gn (V.mAdd a b) bad)] 64]))
theorem radd_h_ok {α:Type}:FnOk E.P 87 (fEnt (α := α) radd_sp radd_h) :=
 fEnt_ok E (look_rsum_ok) (exec_sound E E_ok (look_rsum_ok) (noLps_ok _) 400) fun ds Q r h => by
   unfold radd_h at h
   obtain ⟨bad,ds,rfl,h1⟩ := dB_inv h
   obtain ⟨a,ds,rfl,h2⟩ := dI_inv h1
   obtain ⟨b,ds,rfl,h3⟩ := dI_inv h2
   obtain ⟨rfl,hE⟩ := dE_inv h3
   exact ⟨[SV.ptr (nat_lit 0) (nat_lit 0),SV.int .i64 a,SV.int .i64 b],[.cells [SV.bool bad] (nat_lit 64)],fun vs => by kernel_rfl,(radd_eq bad a b Q).trans ((radd_v bad a b _).trans hE)⟩
noncomputable def look_radd {α:Type}:LookF α := addFn 87 (fEnt radd_sp radd_h) look_rsum
theorem look_radd_ok {α:Type}:LookOk E.P (look_radd (α := α)) := addFn_ok radd_h_ok (look_rsum_ok)
noncomputable def M.rsub {α:Type} (bad:Bool) (a:Int) (b:Int) (k0:Int → Bool → Option α):Option α := if V.anyG [a,b] = true then k0 (V.tells_r0 bad (0:Int) false) (V.tells_r1 bad (0:Int) false) else k0 (V.tells_r0 bad (IntKind.wrap .i64 (a - b)) true) (V.tells_r1 bad (IntKind.wrap .i64 (a - b)) true)
theorem rsub_eq {α:Type} (bad:Bool) (a:Int) (b:Int) (Q:SV → Hp → Option α):callI E look_radd (exec E look_radd noLps 400) 88 ([SV.ptr (nat_lit 0) (nat_lit 0),SV.int .i64 a,SV.int .i64 b]) ([.cells [SV.bool bad] (nat_lit 64)]) Q = M.rsub bad a b (fun (x2:Int) (x3:Bool) => Q (SV.int .i64 x2) ([.cells [SV.bool x3] (nat_lit 64)])) := by kernel_rfl
def rsub_sp:List AS := [.ptr 64 [.bool false],.val (.int .i64 0),.val (.int .i64 0)]
theorem rsub_v {α:Type} (bad:Bool) (a b:Int) (k0:Int → Bool → Option α):M.rsub bad a b k0 = k0 (V.gv (V.mSub a b)) (V.gn (V.mSub a b) bad) := by
 unfold M.rsub V.mSub
 rw [aG2]
 cases h:(isG a || isG b) with
 | true => simp only [if_true]; rw [(tells_none bad 0).1,(tells_none bad 0).2]
 | false =>
   simp only [Bool.false_eq_true,if_false]
   simp only [Bool.or_eq_false_iff,isG_false] at h
   rw [IntWalk.i64_in _ (by omega),(tells_tl bad _).1,(tells_tl bad _).2]
noncomputable def rsub_h {α:Type} (ds:List D) (Q:SV → Hp → Option α):Option α :=
 dB ds fun bad ds => dI ds fun a ds => dI ds fun b ds => dE ds (Q (.int .i64 (V.gv (V.mSub a b))) ([.cells [.bool (V.gn (V.mSub a b) bad)] 64]))
theorem rsub_h_ok {α:Type}:FnOk E.P 88 (fEnt (α := α) rsub_sp rsub_h) :=
 fEnt_ok E (look_radd_ok) (exec_sound E E_ok (look_radd_ok) (noLps_ok _) 400) fun ds Q r h => by
   unfold rsub_h at h
   obtain ⟨bad,ds,rfl,h1⟩ := dB_inv h
   obtain ⟨a,ds,rfl,h2⟩ := dI_inv h1
   obtain ⟨b,ds,rfl,h3⟩ := dI_inv h2
   obtain ⟨rfl,hE⟩ := dE_inv h3
   exact ⟨[SV.ptr (nat_lit 0) (nat_lit 0),SV.int .i64 a,SV.int .i64 b],[.cells [SV.bool bad] (nat_lit 64)],fun vs => by kernel_rfl,(rsub_eq bad a b Q).trans ((rsub_v bad a b _).trans hE)⟩
noncomputable def look_rsub {α:Type}:LookF α := addFn 88 (fEnt rsub_sp rsub_h) look_radd
theorem look_rsub_ok {α:Type}:LookOk E.P (look_rsub (α := α)) := addFn_ok rsub_h_ok (look_radd_ok)
noncomputable def M.rratio {α:Type} (bad:Bool) (a:Int) (b:Int) (c:Int) (k0:Int → Bool → Option α):Option α := if V.anyG [a,b,c] = true then k0 (V.tells_r0 bad (0:Int) false) (V.tells_r1 bad (0:Int) false) else if cEq c (0:Int) = true then k0 (V.tells_r0 bad (0:Int) false) (V.tells_r1 bad (0:Int) false) else if (-9223372036854775808:Int) ≤ a ∧ a < (9223372036854775808:Int) then if (-9223372036854775808:Int) ≤ b ∧ b < (9223372036854775808:Int) then if V.ok8 (V.ofN a) = true ∧ V.ok8 (V.ofN b) = true then if V.ok8 (V.tmD (V.ofN a) (V.ofN b)) = true ∧ ¬c = (0:Int) ∧ (-4611686018427387903:Int) ≤ c ∧ c ≤ (4611686018427387903:Int) then k0 (V.tells_r0 bad (V.gv (V.dn (V.tmN (decide (a < (0:Int))) (decide (b < (0:Int)))) (V.tmD (V.ofN a) (V.ofN b)) c)) (V.sm (V.dn (V.tmN (decide (a < (0:Int))) (decide (b < (0:Int)))) (V.tmD (V.ofN a) (V.ofN b)) c))) (V.tells_r1 bad (V.gv (V.dn (V.tmN (decide (a < (0:Int))) (decide (b < (0:Int)))) (V.tmD (V.ofN a) (V.ofN b)) c)) (V.sm (V.dn (V.tmN (decide (a < (0:Int))) (decide (b < (0:Int)))) (V.tmD (V.ofN a) (V.ofN b)) c))) else none else none else none else none
theorem rratio_eq {α:Type} (bad:Bool) (a:Int) (b:Int) (c:Int) (Q:SV → Hp → Option α):callI E look_rsub (exec E look_rsub noLps 400) 84 ([SV.ptr (nat_lit 0) (nat_lit 0),SV.int .i64 a,SV.int .i64 b,SV.int .i64 c]) ([.cells [SV.bool bad] (nat_lit 64)]) Q = M.rratio bad a b c (fun (x4:Int) (x5:Bool) => Q (SV.int .i64 x4) ([.cells [SV.bool x5] (nat_lit 64)])) := by kernel_rfl
def rratio_sp:List AS := [.ptr 64 [.bool false],.val (.int .i64 0),.val (.int .i64 0),.val (.int .i64 0)]
def _root_.Go.Proofs.YtlagndfhibkjpaaGreat.V.rRatio (a b c:Int):Option Int := if c == 0 || isG a || isG b || isG c then none else V.tl (Int.fdiv (a * b) c)
theorem rratio_v {α:Type} (bad:Bool) (a b c:Int) (k0:Int → Bool → Option α):M.rratio bad a b c k0 = k0 (V.gv (V.rRatio a b c)) (V.gn (V.rRatio a b c) bad) := by
 unfold M.rratio V.rRatio
 rw [aG3,cEq_eq]
 cases hG:(isG a || isG b || isG c) with
 | true =>
   have:(c == 0 || isG a || isG b || isG c) = true := by rw [Bool.or_assoc (c == 0),Bool.or_assoc (c == 0),hG,Bool.or_true]
   rw [this]
   simp only [if_true]
   rw [(tells_none bad 0).1,(tells_none bad 0).2]
 | false =>
   have h2:(c == 0 || isG a || isG b || isG c) = (c == 0) := by rw [Bool.or_assoc (c == 0),Bool.or_assoc (c == 0),hG,Bool.or_false]
   rw [h2]
   simp only [Bool.or_eq_false_iff] at hG
   obtain ⟨⟨ga,gb⟩,gc⟩ := hG
   cases h0:(c == 0) with
   | true =>
     simp only [if_true,Bool.false_eq_true,if_false]
     rw [(tells_none bad 0).1,(tells_none bad 0).2]
   | false =>
     simp only [Bool.false_eq_true,if_false]
     have hc0:¬ c = 0 := by simpa using h0
     obtain ⟨p1,p2,p3,p4⟩ := ofN_prod ga gb
     have ra := (isG_false a).1 ga
     have rb := (isG_false b).1 gb
     have rc := (isG_false c).1 gc
     rw [if_pos (by omega),if_pos (by omega),if_pos ⟨ofN_ok a,ofN_ok b⟩,if_pos ⟨p2,hc0,rc.1,rc.2⟩]
     unfold V.dn
     rw [p4]
     obtain ⟨t1,t2⟩ := tells_o bad (o := V.tl (Int.fdiv (a * b) c)) (fun n h => tl_G h)
     rw [t1,t2]
noncomputable def rratio_h {α:Type} (ds:List D) (Q:SV → Hp → Option α):Option α :=
 dB ds fun bad ds => dI ds fun a ds => dI ds fun b ds => dI ds fun c ds => dE ds (Q (.int .i64 (V.gv (V.rRatio a b c))) ([.cells [.bool (V.gn (V.rRatio a b c) bad)] 64]))
theorem rratio_h_ok {α:Type}:FnOk E.P 84 (fEnt (α := α) rratio_sp rratio_h) :=
 fEnt_ok E (look_rsub_ok) (exec_sound E E_ok (look_rsub_ok) (noLps_ok _) 400) fun ds Q r h => by
   unfold rratio_h at h
   obtain ⟨bad,ds,rfl,h1⟩ := dB_inv h
   obtain ⟨a,ds,rfl,h2⟩ := dI_inv h1
   obtain ⟨b,ds,rfl,h3⟩ := dI_inv h2
   obtain ⟨c,ds,rfl,h4⟩ := dI_inv h3
   obtain ⟨rfl,hE⟩ := dE_inv h4
   exact ⟨[SV.ptr (nat_lit 0) (nat_lit 0),SV.int .i64 a,SV.int .i64 b,SV.int .i64 c],[.cells [SV.bool bad] (nat_lit 64)],fun vs => by kernel_rfl,(rratio_eq bad a b c Q).trans ((rratio_v bad a b c _).trans hE)⟩
noncomputable def look_rratio {α:Type}:LookF α := addFn 84 (fEnt rratio_sp rratio_h) look_rsub
theorem look_rratio_ok {α:Type}:LookOk E.P (look_rratio (α := α)) := addFn_ok rratio_h_ok (look_rsub_ok)
noncomputable def M.rdiv {α:Type} (bad:Bool) (a:Int) (b:Int) (k0:Int → Bool → Option α):Option α := k0 (V.gv (V.rRatio a (4294967296:Int) b)) (V.gn (V.rRatio a (4294967296:Int) b) bad)
theorem rdiv_eq {α:Type} (bad:Bool) (a:Int) (b:Int) (Q:SV → Hp → Option α):callI E look_rratio (exec E look_rratio noLps 400) 50 ([SV.ptr (nat_lit 0) (nat_lit 0),SV.int .i64 a,SV.int .i64 b]) ([.cells [SV.bool bad] (nat_lit 64)]) Q = M.rdiv bad a b (fun (x6:Int) (x7:Bool) => Q (SV.int .i64 x6) ([.cells [SV.bool x7] (nat_lit 64)])) := by kernel_rfl
def rdiv_sp:List AS := [.ptr 64 [.bool false],.val (.int .i64 0),.val (.int .i64 0)]
noncomputable def _root_.Go.Proofs.YtlagndfhibkjpaaGreat.V.rdiv_r0 (bad:Bool) (a:Int) (b:Int):Int := V.gv (V.rRatio a (4294967296:Int) b)
noncomputable def _root_.Go.Proofs.YtlagndfhibkjpaaGreat.V.rdiv_r1 (bad:Bool) (a:Int) (b:Int):Bool := V.gn (V.rRatio a (4294967296:Int) b) bad
theorem rdiv_val {α:Type} (bad:Bool) (a:Int) (b:Int) (k0:Int → Bool → Option α):M.rdiv bad a b k0 = k0 (V.rdiv_r0 bad a b) (V.rdiv_r1 bad a b) := by
 unfold M.rdiv V.rdiv_r0 V.rdiv_r1
 repeat' first | rfl | (split <;> rename_i h <;> first | simp only [if_pos h] | simp only [if_neg h] | skip)
noncomputable def rdiv_c {α:Type} (ds:List D) (Q:SV → Hp → Option α):Option α :=
 dB ds fun bad ds => dI ds fun a ds => dI ds fun b ds => dE ds (Q (SV.int .i64 (V.rdiv_r0 bad a b)) ([.cells [SV.bool (V.rdiv_r1 bad a b)] (nat_lit 64)]))
theorem rdiv_c_ok {α:Type}:FnOk E.P 50 (fEnt (α := α) rdiv_sp rdiv_c) :=
 fEnt_ok E (look_rratio_ok) (exec_sound E E_ok (look_rratio_ok) (noLps_ok _) 400) fun ds Q r h => by
   unfold rdiv_c at h
   obtain ⟨bad,ds,rfl,h1⟩ := dB_inv h
   obtain ⟨a,ds,rfl,h2⟩ := dI_inv h1
   obtain ⟨b,ds,rfl,h3⟩ := dI_inv h2
   obtain ⟨rfl,hE⟩ := dE_inv h3
   exact ⟨[SV.ptr (nat_lit 0) (nat_lit 0),SV.int .i64 a,SV.int .i64 b],[.cells [SV.bool bad] (nat_lit 64)],fun vs => by kernel_rfl,(rdiv_eq bad a b Q).trans ((rdiv_val bad a b (fun (x6:Int) (x7:Bool) => Q (SV.int .i64 x6) ([.cells [SV.bool x7] (nat_lit 64)]))).trans hE)⟩
noncomputable def look_rdiv {α:Type}:LookF α := addFn 50 (fEnt rdiv_sp rdiv_c) look_rratio
theorem look_rdiv_ok {α:Type}:LookOk E.P (look_rdiv (α := α)) := addFn_ok rdiv_c_ok (look_rratio_ok)
end
section
open Go
set_option maxRecDepth 20000
noncomputable def M.rdot {α:Type} (bad:Bool) (a:List Int) (b:List Int) (k0:Int → Bool → Option α):Option α := if (!cEq (↑(List.length a):Int) (↑(List.length b):Int)) = true then k0 (V.tells_r0 bad (0:Int) false) (V.tells_r1 bad (0:Int) false) else if cLt (8:Int) (↑(List.length a):Int) = true then k0 (V.tells_r0 bad (0:Int) false) (V.tells_r1 bad (0:Int) false) else if List.length a < (9223372036854775808:Nat) then if List.length b < (9223372036854775808:Nat) then if V.anyG a = true then k0 (V.tells_r0 bad (0:Int) false) (V.tells_r1 bad (0:Int) false) else if V.anyG b = true then k0 (V.tells_r0 bad (0:Int) false) (V.tells_r1 bad (0:Int) false) else if (List.length a < (9223372036854775808:Nat) ∧ List.length a = List.length b) ∧ V.anyG a = false ∧ V.anyG b = false then if V.ok8 (V.smD a b) = true ∧ ¬(4294967296:Int) = (0:Int) ∧ (-4611686018427387903:Int) ≤ (4294967296:Int) ∧ (4294967296:Int) ≤ (4611686018427387903:Int) then k0 (V.tells_r0 bad (V.gv (V.dn (V.smN a b) (V.smD a b) (4294967296:Int))) (V.sm (V.dn (V.smN a b) (V.smD a b) (4294967296:Int)))) (V.tells_r1 bad (V.gv (V.dn (V.smN a b) (V.smD a b) (4294967296:Int))) (V.sm (V.dn (V.smN a b) (V.smD a b) (4294967296:Int)))) else none else none else none else none
theorem rdot_eq {α:Type} (bad:Bool) (a:List Int) (b:List Int) (v0:Value) (v1:Value) (Q:SV → Hp → Option α):callI E look_rdiv (exec E look_rdiv noLps 400) 89 ([SV.ptr (nat_lit 0) (nat_lit 0),SV.ros v0 (K.int IntKind.i64) a,SV.ros v1 (K.int IntKind.i64) b]) ([.cells [SV.bool bad] (nat_lit 64)]) Q = M.rdot bad a b (fun (x2:Int) (x3:Bool) => Q (SV.int .i64 x2) ([.cells [SV.bool x3] (nat_lit 64)])) := by kernel_rfl
def rdot_sp:List AS := [.ptr 64 [.bool false],.ro (.int .i64),.ro (.int .i64)]
theorem sm_facts {a b:List Int} (hl:a.length ≤ 8) (ha:V.anyG a = false) (hb:V.anyG b = false):V.ok8 (V.smD a b) = true ∧ wv (V.smN a b) (V.smD a b) = V.dotZ a b ∧ val (V.smD a b) ≤ 170141183460469231731687303715884105728 := by
 obtain ⟨h1,h2,h3⟩ := smF_val a b false (List.replicate 8 0) 0 ha hb (by decide) (by decide) (by omega)
 refine ⟨h1,?_,?_⟩
 · unfold V.smN V.smD
   rw [h2]
   have:wv false (List.replicate 8 (0:Int)) = 0 := by decide
   omega
 · unfold V.smD
   omega
theorem rdot_v {α:Type} (bad:Bool) (a b:List Int) (k0:Int → Bool → Option α):M.rdot bad a b k0 = k0 (V.gv (V.mDot a b)) (V.gn (V.mDot a b) bad) := by
 unfold M.rdot V.mDot
 rw [cEq_eq,cLt_eq]
 have none1 := (tells_none bad 0).1
 have none2 := (tells_none bad 0).2
 by_cases h1:a.length = b.length
 · have e1 : ((a.length : Int) == (b.length : Int)) = true := by simp [h1]
   have e2:(a.length != b.length) = false := by simp [h1]
   rw [e1,e2]
   by_cases h2:8 < a.length
   · have : (8 : Int) < (a.length : Int) := by omega
     simp only [h2,this,decide_true,if_true,Bool.not_true,Bool.false_eq_true,if_false,Bool.false_or,Bool.true_or,none1,none2]
   · have : ¬ (8 : Int) < (a.length : Int) := by omega
     have l1:a.length < 9223372036854775808 := by omega
     have l2:b.length < 9223372036854775808 := by omega
     simp only [this,h2,l1,l2,if_true,decide_false,Bool.not_true,Bool.false_or,Bool.false_eq_true,if_false]
     cases ga:V.anyG a with
     | true => simp only [if_true,Bool.true_or,none1,none2]
     | false => cases gb:V.anyG b with
       | true => simp only [if_true,Bool.or_true,Bool.false_eq_true,if_false,none1,none2]
       | false =>
         obtain ⟨s1,s2,s3⟩ := sm_facts (by omega) ga gb
         simp only [Bool.false_eq_true,if_false,Bool.or_self]
         rw [if_pos ⟨⟨trivial,h1⟩,trivial,trivial⟩,if_pos ⟨s1,by decide,by decide,by decide⟩]
         unfold V.dn
         rw [s2,fdiv_pos _ _ (by decide)]
         obtain ⟨t1,t2⟩ := tells_o bad (o := V.tl (V.dotZ a b / 4294967296)) (fun n h => tl_G h)
         rw [t1,t2]
 · have e1 : ((a.length : Int) == (b.length : Int)) = false := by
     simp only [beq_eq_false_iff_ne,ne_eq]; omega
   have e2:(a.length != b.length) = true := by simp [h1]
   rw [e1,e2]
   simp only [Bool.not_false,if_true,Bool.true_or,none1,none2]
noncomputable def rdot_h {α:Type} (ds:List D) (Q:SV → Hp → Option α):Option α :=
 dB ds fun bad ds => dL (K.int IntKind.i64) ds fun a ds => dL (K.int IntKind.i64) ds fun b ds => dE ds (Q (.int .i64 (V.gv (V.mDot a b))) ([.cells [.bool (V.gn (V.mDot a b) bad)] 64]))
theorem rdot_h_ok {α:Type}:FnOk E.P 89 (fEnt (α := α) rdot_sp rdot_h) :=
 fEntR_ok E (look_rdiv_ok) (exec_sound E E_ok (look_rdiv_ok) (noLps_ok _) 400) fun ds Q r h => by
   unfold rdot_h at h
   obtain ⟨bad,ds,rfl,h1⟩ := dB_inv h
   obtain ⟨a,ds,rfl,h2⟩ := dL_inv h1
   obtain ⟨b,ds,rfl,h3⟩ := dL_inv h2
   obtain ⟨rfl,hE⟩ := dE_inv h3
   exact ⟨_,_,hE,fun vs => ⟨_,_,by kernel_rfl,(rdot_eq bad a b (vs.tail.headD undef) (vs.tail.tail.headD undef) _).trans (rdot_v bad a b _)⟩⟩
noncomputable def look_rdot {α:Type}:LookF α := addFn 89 (fEnt rdot_sp rdot_h) look_rdiv
theorem look_rdot_ok {α:Type}:LookOk E.P (look_rdot (α := α)) := addFn_ok rdot_h_ok (look_rdiv_ok)
noncomputable def M.rnorm {α:Type} (bad:Bool) (l:List Int) (k0:Int → Bool → Option α):Option α := if cLt (8:Int) (↑(List.length l):Int) = true then k0 (V.tells_r0 bad (0:Int) false) (V.tells_r1 bad (0:Int) false) else if List.length l < (9223372036854775808:Nat) then if V.anyG l = true then k0 (V.tells_r0 bad (0:Int) false) (V.tells_r1 bad (0:Int) false) else if (List.length l < (9223372036854775808:Nat) ∧ List.length l = List.length l) ∧ V.anyG l = false ∧ V.anyG l = false then if V.smN l l = false ∧ V.ok8 (V.smD l l) = true ∧ V.vl (V.smD l l) < (1569275433846670190958947355801916604025588861116008628224:Int) then k0 (V.tells_r0 bad (V.gv (V.mRt (V.vl (V.smD l l)))) (V.sm (V.mRt (V.vl (V.smD l l))))) (V.tells_r1 bad (V.gv (V.mRt (V.vl (V.smD l l)))) (V.sm (V.mRt (V.vl (V.smD l l))))) else none else none else none
theorem rnorm_eq {α:Type} (bad:Bool) (l:List Int) (v4:Value) (Q:SV → Hp → Option α):callI E look_rdot (exec E look_rdot noLps 400) 49 ([SV.ptr (nat_lit 0) (nat_lit 0),SV.ros v4 (K.int IntKind.i64) l]) ([.cells [SV.bool bad] (nat_lit 64)]) Q = M.rnorm bad l (fun (x5:Int) (x6:Bool) => Q (SV.int .i64 x5) ([.cells [SV.bool x6] (nat_lit 64)])) := by kernel_rfl
def rnorm_sp:List AS := [.ptr 64 [.bool false],.ro (.int .i64)]
theorem rnorm_v {α:Type} (bad:Bool) (l:List Int) (k0:Int → Bool → Option α):M.rnorm bad l k0 = k0 (V.gv (V.mNorm l)) (V.gn (V.mNorm l) bad) := by
 unfold M.rnorm V.mNorm
 rw [cLt_eq]
 have none1 := (tells_none bad 0).1
 have none2 := (tells_none bad 0).2
 by_cases h2:8 < l.length
 · have : (8 : Int) < (l.length : Int) := by omega
   simp only [h2,this,decide_true,if_true,Bool.true_or,none1,none2]
 · have : ¬ (8 : Int) < (l.length : Int) := by omega
   have l1:l.length < 9223372036854775808 := by omega
   simp only [this,h2,l1,if_true,decide_false,Bool.false_or,Bool.false_eq_true,if_false]
   cases ga:V.anyG l with
   | true => simp only [if_true,none1,none2]
   | false =>
     obtain ⟨s1,s2,s3⟩ := sm_facts (a := l) (b := l) (by omega) ga ga
     have hN:V.smN l l = false := smF_sq l _
     have hv:V.vl (V.smD l l) = V.dotZ l l := by
       rw [hN] at s2
       unfold wv at s2
       simpa [V.vl] using s2
     have s3':V.vl (V.smD l l) ≤ 170141183460469231731687303715884105728 := s3
     simp only [Bool.false_eq_true,if_false,and_self,if_true]
     rw [if_pos ⟨hN,s1,by omega⟩,hv]
     obtain ⟨t1,t2⟩ := tells_o bad (o := V.mRt (V.dotZ l l)) (fun n h => mRt_G h)
     rw [t1,t2]
noncomputable def rnorm_h {α:Type} (ds:List D) (Q:SV → Hp → Option α):Option α :=
 dB ds fun bad ds => dL (K.int IntKind.i64) ds fun l ds => dE ds (Q (.int .i64 (V.gv (V.mNorm l))) ([.cells [.bool (V.gn (V.mNorm l) bad)] 64]))
theorem rnorm_h_ok {α:Type}:FnOk E.P 49 (fEnt (α := α) rnorm_sp rnorm_h) :=
 fEntR_ok E (look_rdot_ok) (exec_sound E E_ok (look_rdot_ok) (noLps_ok _) 400) fun ds Q r h => by
   unfold rnorm_h at h
   obtain ⟨bad,ds,rfl,h1⟩ := dB_inv h
   obtain ⟨l,ds,rfl,h2⟩ := dL_inv h1
   obtain ⟨rfl,hE⟩ := dE_inv h2
   exact ⟨_,_,hE,fun vs => ⟨_,_,by kernel_rfl,(rnorm_eq bad l (vs.tail.headD undef) _).trans (rnorm_v bad l _)⟩⟩
noncomputable def look_rnorm {α:Type}:LookF α := addFn 49 (fEnt rnorm_sp rnorm_h) look_rdot
theorem look_rnorm_ok {α:Type}:LookOk E.P (look_rnorm (α := α)) := addFn_ok rnorm_h_ok (look_rdot_ok)
end
section
open Go
set_option maxRecDepth 20000
theorem mDiv_rR (a b:Int):V.mDiv a b = V.rRatio a 4294967296 b := by
 rw [mDivF]
 unfold V.rRatio
 have e1:isG 4294967296 = false := by decide
 rw [e1,Bool.or_false]
noncomputable def M.rdiv2 {α:Type} (bad:Bool) (a:Int) (b:Int) (k0:Int → Bool → Option α):Option α := k0 (V.rdiv_r0 bad a b) (V.rdiv_r1 bad a b)
theorem rdiv2_eq {α:Type} (bad:Bool) (a:Int) (b:Int) (Q:SV → Hp → Option α):callI E look_rnorm (exec E look_rnorm noLps 400) 50 ([SV.ptr (nat_lit 0) (nat_lit 0),SV.int .i64 a,SV.int .i64 b]) ([.cells [SV.bool bad] (nat_lit 64)]) Q = M.rdiv2 bad a b (fun (x0:Int) (x1:Bool) => Q (SV.int .i64 x0) ([.cells [SV.bool x1] (nat_lit 64)])) := by kernel_rfl
def rdiv2_sp:List AS := [.ptr 64 [.bool false],.val (.int .i64 0),.val (.int .i64 0)]
theorem rdiv2_v {α:Type} (bad:Bool) (a b:Int) (k0:Int → Bool → Option α):M.rdiv2 bad a b k0 = k0 (V.gv (V.mDiv a b)) (V.gn (V.mDiv a b) bad) := by
 rw [mDiv_rR]; rfl
noncomputable def rdiv2_h {α:Type} (ds:List D) (Q:SV → Hp → Option α):Option α :=
 dB ds fun bad ds => dI ds fun a ds => dI ds fun b ds => dE ds (Q (.int .i64 (V.gv (V.mDiv a b))) ([.cells [.bool (V.gn (V.mDiv a b) bad)] 64]))
theorem rdiv2_h_ok {α:Type}:FnOk E.P 50 (fEnt (α := α) rdiv2_sp rdiv2_h) :=
 fEnt_ok E (look_rnorm_ok) (exec_sound E E_ok (look_rnorm_ok) (noLps_ok _) 400) fun ds Q r h => by
   unfold rdiv2_h at h
   obtain ⟨bad,ds,rfl,h1⟩ := dB_inv h
   obtain ⟨a,ds,rfl,h2⟩ := dI_inv h1
   obtain ⟨b,ds,rfl,h3⟩ := dI_inv h2
   obtain ⟨rfl,hE⟩ := dE_inv h3
   exact ⟨[SV.ptr (nat_lit 0) (nat_lit 0),SV.int .i64 a,SV.int .i64 b],[.cells [SV.bool bad] (nat_lit 64)],fun vs => by kernel_rfl,(rdiv2_eq bad a b Q).trans ((rdiv2_v bad a b _).trans hE)⟩
noncomputable def look_rdiv2 {α:Type}:LookF α := addFn 50 (fEnt rdiv2_sp rdiv2_h) look_rnorm
theorem look_rdiv2_ok {α:Type}:LookOk E.P (look_rdiv2 (α := α)) := addFn_ok rdiv2_h_ok (look_rnorm_ok)
end
section
open Go
set_option maxRecDepth 20000
noncomputable def M.dvadd {α:Type} (bad:Bool) (ax:Int) (ay:Int) (az:Int) (bx:Int) (b_y:Int) (bz:Int) (k0:Int → Int → Int → Bool → Option α):Option α := if bad = true then if (!!V.gn (V.mAdd az bz) (V.gn (V.mAdd ay b_y) (V.gn (V.mAdd ax bx) false))) = true then k0 (0:Int) (0:Int) (0:Int) true else k0 (V.gv (V.mAdd ax bx)) (V.gv (V.mAdd ay b_y)) (V.gv (V.mAdd az bz)) true else if (!!V.gn (V.mAdd az bz) (V.gn (V.mAdd ay b_y) (V.gn (V.mAdd ax bx) false))) = true then k0 (0:Int) (0:Int) (0:Int) (V.gn (V.mAdd az bz) (V.gn (V.mAdd ay b_y) (V.gn (V.mAdd ax bx) false))) else k0 (V.gv (V.mAdd ax bx)) (V.gv (V.mAdd ay b_y)) (V.gv (V.mAdd az bz)) (V.gn (V.mAdd az bz) (V.gn (V.mAdd ay b_y) (V.gn (V.mAdd ax bx) false)))
theorem dvadd_eq {α:Type} (bad:Bool) (ax:Int) (ay:Int) (az:Int) (bx:Int) (b_y:Int) (bz:Int) (Q:SV → Hp → Option α):callI E look_rdiv2 (exec E look_rdiv2 noLps 400) 56 ([SV.ptr (nat_lit 0) (nat_lit 0),SV.agg [SV.int .i64 ax,SV.int .i64 ay,SV.int .i64 az],SV.agg [SV.int .i64 bx,SV.int .i64 b_y,SV.int .i64 bz]]) ([.cells [SV.bool bad] (nat_lit 64)]) Q = M.dvadd bad ax ay az bx b_y bz (fun (x0 x1 x2:Int) (x3:Bool) => Q (SV.agg [SV.int .i64 x0,SV.int .i64 x1,SV.int .i64 x2]) ([.cells [SV.bool x3] (nat_lit 64)])) := by kernel_rfl
def dvadd_sp:List AS := [.ptr 64 [.bool false],.val (.agg [.int .i64 0,.int .i64 0,.int .i64 0]),.val (.agg [.int .i64 0,.int .i64 0,.int .i64 0])]
theorem dvadd_v {α:Type} (bad:Bool) (ax:Int) (ay:Int) (az:Int) (bx:Int) (b_y:Int) (bz:Int) (k0:Int → Int → Int → Bool → Option α):M.dvadd bad ax ay az bx b_y bz k0 = k0 (V.x3 (V.tAdd (ax,ay,az) (bx,b_y,bz))) (V.y3 (V.tAdd (ax,ay,az) (bx,b_y,bz))) (V.z3 (V.tAdd (ax,ay,az) (bx,b_y,bz))) (V.on (V.tAdd (ax,ay,az) (bx,b_y,bz)) bad) := by
 unfold M.dvadd V.tAdd V.t3
 generalize V.mAdd ax bx = o0
 generalize V.mAdd ay b_y = o1
 generalize V.mAdd az bz = o2
 cases bad <;> cases o0 <;> cases o1 <;> cases o2 <;> rfl
noncomputable def dvadd_h {α:Type} (ds:List D) (Q:SV → Hp → Option α):Option α :=
 dB ds fun bad ds => dI ds fun ax ds => dI ds fun ay ds => dI ds fun az ds => dI ds fun bx ds => dI ds fun b_y ds => dI ds fun bz ds => dE ds (Q (.agg [.int .i64 (V.x3 (V.tAdd (ax,ay,az) (bx,b_y,bz))),.int .i64 (V.y3 (V.tAdd (ax,ay,az) (bx,b_y,bz))),.int .i64 (V.z3 (V.tAdd (ax,ay,az) (bx,b_y,bz)))]) ([.cells [.bool (V.on (V.tAdd (ax,ay,az) (bx,b_y,bz)) bad)] 64]))
theorem dvadd_h_ok {α:Type}:FnOk E.P 56 (fEnt (α := α) dvadd_sp dvadd_h) :=
 fEnt_ok E (look_rdiv2_ok) (exec_sound E E_ok (look_rdiv2_ok) (noLps_ok _) 400) fun ds Q r h => by
   unfold dvadd_h at h
   obtain ⟨bad,ds,rfl,h1⟩ := dB_inv h
   obtain ⟨ax,ds,rfl,h2⟩ := dI_inv h1
   obtain ⟨ay,ds,rfl,h3⟩ := dI_inv h2
   obtain ⟨az,ds,rfl,h4⟩ := dI_inv h3
   obtain ⟨bx,ds,rfl,h5⟩ := dI_inv h4
   obtain ⟨b_y,ds,rfl,h6⟩ := dI_inv h5
   obtain ⟨bz,ds,rfl,h7⟩ := dI_inv h6
   obtain ⟨rfl,hE⟩ := dE_inv h7
   exact ⟨[SV.ptr (nat_lit 0) (nat_lit 0),SV.agg [SV.int .i64 ax,SV.int .i64 ay,SV.int .i64 az],SV.agg [SV.int .i64 bx,SV.int .i64 b_y,SV.int .i64 bz]],[.cells [SV.bool bad] (nat_lit 64)],fun vs => by kernel_rfl,(dvadd_eq bad ax ay az bx b_y bz Q).trans ((dvadd_v bad ax ay az bx b_y bz _).trans hE)⟩
noncomputable def look_dvadd {α:Type}:LookF α := addFn 56 (fEnt dvadd_sp dvadd_h) look_rdiv2
theorem look_dvadd_ok {α:Type}:LookOk E.P (look_dvadd (α := α)) := addFn_ok dvadd_h_ok (look_rdiv2_ok)
noncomputable def M.dvdot {α:Type} (bad:Bool) (ax:Int) (ay:Int) (az:Int) (bx:Int) (b_y:Int) (bz:Int) (k0:Int → Bool → Option α):Option α := if bad = true then k0 (V.gv (V.mDot [ax,ay,az] [bx,b_y,bz])) true else k0 (V.gv (V.mDot [ax,ay,az] [bx,b_y,bz])) (V.gn (V.mDot [ax,ay,az] [bx,b_y,bz]) false)
theorem dvdot_eq {α:Type} (bad:Bool) (ax:Int) (ay:Int) (az:Int) (bx:Int) (b_y:Int) (bz:Int) (Q:SV → Hp → Option α):callI E look_dvadd (exec E look_dvadd noLps 400) 90 ([SV.ptr (nat_lit 0) (nat_lit 0),SV.agg [SV.int .i64 ax,SV.int .i64 ay,SV.int .i64 az],SV.agg [SV.int .i64 bx,SV.int .i64 b_y,SV.int .i64 bz]]) ([.cells [SV.bool bad] (nat_lit 64)]) Q = M.dvdot bad ax ay az bx b_y bz (fun (x4:Int) (x5:Bool) => Q (SV.int .i64 x4) ([.cells [SV.bool x5] (nat_lit 64)])) := by kernel_rfl
def dvdot_sp:List AS := [.ptr 64 [.bool false],.val (.agg [.int .i64 0,.int .i64 0,.int .i64 0]),.val (.agg [.int .i64 0,.int .i64 0,.int .i64 0])]
theorem dvdot_v {α:Type} (bad:Bool) (ax:Int) (ay:Int) (az:Int) (bx:Int) (b_y:Int) (bz:Int) (k0:Int → Bool → Option α):M.dvdot bad ax ay az bx b_y bz k0 = k0 (V.gv (V.tDot (ax,ay,az) (bx,b_y,bz))) (V.gn (V.tDot (ax,ay,az) (bx,b_y,bz)) bad) := by
 unfold M.dvdot V.tDot
 generalize V.mDot [ax,ay,az] [bx,b_y,bz] = o0
 cases bad <;> cases o0 <;> rfl
noncomputable def dvdot_h {α:Type} (ds:List D) (Q:SV → Hp → Option α):Option α :=
 dB ds fun bad ds => dI ds fun ax ds => dI ds fun ay ds => dI ds fun az ds => dI ds fun bx ds => dI ds fun b_y ds => dI ds fun bz ds => dE ds (Q (.int .i64 (V.gv (V.tDot (ax,ay,az) (bx,b_y,bz)))) ([.cells [.bool (V.gn (V.tDot (ax,ay,az) (bx,b_y,bz)) bad)] 64]))
theorem dvdot_h_ok {α:Type}:FnOk E.P 90 (fEnt (α := α) dvdot_sp dvdot_h) :=
 fEnt_ok E (look_dvadd_ok) (exec_sound E E_ok (look_dvadd_ok) (noLps_ok _) 400) fun ds Q r h => by
   unfold dvdot_h at h
   obtain ⟨bad,ds,rfl,h1⟩ := dB_inv h
   obtain ⟨ax,ds,rfl,h2⟩ := dI_inv h1
   obtain ⟨ay,ds,rfl,h3⟩ := dI_inv h2
   obtain ⟨az,ds,rfl,h4⟩ := dI_inv h3
   obtain ⟨bx,ds,rfl,h5⟩ := dI_inv h4
   obtain ⟨b_y,ds,rfl,h6⟩ := dI_inv h5
   obtain ⟨bz,ds,rfl,h7⟩ := dI_inv h6
   obtain ⟨rfl,hE⟩ := dE_inv h7
   exact ⟨[SV.ptr (nat_lit 0) (nat_lit 0),SV.agg [SV.int .i64 ax,SV.int .i64 ay,SV.int .i64 az],SV.agg [SV.int .i64 bx,SV.int .i64 b_y,SV.int .i64 bz]],[.cells [SV.bool bad] (nat_lit 64)],fun vs => by kernel_rfl,(dvdot_eq bad ax ay az bx b_y bz Q).trans ((dvdot_v bad ax ay az bx b_y bz _).trans hE)⟩
noncomputable def look_dvdot {α:Type}:LookF α := addFn 90 (fEnt dvdot_sp dvdot_h) look_dvadd
theorem look_dvdot_ok {α:Type}:LookOk E.P (look_dvdot (α := α)) := addFn_ok dvdot_h_ok (look_dvadd_ok)
noncomputable def M.dvturn {α:Type} (bad:Bool) (m0:Int) (m1:Int) (m2:Int) (m3:Int) (m4:Int) (m5:Int) (m6:Int) (m7:Int) (m8:Int) (ax:Int) (ay:Int) (az:Int) (k0:Int → Int → Int → Bool → Option α):Option α := if bad = true then if (!!V.gn (V.tDot (m6,m7,m8) (ax,ay,az)) (V.gn (V.tDot (m3,m4,m5) (ax,ay,az)) (V.gn (V.tDot (m0,m1,m2) (ax,ay,az)) false))) = true then k0 (0:Int) (0:Int) (0:Int) true else k0 (V.gv (V.tDot (m0,m1,m2) (ax,ay,az))) (V.gv (V.tDot (m3,m4,m5) (ax,ay,az))) (V.gv (V.tDot (m6,m7,m8) (ax,ay,az))) true else if (!!V.gn (V.tDot (m6,m7,m8) (ax,ay,az)) (V.gn (V.tDot (m3,m4,m5) (ax,ay,az)) (V.gn (V.tDot (m0,m1,m2) (ax,ay,az)) false))) = true then k0 (0:Int) (0:Int) (0:Int) (V.gn (V.tDot (m6,m7,m8) (ax,ay,az)) (V.gn (V.tDot (m3,m4,m5) (ax,ay,az)) (V.gn (V.tDot (m0,m1,m2) (ax,ay,az)) false))) else k0 (V.gv (V.tDot (m0,m1,m2) (ax,ay,az))) (V.gv (V.tDot (m3,m4,m5) (ax,ay,az))) (V.gv (V.tDot (m6,m7,m8) (ax,ay,az))) (V.gn (V.tDot (m6,m7,m8) (ax,ay,az)) (V.gn (V.tDot (m3,m4,m5) (ax,ay,az)) (V.gn (V.tDot (m0,m1,m2) (ax,ay,az)) false)))
theorem dvturn_eq {α:Type} (bad:Bool) (m0:Int) (m1:Int) (m2:Int) (m3:Int) (m4:Int) (m5:Int) (m6:Int) (m7:Int) (m8:Int) (ax:Int) (ay:Int) (az:Int) (Q:SV → Hp → Option α):callI E look_dvdot (exec E look_dvdot noLps 400) 57 ([SV.ptr (nat_lit 0) (nat_lit 0),SV.agg [SV.int .i64 m0,SV.int .i64 m1,SV.int .i64 m2,SV.int .i64 m3,SV.int .i64 m4,SV.int .i64 m5,SV.int .i64 m6,SV.int .i64 m7,SV.int .i64 m8],SV.agg [SV.int .i64 ax,SV.int .i64 ay,SV.int .i64 az]]) ([.cells [SV.bool bad] (nat_lit 64)]) Q = M.dvturn bad m0 m1 m2 m3 m4 m5 m6 m7 m8 ax ay az (fun (x6 x7 x8:Int) (x9:Bool) => Q (SV.agg [SV.int .i64 x6,SV.int .i64 x7,SV.int .i64 x8]) ([.cells [SV.bool x9] (nat_lit 64)])) := by kernel_rfl
def dvturn_sp:List AS := [.ptr 64 [.bool false],.val (.agg [.int .i64 0,.int .i64 0,.int .i64 0,.int .i64 0,.int .i64 0,.int .i64 0,.int .i64 0,.int .i64 0,.int .i64 0]),.val (.agg [.int .i64 0,.int .i64 0,.int .i64 0])]
theorem dvturn_v {α:Type} (bad:Bool) (m0:Int) (m1:Int) (m2:Int) (m3:Int) (m4:Int) (m5:Int) (m6:Int) (m7:Int) (m8:Int) (ax:Int) (ay:Int) (az:Int) (k0:Int → Int → Int → Bool → Option α):M.dvturn bad m0 m1 m2 m3 m4 m5 m6 m7 m8 ax ay az k0 = k0 (V.x3 (V.tTurn ((m0,m1,m2),(m3,m4,m5),(m6,m7,m8)) (ax,ay,az))) (V.y3 (V.tTurn ((m0,m1,m2),(m3,m4,m5),(m6,m7,m8)) (ax,ay,az))) (V.z3 (V.tTurn ((m0,m1,m2),(m3,m4,m5),(m6,m7,m8)) (ax,ay,az))) (V.on (V.tTurn ((m0,m1,m2),(m3,m4,m5),(m6,m7,m8)) (ax,ay,az)) bad) := by
 unfold M.dvturn V.tTurn V.t3
 generalize V.tDot (m0,m1,m2) (ax,ay,az) = o0
 generalize V.tDot (m3,m4,m5) (ax,ay,az) = o1
 generalize V.tDot (m6,m7,m8) (ax,ay,az) = o2
 cases bad <;> cases o0 <;> cases o1 <;> cases o2 <;> rfl
noncomputable def dvturn_h {α:Type} (ds:List D) (Q:SV → Hp → Option α):Option α :=
 dB ds fun bad ds => dI ds fun m0 ds => dI ds fun m1 ds => dI ds fun m2 ds => dI ds fun m3 ds => dI ds fun m4 ds => dI ds fun m5 ds => dI ds fun m6 ds => dI ds fun m7 ds => dI ds fun m8 ds => dI ds fun ax ds => dI ds fun ay ds => dI ds fun az ds => dE ds (Q (.agg [.int .i64 (V.x3 (V.tTurn ((m0,m1,m2),(m3,m4,m5),(m6,m7,m8)) (ax,ay,az))),.int .i64 (V.y3 (V.tTurn ((m0,m1,m2),(m3,m4,m5),(m6,m7,m8)) (ax,ay,az))),.int .i64 (V.z3 (V.tTurn ((m0,m1,m2),(m3,m4,m5),(m6,m7,m8)) (ax,ay,az)))]) ([.cells [.bool (V.on (V.tTurn ((m0,m1,m2),(m3,m4,m5),(m6,m7,m8)) (ax,ay,az)) bad)] 64]))
theorem dvturn_h_ok {α:Type}:FnOk E.P 57 (fEnt (α := α) dvturn_sp dvturn_h) :=
 fEnt_ok E (look_dvdot_ok) (exec_sound E E_ok (look_dvdot_ok) (noLps_ok _) 400) fun ds Q r h => by
   unfold dvturn_h at h
   obtain ⟨bad,ds,rfl,h1⟩ := dB_inv h
   obtain ⟨m0,ds,rfl,h2⟩ := dI_inv h1
   obtain ⟨m1,ds,rfl,h3⟩ := dI_inv h2
   obtain ⟨m2,ds,rfl,h4⟩ := dI_inv h3
   obtain ⟨m3,ds,rfl,h5⟩ := dI_inv h4
   obtain ⟨m4,ds,rfl,h6⟩ := dI_inv h5
   obtain ⟨m5,ds,rfl,h7⟩ := dI_inv h6
   obtain ⟨m6,ds,rfl,h8⟩ := dI_inv h7
   obtain ⟨m7,ds,rfl,h9⟩ := dI_inv h8
   obtain ⟨m8,ds,rfl,h10⟩ := dI_inv h9
   obtain ⟨ax,ds,rfl,h11⟩ := dI_inv h10
   obtain ⟨ay,ds,rfl,h12⟩ := dI_inv h11
   obtain ⟨az,ds,rfl,h13⟩ := dI_inv h12
   obtain ⟨rfl,hE⟩ := dE_inv h13
   exact ⟨[SV.ptr (nat_lit 0) (nat_lit 0),SV.agg [SV.int .i64 m0,SV.int .i64 m1,SV.int .i64 m2,SV.int .i64 m3,SV.int .i64 m4,SV.int .i64 m5,SV.int .i64 m6,SV.int .i64 m7,SV.int .i64 m8],SV.agg [SV.int .i64 ax,SV.int .i64 ay,SV.int .i64 az]],[.cells [SV.bool bad] (nat_lit 64)],fun vs => by kernel_rfl,(dvturn_eq bad m0 m1 m2 m3 m4 m5 m6 m7 m8 ax ay az Q).trans ((dvturn_v bad m0 m1 m2 m3 m4 m5 m6 m7 m8 ax ay az _).trans hE)⟩
noncomputable def look_dvturn {α:Type}:LookF α := addFn 57 (fEnt dvturn_sp dvturn_h) look_dvdot
theorem look_dvturn_ok {α:Type}:LookOk E.P (look_dvturn (α := α)) := addFn_ok dvturn_h_ok (look_dvdot_ok)
end
section
open Go
set_option maxRecDepth 20000
noncomputable def M.dvwhole {α:Type} (bad:Bool) (qw:Int) (qx:Int) (qy:Int) (qz:Int) (k0:Int → Int → Int → Int → Bool → Option α):Option α := if cLt (V.gv (V.mNorm [qw,qx,qy,qz])) (2147483648:Int) = true then k0 (0:Int) (0:Int) (0:Int) (0:Int) true else if bad = true then if (!!V.gn (V.mDiv qz (V.gv (V.mNorm [qw,qx,qy,qz]))) (V.gn (V.mDiv qy (V.gv (V.mNorm [qw,qx,qy,qz]))) (V.gn (V.mDiv qx (V.gv (V.mNorm [qw,qx,qy,qz]))) (V.gn (V.mDiv qw (V.gv (V.mNorm [qw,qx,qy,qz]))) (V.gn (V.mNorm [qw,qx,qy,qz]) false))))) = true then k0 (0:Int) (0:Int) (0:Int) (0:Int) true else k0 (V.gv (V.mDiv qw (V.gv (V.mNorm [qw,qx,qy,qz])))) (V.gv (V.mDiv qx (V.gv (V.mNorm [qw,qx,qy,qz])))) (V.gv (V.mDiv qy (V.gv (V.mNorm [qw,qx,qy,qz])))) (V.gv (V.mDiv qz (V.gv (V.mNorm [qw,qx,qy,qz])))) true else if (!!V.gn (V.mDiv qz (V.gv (V.mNorm [qw,qx,qy,qz]))) (V.gn (V.mDiv qy (V.gv (V.mNorm [qw,qx,qy,qz]))) (V.gn (V.mDiv qx (V.gv (V.mNorm [qw,qx,qy,qz]))) (V.gn (V.mDiv qw (V.gv (V.mNorm [qw,qx,qy,qz]))) (V.gn (V.mNorm [qw,qx,qy,qz]) false))))) = true then k0 (0:Int) (0:Int) (0:Int) (0:Int) (V.gn (V.mDiv qz (V.gv (V.mNorm [qw,qx,qy,qz]))) (V.gn (V.mDiv qy (V.gv (V.mNorm [qw,qx,qy,qz]))) (V.gn (V.mDiv qx (V.gv (V.mNorm [qw,qx,qy,qz]))) (V.gn (V.mDiv qw (V.gv (V.mNorm [qw,qx,qy,qz]))) (V.gn (V.mNorm [qw,qx,qy,qz]) false))))) else k0 (V.gv (V.mDiv qw (V.gv (V.mNorm [qw,qx,qy,qz])))) (V.gv (V.mDiv qx (V.gv (V.mNorm [qw,qx,qy,qz])))) (V.gv (V.mDiv qy (V.gv (V.mNorm [qw,qx,qy,qz])))) (V.gv (V.mDiv qz (V.gv (V.mNorm [qw,qx,qy,qz])))) (V.gn (V.mDiv qz (V.gv (V.mNorm [qw,qx,qy,qz]))) (V.gn (V.mDiv qy (V.gv (V.mNorm [qw,qx,qy,qz]))) (V.gn (V.mDiv qx (V.gv (V.mNorm [qw,qx,qy,qz]))) (V.gn (V.mDiv qw (V.gv (V.mNorm [qw,qx,qy,qz]))) (V.gn (V.mNorm [qw,qx,qy,qz]) false)))))
theorem dvwhole_eq {α:Type} (bad:Bool) (qw:Int) (qx:Int) (qy:Int) (qz:Int) (Q:SV → Hp → Option α):callI E look_dvturn (exec E look_dvturn noLps 400) 18 ([SV.ptr (nat_lit 0) (nat_lit 0),SV.agg [SV.int .i64 qw,SV.int .i64 qx,SV.int .i64 qy,SV.int .i64 qz]]) ([.cells [SV.bool bad] (nat_lit 64)]) Q = M.dvwhole bad qw qx qy qz (fun (x0 x1 x2 x3:Int) (x4:Bool) => Q (SV.agg [SV.int .i64 x0,SV.int .i64 x1,SV.int .i64 x2,SV.int .i64 x3]) ([.cells [SV.bool x4] (nat_lit 64)])) := by kernel_rfl
def dvwhole_sp:List AS := [.ptr 64 [.bool false],.val (.agg [.int .i64 0,.int .i64 0,.int .i64 0,.int .i64 0])]
theorem dvwhole_v {α:Type} (bad:Bool) (qw:Int) (qx:Int) (qy:Int) (qz:Int) (k0:Int → Int → Int → Int → Bool → Option α):M.dvwhole bad qw qx qy qz k0 = k0 (V.w4 (V.tWhole (qw,qx,qy,qz))) (V.x4 (V.tWhole (qw,qx,qy,qz))) (V.y4 (V.tWhole (qw,qx,qy,qz))) (V.z4 (V.tWhole (qw,qx,qy,qz))) (V.on (V.tWhole (qw,qx,qy,qz)) bad) := by
 unfold M.dvwhole V.tWhole V.t4 V.tLen4
 simp only [cLt_eq]
 generalize V.mDiv qw (V.gv (V.mNorm [qw,qx,qy,qz])) = o0
 generalize V.mDiv qx (V.gv (V.mNorm [qw,qx,qy,qz])) = o1
 generalize V.mDiv qy (V.gv (V.mNorm [qw,qx,qy,qz])) = o2
 generalize V.mDiv qz (V.gv (V.mNorm [qw,qx,qy,qz])) = o3
 generalize V.mNorm [qw,qx,qy,qz] = o4
 by_cases h:V.gv o4 < 2147483648
 · simp only [h, decide_true, if_true, true_or]
   cases bad <;> rfl
 · simp only [h, decide_false, false_or]
   cases bad <;> cases o0 <;> cases o1 <;> cases o2 <;> cases o3 <;> cases o4 <;> rfl
noncomputable def dvwhole_h {α:Type} (ds:List D) (Q:SV → Hp → Option α):Option α :=
 dB ds fun bad ds => dI ds fun qw ds => dI ds fun qx ds => dI ds fun qy ds => dI ds fun qz ds => dE ds (Q (.agg [.int .i64 (V.w4 (V.tWhole (qw,qx,qy,qz))),.int .i64 (V.x4 (V.tWhole (qw,qx,qy,qz))),.int .i64 (V.y4 (V.tWhole (qw,qx,qy,qz))),.int .i64 (V.z4 (V.tWhole (qw,qx,qy,qz)))]) ([.cells [.bool (V.on (V.tWhole (qw,qx,qy,qz)) bad)] 64]))
theorem dvwhole_h_ok {α:Type}:FnOk E.P 18 (fEnt (α := α) dvwhole_sp dvwhole_h) :=
 fEnt_ok E (look_dvturn_ok) (exec_sound E E_ok (look_dvturn_ok) (noLps_ok _) 400) fun ds Q r h => by
   unfold dvwhole_h at h
   obtain ⟨bad,ds,rfl,h1⟩ := dB_inv h
   obtain ⟨qw,ds,rfl,h2⟩ := dI_inv h1
   obtain ⟨qx,ds,rfl,h3⟩ := dI_inv h2
   obtain ⟨qy,ds,rfl,h4⟩ := dI_inv h3
   obtain ⟨qz,ds,rfl,h5⟩ := dI_inv h4
   obtain ⟨rfl,hE⟩ := dE_inv h5
   exact ⟨[SV.ptr (nat_lit 0) (nat_lit 0),SV.agg [SV.int .i64 qw,SV.int .i64 qx,SV.int .i64 qy,SV.int .i64 qz]],[.cells [SV.bool bad] (nat_lit 64)],fun vs => by kernel_rfl,(dvwhole_eq bad qw qx qy qz Q).trans ((dvwhole_v bad qw qx qy qz _).trans hE)⟩
noncomputable def look_dvwhole {α:Type}:LookF α := addFn 18 (fEnt dvwhole_sp dvwhole_h) look_dvturn
theorem look_dvwhole_ok {α:Type}:LookOk E.P (look_dvwhole (α := α)) := addFn_ok dvwhole_h_ok (look_dvturn_ok)
noncomputable def M.dvrows {α:Type} (bad:Bool) (qw:Int) (qx:Int) (qy:Int) (qz:Int) (k0:Int → Int → Int → Int → Int → Int → Int → Int → Int → Bool → Option α):Option α := if bad = true then if (!!V.gn (V.mSub (4294967296:Int) (V.gv (V.mDot [V.gv (V.mAdd qx qx),V.gv (V.mAdd qy qy)] [qx,qy]))) (V.gn (V.mDot [V.gv (V.mAdd qx qx),V.gv (V.mAdd qy qy)] [qx,qy]) (V.gn (V.mDot [V.gv (V.mAdd qy qy),V.gv (V.mAdd qw qw)] [qz,qx]) (V.gn (V.mDot [V.gv (V.mAdd qx qx),V.gv (V.mAdd qw qw)] [qz,V.gv (V.mSub (0:Int) qy)]) (V.gn (V.mDot [V.gv (V.mAdd qy qy),V.gv (V.mAdd qw qw)] [qz,V.gv (V.mSub (0:Int) qx)]) (V.gn (V.mSub (4294967296:Int) (V.gv (V.mDot [V.gv (V.mAdd qx qx),V.gv (V.mAdd qz qz)] [qx,qz]))) (V.gn (V.mDot [V.gv (V.mAdd qx qx),V.gv (V.mAdd qz qz)] [qx,qz]) (V.gn (V.mDot [V.gv (V.mAdd qx qx),V.gv (V.mAdd qw qw)] [qy,qz]) (V.gn (V.mDot [V.gv (V.mAdd qx qx),V.gv (V.mAdd qw qw)] [qz,qy]) (V.gn (V.mDot [V.gv (V.mAdd qx qx),V.gv (V.mAdd qw qw)] [qy,V.gv (V.mSub (0:Int) qz)]) (V.gn (V.mSub (4294967296:Int) (V.gv (V.mDot [V.gv (V.mAdd qy qy),V.gv (V.mAdd qz qz)] [qy,qz]))) (V.gn (V.mDot [V.gv (V.mAdd qy qy),V.gv (V.mAdd qz qz)] [qy,qz]) (V.gn (V.mSub (0:Int) qz) (V.gn (V.mSub (0:Int) qy) (V.gn (V.mSub (0:Int) qx) (V.gn (V.mAdd qz qz) (V.gn (V.mAdd qy qy) (V.gn (V.mAdd qx qx) (V.gn (V.mAdd qw qw) false))))))))))))))))))) = true then k0 (0:Int) (0:Int) (0:Int) (0:Int) (0:Int) (0:Int) (0:Int) (0:Int) (0:Int) true else k0 (V.gv (V.mSub (4294967296:Int) (V.gv (V.mDot [V.gv (V.mAdd qy qy),V.gv (V.mAdd qz qz)] [qy,qz])))) (V.gv (V.mDot [V.gv (V.mAdd qx qx),V.gv (V.mAdd qw qw)] [qy,V.gv (V.mSub (0:Int) qz)])) (V.gv (V.mDot [V.gv (V.mAdd qx qx),V.gv (V.mAdd qw qw)] [qz,qy])) (V.gv (V.mDot [V.gv (V.mAdd qx qx),V.gv (V.mAdd qw qw)] [qy,qz])) (V.gv (V.mSub (4294967296:Int) (V.gv (V.mDot [V.gv (V.mAdd qx qx),V.gv (V.mAdd qz qz)] [qx,qz])))) (V.gv (V.mDot [V.gv (V.mAdd qy qy),V.gv (V.mAdd qw qw)] [qz,V.gv (V.mSub (0:Int) qx)])) (V.gv (V.mDot [V.gv (V.mAdd qx qx),V.gv (V.mAdd qw qw)] [qz,V.gv (V.mSub (0:Int) qy)])) (V.gv (V.mDot [V.gv (V.mAdd qy qy),V.gv (V.mAdd qw qw)] [qz,qx])) (V.gv (V.mSub (4294967296:Int) (V.gv (V.mDot [V.gv (V.mAdd qx qx),V.gv (V.mAdd qy qy)] [qx,qy])))) true else if (!!V.gn (V.mSub (4294967296:Int) (V.gv (V.mDot [V.gv (V.mAdd qx qx),V.gv (V.mAdd qy qy)] [qx,qy]))) (V.gn (V.mDot [V.gv (V.mAdd qx qx),V.gv (V.mAdd qy qy)] [qx,qy]) (V.gn (V.mDot [V.gv (V.mAdd qy qy),V.gv (V.mAdd qw qw)] [qz,qx]) (V.gn (V.mDot [V.gv (V.mAdd qx qx),V.gv (V.mAdd qw qw)] [qz,V.gv (V.mSub (0:Int) qy)]) (V.gn (V.mDot [V.gv (V.mAdd qy qy),V.gv (V.mAdd qw qw)] [qz,V.gv (V.mSub (0:Int) qx)]) (V.gn (V.mSub (4294967296:Int) (V.gv (V.mDot [V.gv (V.mAdd qx qx),V.gv (V.mAdd qz qz)] [qx,qz]))) (V.gn (V.mDot [V.gv (V.mAdd qx qx),V.gv (V.mAdd qz qz)] [qx,qz]) (V.gn (V.mDot [V.gv (V.mAdd qx qx),V.gv (V.mAdd qw qw)] [qy,qz]) (V.gn (V.mDot [V.gv (V.mAdd qx qx),V.gv (V.mAdd qw qw)] [qz,qy]) (V.gn (V.mDot [V.gv (V.mAdd qx qx),V.gv (V.mAdd qw qw)] [qy,V.gv (V.mSub (0:Int) qz)]) (V.gn (V.mSub (4294967296:Int) (V.gv (V.mDot [V.gv (V.mAdd qy qy),V.gv (V.mAdd qz qz)] [qy,qz]))) (V.gn (V.mDot [V.gv (V.mAdd qy qy),V.gv (V.mAdd qz qz)] [qy,qz]) (V.gn (V.mSub (0:Int) qz) (V.gn (V.mSub (0:Int) qy) (V.gn (V.mSub (0:Int) qx) (V.gn (V.mAdd qz qz) (V.gn (V.mAdd qy qy) (V.gn (V.mAdd qx qx) (V.gn (V.mAdd qw qw) false))))))))))))))))))) = true then k0 (0:Int) (0:Int) (0:Int) (0:Int) (0:Int) (0:Int) (0:Int) (0:Int) (0:Int) (V.gn (V.mSub (4294967296:Int) (V.gv (V.mDot [V.gv (V.mAdd qx qx),V.gv (V.mAdd qy qy)] [qx,qy]))) (V.gn (V.mDot [V.gv (V.mAdd qx qx),V.gv (V.mAdd qy qy)] [qx,qy]) (V.gn (V.mDot [V.gv (V.mAdd qy qy),V.gv (V.mAdd qw qw)] [qz,qx]) (V.gn (V.mDot [V.gv (V.mAdd qx qx),V.gv (V.mAdd qw qw)] [qz,V.gv (V.mSub (0:Int) qy)]) (V.gn (V.mDot [V.gv (V.mAdd qy qy),V.gv (V.mAdd qw qw)] [qz,V.gv (V.mSub (0:Int) qx)]) (V.gn (V.mSub (4294967296:Int) (V.gv (V.mDot [V.gv (V.mAdd qx qx),V.gv (V.mAdd qz qz)] [qx,qz]))) (V.gn (V.mDot [V.gv (V.mAdd qx qx),V.gv (V.mAdd qz qz)] [qx,qz]) (V.gn (V.mDot [V.gv (V.mAdd qx qx),V.gv (V.mAdd qw qw)] [qy,qz]) (V.gn (V.mDot [V.gv (V.mAdd qx qx),V.gv (V.mAdd qw qw)] [qz,qy]) (V.gn (V.mDot [V.gv (V.mAdd qx qx),V.gv (V.mAdd qw qw)] [qy,V.gv (V.mSub (0:Int) qz)]) (V.gn (V.mSub (4294967296:Int) (V.gv (V.mDot [V.gv (V.mAdd qy qy),V.gv (V.mAdd qz qz)] [qy,qz]))) (V.gn (V.mDot [V.gv (V.mAdd qy qy),V.gv (V.mAdd qz qz)] [qy,qz]) (V.gn (V.mSub (0:Int) qz) (V.gn (V.mSub (0:Int) qy) (V.gn (V.mSub (0:Int) qx) (V.gn (V.mAdd qz qz) (V.gn (V.mAdd qy qy) (V.gn (V.mAdd qx qx) (V.gn (V.mAdd qw qw) false))))))))))))))))))) else k0 (V.gv (V.mSub (4294967296:Int) (V.gv (V.mDot [V.gv (V.mAdd qy qy),V.gv (V.mAdd qz qz)] [qy,qz])))) (V.gv (V.mDot [V.gv (V.mAdd qx qx),V.gv (V.mAdd qw qw)] [qy,V.gv (V.mSub (0:Int) qz)])) (V.gv (V.mDot [V.gv (V.mAdd qx qx),V.gv (V.mAdd qw qw)] [qz,qy])) (V.gv (V.mDot [V.gv (V.mAdd qx qx),V.gv (V.mAdd qw qw)] [qy,qz])) (V.gv (V.mSub (4294967296:Int) (V.gv (V.mDot [V.gv (V.mAdd qx qx),V.gv (V.mAdd qz qz)] [qx,qz])))) (V.gv (V.mDot [V.gv (V.mAdd qy qy),V.gv (V.mAdd qw qw)] [qz,V.gv (V.mSub (0:Int) qx)])) (V.gv (V.mDot [V.gv (V.mAdd qx qx),V.gv (V.mAdd qw qw)] [qz,V.gv (V.mSub (0:Int) qy)])) (V.gv (V.mDot [V.gv (V.mAdd qy qy),V.gv (V.mAdd qw qw)] [qz,qx])) (V.gv (V.mSub (4294967296:Int) (V.gv (V.mDot [V.gv (V.mAdd qx qx),V.gv (V.mAdd qy qy)] [qx,qy])))) (V.gn (V.mSub (4294967296:Int) (V.gv (V.mDot [V.gv (V.mAdd qx qx),V.gv (V.mAdd qy qy)] [qx,qy]))) (V.gn (V.mDot [V.gv (V.mAdd qx qx),V.gv (V.mAdd qy qy)] [qx,qy]) (V.gn (V.mDot [V.gv (V.mAdd qy qy),V.gv (V.mAdd qw qw)] [qz,qx]) (V.gn (V.mDot [V.gv (V.mAdd qx qx),V.gv (V.mAdd qw qw)] [qz,V.gv (V.mSub (0:Int) qy)]) (V.gn (V.mDot [V.gv (V.mAdd qy qy),V.gv (V.mAdd qw qw)] [qz,V.gv (V.mSub (0:Int) qx)]) (V.gn (V.mSub (4294967296:Int) (V.gv (V.mDot [V.gv (V.mAdd qx qx),V.gv (V.mAdd qz qz)] [qx,qz]))) (V.gn (V.mDot [V.gv (V.mAdd qx qx),V.gv (V.mAdd qz qz)] [qx,qz]) (V.gn (V.mDot [V.gv (V.mAdd qx qx),V.gv (V.mAdd qw qw)] [qy,qz]) (V.gn (V.mDot [V.gv (V.mAdd qx qx),V.gv (V.mAdd qw qw)] [qz,qy]) (V.gn (V.mDot [V.gv (V.mAdd qx qx),V.gv (V.mAdd qw qw)] [qy,V.gv (V.mSub (0:Int) qz)]) (V.gn (V.mSub (4294967296:Int) (V.gv (V.mDot [V.gv (V.mAdd qy qy),V.gv (V.mAdd qz qz)] [qy,qz]))) (V.gn (V.mDot [V.gv (V.mAdd qy qy),V.gv (V.mAdd qz qz)] [qy,qz]) (V.gn (V.mSub (0:Int) qz) (V.gn (V.mSub (0:Int) qy) (V.gn (V.mSub (0:Int) qx) (V.gn (V.mAdd qz qz) (V.gn (V.mAdd qy qy) (V.gn (V.mAdd qx qx) (V.gn (V.mAdd qw qw) false)))))))))))))))))))
theorem dvrows_eq {α:Type} (bad:Bool) (qw:Int) (qx:Int) (qy:Int) (qz:Int) (Q:SV → Hp → Option α):callI E look_dvwhole (exec E look_dvwhole noLps 400) 54 ([SV.ptr (nat_lit 0) (nat_lit 0),SV.agg [SV.int .i64 qw,SV.int .i64 qx,SV.int .i64 qy,SV.int .i64 qz]]) ([.cells [SV.bool bad] (nat_lit 64)]) Q = M.dvrows bad qw qx qy qz (fun (x5 x6 x7 x8 x9 x10 x11 x12 x13:Int) (x14:Bool) => Q (SV.agg [SV.int .i64 x5,SV.int .i64 x6,SV.int .i64 x7,SV.int .i64 x8,SV.int .i64 x9,SV.int .i64 x10,SV.int .i64 x11,SV.int .i64 x12,SV.int .i64 x13]) ([.cells [SV.bool x14] (nat_lit 64)])) := by kernel_rfl
def dvrows_sp:List AS := [.ptr 64 [.bool false],.val (.agg [.int .i64 0,.int .i64 0,.int .i64 0,.int .i64 0])]
theorem dvrows_v {α:Type} (bad:Bool) (qw:Int) (qx:Int) (qy:Int) (qz:Int) (k0:Int → Int → Int → Int → Int → Int → Int → Int → Int → Bool → Option α):M.dvrows bad qw qx qy qz k0 = k0 (V.m0 (V.tRows (qw,qx,qy,qz))) (V.m1 (V.tRows (qw,qx,qy,qz))) (V.m2 (V.tRows (qw,qx,qy,qz))) (V.m3 (V.tRows (qw,qx,qy,qz))) (V.m4 (V.tRows (qw,qx,qy,qz))) (V.m5 (V.tRows (qw,qx,qy,qz))) (V.m6 (V.tRows (qw,qx,qy,qz))) (V.m7 (V.tRows (qw,qx,qy,qz))) (V.m8 (V.tRows (qw,qx,qy,qz))) (V.on (V.tRows (qw,qx,qy,qz)) bad) := by
 unfold M.dvrows V.tRows
 have e:(V.gn (V.mSub (4294967296:Int) (V.gv (V.mDot [V.gv (V.mAdd qx qx),V.gv (V.mAdd qy qy)] [qx,qy]))) (V.gn (V.mDot [V.gv (V.mAdd qx qx),V.gv (V.mAdd qy qy)] [qx,qy]) (V.gn (V.mDot [V.gv (V.mAdd qy qy),V.gv (V.mAdd qw qw)] [qz,qx]) (V.gn (V.mDot [V.gv (V.mAdd qx qx),V.gv (V.mAdd qw qw)] [qz,V.gv (V.mSub (0:Int) qy)]) (V.gn (V.mDot [V.gv (V.mAdd qy qy),V.gv (V.mAdd qw qw)] [qz,V.gv (V.mSub (0:Int) qx)]) (V.gn (V.mSub (4294967296:Int) (V.gv (V.mDot [V.gv (V.mAdd qx qx),V.gv (V.mAdd qz qz)] [qx,qz]))) (V.gn (V.mDot [V.gv (V.mAdd qx qx),V.gv (V.mAdd qz qz)] [qx,qz]) (V.gn (V.mDot [V.gv (V.mAdd qx qx),V.gv (V.mAdd qw qw)] [qy,qz]) (V.gn (V.mDot [V.gv (V.mAdd qx qx),V.gv (V.mAdd qw qw)] [qz,qy]) (V.gn (V.mDot [V.gv (V.mAdd qx qx),V.gv (V.mAdd qw qw)] [qy,V.gv (V.mSub (0:Int) qz)]) (V.gn (V.mSub (4294967296:Int) (V.gv (V.mDot [V.gv (V.mAdd qy qy),V.gv (V.mAdd qz qz)] [qy,qz]))) (V.gn (V.mDot [V.gv (V.mAdd qy qy),V.gv (V.mAdd qz qz)] [qy,qz]) (V.gn (V.mSub (0:Int) qz) (V.gn (V.mSub (0:Int) qy) (V.gn (V.mSub (0:Int) qx) (V.gn (V.mAdd qz qz) (V.gn (V.mAdd qy qy) (V.gn (V.mAdd qx qx) (V.gn (V.mAdd qw qw) (false)))))))))))))))))))) = (V.no [V.mAdd qw qw,V.mAdd qx qx,V.mAdd qy qy,V.mAdd qz qz,V.mSub 0 qx,V.mSub 0 qy,V.mSub 0 qz,V.twoD (V.dbl qy) (V.dbl qz) qy qz,V.twoD (V.dbl qx) (V.dbl qz) qx qz,V.twoD (V.dbl qx) (V.dbl qy) qx qy] || V.no [V.mSub 4294967296 (V.gv (V.twoD (V.dbl qy) (V.dbl qz) qy qz)),V.twoD (V.dbl qx) (V.dbl qw) qy (V.neg qz),V.twoD (V.dbl qx) (V.dbl qw) qz qy,V.twoD (V.dbl qx) (V.dbl qw) qy qz,V.mSub 4294967296 (V.gv (V.twoD (V.dbl qx) (V.dbl qz) qx qz)),V.twoD (V.dbl qy) (V.dbl qw) qz (V.neg qx),V.twoD (V.dbl qx) (V.dbl qw) qz (V.neg qy),V.twoD (V.dbl qy) (V.dbl qw) qz qx,V.mSub 4294967296 (V.gv (V.twoD (V.dbl qx) (V.dbl qy) qx qy))]) := by
   simp only [V.gn,no_cons,no_nil,V.twoD,V.dbl,V.neg,Bool.or_false]
   ac_rfl
 rw [e]
 simp only []
 generalize V.no [V.mAdd qw qw,V.mAdd qx qx,V.mAdd qy qy,V.mAdd qz qz,V.mSub 0 qx,V.mSub 0 qy,V.mSub 0 qz,V.twoD (V.dbl qy) (V.dbl qz) qy qz,V.twoD (V.dbl qx) (V.dbl qz) qx qz,V.twoD (V.dbl qx) (V.dbl qy) qx qy] = f
 generalize V.no _ = g
 cases bad <;> cases f <;> cases g <;> rfl
noncomputable def dvrows_h {α:Type} (ds:List D) (Q:SV → Hp → Option α):Option α :=
 dB ds fun bad ds => dI ds fun qw ds => dI ds fun qx ds => dI ds fun qy ds => dI ds fun qz ds => dE ds (Q (.agg [.int .i64 (V.m0 (V.tRows (qw,qx,qy,qz))),.int .i64 (V.m1 (V.tRows (qw,qx,qy,qz))),.int .i64 (V.m2 (V.tRows (qw,qx,qy,qz))),.int .i64 (V.m3 (V.tRows (qw,qx,qy,qz))),.int .i64 (V.m4 (V.tRows (qw,qx,qy,qz))),.int .i64 (V.m5 (V.tRows (qw,qx,qy,qz))),.int .i64 (V.m6 (V.tRows (qw,qx,qy,qz))),.int .i64 (V.m7 (V.tRows (qw,qx,qy,qz))),.int .i64 (V.m8 (V.tRows (qw,qx,qy,qz)))]) ([.cells [.bool (V.on (V.tRows (qw,qx,qy,qz)) bad)] 64]))
theorem dvrows_h_ok {α:Type}:FnOk E.P 54 (fEnt (α := α) dvrows_sp dvrows_h) :=
 fEnt_ok E (look_dvwhole_ok) (exec_sound E E_ok (look_dvwhole_ok) (noLps_ok _) 400) fun ds Q r h => by
   unfold dvrows_h at h
   obtain ⟨bad,ds,rfl,h1⟩ := dB_inv h
   obtain ⟨qw,ds,rfl,h2⟩ := dI_inv h1
   obtain ⟨qx,ds,rfl,h3⟩ := dI_inv h2
   obtain ⟨qy,ds,rfl,h4⟩ := dI_inv h3
   obtain ⟨qz,ds,rfl,h5⟩ := dI_inv h4
   obtain ⟨rfl,hE⟩ := dE_inv h5
   exact ⟨[SV.ptr (nat_lit 0) (nat_lit 0),SV.agg [SV.int .i64 qw,SV.int .i64 qx,SV.int .i64 qy,SV.int .i64 qz]],[.cells [SV.bool bad] (nat_lit 64)],fun vs => by kernel_rfl,(dvrows_eq bad qw qx qy qz Q).trans ((dvrows_v bad qw qx qy qz _).trans hE)⟩
end
section
open Go
set_option maxRecDepth 20000
noncomputable def look_PoR_dshort {α:Type}:LookF α := addFn 32 (fEnt dshort_sp dshort_h) look_place
theorem look_PoR_dshort_ok {α:Type}:LookOk E.P (look_PoR_dshort (α := α)) := addFn_ok dshort_h_ok (look_place_ok)
noncomputable def look_PoR_dvadd {α:Type}:LookF α := addFn 56 (fEnt dvadd_sp dvadd_h) look_PoR_dshort
theorem look_PoR_dvadd_ok {α:Type}:LookOk E.P (look_PoR_dvadd (α := α)) := addFn_ok dvadd_h_ok (look_PoR_dshort_ok)
noncomputable def look_PoR_dvturn {α:Type}:LookF α := addFn 57 (fEnt dvturn_sp dvturn_h) look_PoR_dvadd
theorem look_PoR_dvturn_ok {α:Type}:LookOk E.P (look_PoR_dvturn (α := α)) := addFn_ok dvturn_h_ok (look_PoR_dvadd_ok)
noncomputable def look_PoR_dvrows {α:Type}:LookF α := addFn 54 (fEnt dvrows_sp dvrows_h) look_PoR_dvturn
theorem look_PoR_dvrows_ok {α:Type}:LookOk E.P (look_PoR_dvrows (α := α)) := addFn_ok dvrows_h_ok (look_PoR_dvturn_ok)
noncomputable def M.pin {α:Type} (x:Int) (y:Int) (z:Int) (n:Int) (k0:Bool → Option α):Option α := if cLe (IntKind.wrap .i64 ((0:Int) - n)) x = true then if cLe x n = true then if cLe (IntKind.wrap .i64 ((0:Int) - n)) y = true then if cLe y n = true then if cLe (IntKind.wrap .i64 ((0:Int) - n)) z = true then k0 (cLe z n) else k0 false else k0 false else k0 false else k0 false else k0 false
theorem pin_eq {α:Type} (x:Int) (y:Int) (z:Int) (n:Int) (Q:SV → Hp → Option α):callI E look_PoR_dvrows (exec E look_PoR_dvrows noLps 400) 55 ([SV.agg [SV.int .i64 x,SV.int .i64 y,SV.int .i64 z],SV.int .i64 n]) ([]) Q = M.pin x y z n (fun (x0:Bool) => Q (SV.bool x0) ([])) := by kernel_rfl
def pin_sp:List AS := [.val (.agg [.int .i64 0,.int .i64 0,.int .i64 0]),.val (.int .i64 0)]
noncomputable def _root_.Go.Proofs.YtlagndfhibkjpaaGreat.V.pin_r0 (x:Int) (y:Int) (z:Int) (n:Int):Bool := if cLe (IntKind.wrap .i64 ((0:Int) - n)) x = true then if cLe x n = true then if cLe (IntKind.wrap .i64 ((0:Int) - n)) y = true then if cLe y n = true then if cLe (IntKind.wrap .i64 ((0:Int) - n)) z = true then cLe z n else false else false else false else false else false
theorem pin_val {α:Type} (x:Int) (y:Int) (z:Int) (n:Int) (k0:Bool → Option α):M.pin x y z n k0 = k0 (V.pin_r0 x y z n) := by
 unfold M.pin V.pin_r0
 repeat' first | rfl | (split <;> rename_i h <;> first | simp only [if_pos h] | simp only [if_neg h] | skip)
noncomputable def pin_c {α:Type} (ds:List D) (Q:SV → Hp → Option α):Option α :=
 dI ds fun x ds => dI ds fun y ds => dI ds fun z ds => dI ds fun n ds => dE ds (Q (SV.bool (V.pin_r0 x y z n)) ([]))
theorem pin_c_ok {α:Type}:FnOk E.P 55 (fEnt (α := α) pin_sp pin_c) :=
 fEnt_ok E (look_PoR_dvrows_ok) (exec_sound E E_ok (look_PoR_dvrows_ok) (noLps_ok _) 400) fun ds Q r h => by
   unfold pin_c at h
   obtain ⟨x,ds,rfl,h1⟩ := dI_inv h
   obtain ⟨y,ds,rfl,h2⟩ := dI_inv h1
   obtain ⟨z,ds,rfl,h3⟩ := dI_inv h2
   obtain ⟨n,ds,rfl,h4⟩ := dI_inv h3
   obtain ⟨rfl,hE⟩ := dE_inv h4
   exact ⟨[SV.agg [SV.int .i64 x,SV.int .i64 y,SV.int .i64 z],SV.int .i64 n],[],fun vs => by kernel_rfl,(pin_eq x y z n Q).trans ((pin_val x y z n (fun (x0:Bool) => Q (SV.bool x0) ([]))).trans hE)⟩
noncomputable def look_pin {α:Type}:LookF α := addFn 55 (fEnt pin_sp pin_c) look_PoR_dvrows
theorem look_pin_ok {α:Type}:LookOk E.P (look_pin (α := α)) := addFn_ok pin_c_ok (look_PoR_dvrows_ok)
theorem ifb (c:Prop) [Decidable c] (t:Bool):(if decide c = true then t else false) = (decide c && t) := by
 by_cases h:c <;> simp [h]
theorem pin_dec (x y z n:Int) (hn:0 ≤ n ∧ n < 9223372036854775808):V.pin_r0 x y z n = decide (Sm (x,y,z) n) := by
 unfold V.pin_r0
 rw [IntWalk.i64_in (0 - n) (by omega)]
 simp only [cLe_eq,ifb]
 rw [Bool.eq_iff_iff]
 simp only [Bool.and_eq_true,decide_eq_true_eq]
 show _ ↔ (-n ≤ x ∧ x ≤ n) ∧ (-n ≤ y ∧ y ≤ n) ∧ (-n ≤ z ∧ z ≤ n)
 omega
noncomputable def M.ptimes {α:Type} (x:Int) (y:Int) (z:Int) (n:Int) (k0:Int → Int → Int → Option α):Option α := k0 (IntKind.wrap .i64 (x * n)) (IntKind.wrap .i64 (y * n)) (IntKind.wrap .i64 (z * n))
theorem ptimes_eq {α:Type} (x:Int) (y:Int) (z:Int) (n:Int) (Q:SV → Hp → Option α):callI E look_pin (exec E look_pin noLps 400) 58 ([SV.agg [SV.int .i64 x,SV.int .i64 y,SV.int .i64 z],SV.int .i64 n]) ([]) Q = M.ptimes x y z n (fun (x1 x2 x3:Int) => Q (SV.agg [SV.int .i64 x1,SV.int .i64 x2,SV.int .i64 x3]) ([])) := by kernel_rfl
def ptimes_sp:List AS := [.val (.agg [.int .i64 0,.int .i64 0,.int .i64 0]),.val (.int .i64 0)]
noncomputable def _root_.Go.Proofs.YtlagndfhibkjpaaGreat.V.ptimes_r0 (x:Int) (y:Int) (z:Int) (n:Int):Int := IntKind.wrap .i64 (x * n)
noncomputable def _root_.Go.Proofs.YtlagndfhibkjpaaGreat.V.ptimes_r1 (x:Int) (y:Int) (z:Int) (n:Int):Int := IntKind.wrap .i64 (y * n)
noncomputable def _root_.Go.Proofs.YtlagndfhibkjpaaGreat.V.ptimes_r2 (x:Int) (y:Int) (z:Int) (n:Int):Int := IntKind.wrap .i64 (z * n)
theorem ptimes_val {α:Type} (x:Int) (y:Int) (z:Int) (n:Int) (k0:Int → Int → Int → Option α):M.ptimes x y z n k0 = k0 (V.ptimes_r0 x y z n) (V.ptimes_r1 x y z n) (V.ptimes_r2 x y z n) := by
 unfold M.ptimes V.ptimes_r0 V.ptimes_r1 V.ptimes_r2
 repeat' first | rfl | (split <;> rename_i h <;> first | simp only [if_pos h] | simp only [if_neg h] | skip)
noncomputable def ptimes_c {α:Type} (ds:List D) (Q:SV → Hp → Option α):Option α :=
 dI ds fun x ds => dI ds fun y ds => dI ds fun z ds => dI ds fun n ds => dE ds (Q (SV.agg [SV.int .i64 (V.ptimes_r0 x y z n),SV.int .i64 (V.ptimes_r1 x y z n),SV.int .i64 (V.ptimes_r2 x y z n)]) ([]))
theorem ptimes_c_ok {α:Type}:FnOk E.P 58 (fEnt (α := α) ptimes_sp ptimes_c) :=
 fEnt_ok E (look_pin_ok) (exec_sound E E_ok (look_pin_ok) (noLps_ok _) 400) fun ds Q r h => by
   unfold ptimes_c at h
   obtain ⟨x,ds,rfl,h1⟩ := dI_inv h
   obtain ⟨y,ds,rfl,h2⟩ := dI_inv h1
   obtain ⟨z,ds,rfl,h3⟩ := dI_inv h2
   obtain ⟨n,ds,rfl,h4⟩ := dI_inv h3
   obtain ⟨rfl,hE⟩ := dE_inv h4
   exact ⟨[SV.agg [SV.int .i64 x,SV.int .i64 y,SV.int .i64 z],SV.int .i64 n],[],fun vs => by kernel_rfl,(ptimes_eq x y z n Q).trans ((ptimes_val x y z n (fun (x1 x2 x3:Int) => Q (SV.agg [SV.int .i64 x1,SV.int .i64 x2,SV.int .i64 x3]) ([]))).trans hE)⟩
noncomputable def look_ptimes {α:Type}:LookF α := addFn 58 (fEnt ptimes_sp ptimes_c) look_pin
theorem look_ptimes_ok {α:Type}:LookOk E.P (look_ptimes (α := α)) := addFn_ok ptimes_c_ok (look_pin_ok)
noncomputable def M.pdown {α:Type} (n:Int) (k0:Int → Option α):Option α := if cLt (Int.tmod n (1048576:Int)) (0:Int) = true then k0 (IntKind.wrap .i64 (IntKind.wrap .i64 (Int.tdiv n (1048576:Int)) - (1:Int))) else k0 (IntKind.wrap .i64 (Int.tdiv n (1048576:Int)))
theorem pdown_eq {α:Type} (n:Int) (Q:SV → Hp → Option α):callI E look_ptimes (exec E look_ptimes noLps 400) 59 ([SV.int .i64 n]) ([]) Q = M.pdown n (fun (x4:Int) => Q (SV.int .i64 x4) ([])) := by kernel_rfl
def pdown_sp:List AS := [.val (.int .i64 0)]
noncomputable def _root_.Go.Proofs.YtlagndfhibkjpaaGreat.V.pdown_r0 (n:Int):Int := if cLt (Int.tmod n (1048576:Int)) (0:Int) = true then IntKind.wrap .i64 (IntKind.wrap .i64 (Int.tdiv n (1048576:Int)) - (1:Int)) else IntKind.wrap .i64 (Int.tdiv n (1048576:Int))
theorem pdown_val {α:Type} (n:Int) (k0:Int → Option α):M.pdown n k0 = k0 (V.pdown_r0 n) := by
 unfold M.pdown V.pdown_r0
 repeat' first | rfl | (split <;> rename_i h <;> first | simp only [if_pos h] | simp only [if_neg h] | skip)
noncomputable def pdown_c {α:Type} (ds:List D) (Q:SV → Hp → Option α):Option α :=
 dI ds fun n ds => dE ds (Q (SV.int .i64 (V.pdown_r0 n)) ([]))
theorem pdown_c_ok {α:Type}:FnOk E.P 59 (fEnt (α := α) pdown_sp pdown_c) :=
 fEnt_ok E (look_ptimes_ok) (exec_sound E E_ok (look_ptimes_ok) (noLps_ok _) 400) fun ds Q r h => by
   unfold pdown_c at h
   obtain ⟨n,ds,rfl,h1⟩ := dI_inv h
   obtain ⟨rfl,hE⟩ := dE_inv h1
   exact ⟨[SV.int .i64 n],[],fun vs => by kernel_rfl,(pdown_eq n Q).trans ((pdown_val n (fun (x4:Int) => Q (SV.int .i64 x4) ([]))).trans hE)⟩
noncomputable def look_pdown {α:Type}:LookF α := addFn 59 (fEnt pdown_sp pdown_c) look_ptimes
theorem look_pdown_ok {α:Type}:LookOk E.P (look_pdown (α := α)) := addFn_ok pdown_c_ok (look_ptimes_ok)
theorem pdown_fdiv (n:Int) (hn:-9223372036854775808 ≤ n ∧ n < 9223372036854775808):V.pdown_r0 n = Int.fdiv n 1048576 := by
 unfold V.pdown_r0
 rw [cLt_eq,Int.fdiv_eq_ediv_of_nonneg _ (by decide)]
 by_cases h:0 ≤ n
 · have h1 := Int.tdiv_eq_ediv_of_nonneg (b := 1048576) h
   have h2 := Int.tmod_eq_emod_of_nonneg (b := 1048576) h
   rw [h1,h2,if_neg (by simp; omega),IntWalk.i64_in _ (by omega)]
 · obtain ⟨m, rfl⟩ : ∃ m, n = -m := ⟨-n, by omega⟩
   have hm:0 ≤ m := by omega
   rw [Int.neg_tdiv,Int.neg_tmod,Int.tdiv_eq_ediv_of_nonneg hm,Int.tmod_eq_emod_of_nonneg hm]
   by_cases h0:m % 1048576 = 0
   · rw [if_neg (by simp; omega),IntWalk.i64_in _ (by omega)]; omega
   · rw [if_pos (by simp; omega),IntWalk.i64_in (-(m / 1048576)) (by omega),IntWalk.i64_in _ (by omega)]; omega
noncomputable def M.rgrown {α:Type} (a0:Int) (a1:Int) (a2:Int) (a3:Int) (a4:Int) (a5:Int) (n:Int) (k0:Int → Int → Int → Int → Int → Int → Option α):Option α := k0 (IntKind.wrap .i64 (a0 - n)) (IntKind.wrap .i64 (a1 - n)) (IntKind.wrap .i64 (a2 - n)) (IntKind.wrap .i64 (a3 + n)) (IntKind.wrap .i64 (a4 + n)) (IntKind.wrap .i64 (a5 + n))
theorem rgrown_eq {α:Type} (a0:Int) (a1:Int) (a2:Int) (a3:Int) (a4:Int) (a5:Int) (n:Int) (Q:SV → Hp → Option α):callI E look_pdown (exec E look_pdown noLps 400) 64 ([SV.agg [SV.int .i64 a0,SV.int .i64 a1,SV.int .i64 a2,SV.int .i64 a3,SV.int .i64 a4,SV.int .i64 a5],SV.int .i64 n]) ([]) Q = M.rgrown a0 a1 a2 a3 a4 a5 n (fun (x5 x6 x7 x8 x9 x10:Int) => Q (SV.agg [SV.int .i64 x5,SV.int .i64 x6,SV.int .i64 x7,SV.int .i64 x8,SV.int .i64 x9,SV.int .i64 x10]) ([])) := by kernel_rfl
def rgrown_sp:List AS := [.val (.agg [.int .i64 0,.int .i64 0,.int .i64 0,.int .i64 0,.int .i64 0,.int .i64 0]),.val (.int .i64 0)]
noncomputable def _root_.Go.Proofs.YtlagndfhibkjpaaGreat.V.rgrown_r0 (a0:Int) (a1:Int) (a2:Int) (a3:Int) (a4:Int) (a5:Int) (n:Int):Int := IntKind.wrap .i64 (a0 - n)
noncomputable def _root_.Go.Proofs.YtlagndfhibkjpaaGreat.V.rgrown_r1 (a0:Int) (a1:Int) (a2:Int) (a3:Int) (a4:Int) (a5:Int) (n:Int):Int := IntKind.wrap .i64 (a1 - n)
noncomputable def _root_.Go.Proofs.YtlagndfhibkjpaaGreat.V.rgrown_r2 (a0:Int) (a1:Int) (a2:Int) (a3:Int) (a4:Int) (a5:Int) (n:Int):Int := IntKind.wrap .i64 (a2 - n)
noncomputable def _root_.Go.Proofs.YtlagndfhibkjpaaGreat.V.rgrown_r3 (a0:Int) (a1:Int) (a2:Int) (a3:Int) (a4:Int) (a5:Int) (n:Int):Int := IntKind.wrap .i64 (a3 + n)
noncomputable def _root_.Go.Proofs.YtlagndfhibkjpaaGreat.V.rgrown_r4 (a0:Int) (a1:Int) (a2:Int) (a3:Int) (a4:Int) (a5:Int) (n:Int):Int := IntKind.wrap .i64 (a4 + n)
noncomputable def _root_.Go.Proofs.YtlagndfhibkjpaaGreat.V.rgrown_r5 (a0:Int) (a1:Int) (a2:Int) (a3:Int) (a4:Int) (a5:Int) (n:Int):Int := IntKind.wrap .i64 (a5 + n)
theorem rgrown_val {α:Type} (a0:Int) (a1:Int) (a2:Int) (a3:Int) (a4:Int) (a5:Int) (n:Int) (k0:Int → Int → Int → Int → Int → Int → Option α):M.rgrown a0 a1 a2 a3 a4 a5 n k0 = k0 (V.rgrown_r0 a0 a1 a2 a3 a4 a5 n) (V.rgrown_r1 a0 a1 a2 a3 a4 a5 n) (V.rgrown_r2 a0 a1 a2 a3 a4 a5 n) (V.rgrown_r3 a0 a1 a2 a3 a4 a5 n) (V.rgrown_r4 a0 a1 a2 a3 a4 a5 n) (V.rgrown_r5 a0 a1 a2 a3 a4 a5 n) := by
 unfold M.rgrown V.rgrown_r0 V.rgrown_r1 V.rgrown_r2 V.rgrown_r3 V.rgrown_r4 V.rgrown_r5
 repeat' first | rfl | (split <;> rename_i h <;> first | simp only [if_pos h] | simp only [if_neg h] | skip)
noncomputable def rgrown_c {α:Type} (ds:List D) (Q:SV → Hp → Option α):Option α :=
 dI ds fun a0 ds => dI ds fun a1 ds => dI ds fun a2 ds => dI ds fun a3 ds => dI ds fun a4 ds => dI ds fun a5 ds => dI ds fun n ds => dE ds (Q (SV.agg [SV.int .i64 (V.rgrown_r0 a0 a1 a2 a3 a4 a5 n),SV.int .i64 (V.rgrown_r1 a0 a1 a2 a3 a4 a5 n),SV.int .i64 (V.rgrown_r2 a0 a1 a2 a3 a4 a5 n),SV.int .i64 (V.rgrown_r3 a0 a1 a2 a3 a4 a5 n),SV.int .i64 (V.rgrown_r4 a0 a1 a2 a3 a4 a5 n),SV.int .i64 (V.rgrown_r5 a0 a1 a2 a3 a4 a5 n)]) ([]))
theorem rgrown_c_ok {α:Type}:FnOk E.P 64 (fEnt (α := α) rgrown_sp rgrown_c) :=
 fEnt_ok E (look_pdown_ok) (exec_sound E E_ok (look_pdown_ok) (noLps_ok _) 400) fun ds Q r h => by
   unfold rgrown_c at h
   obtain ⟨a0,ds,rfl,h1⟩ := dI_inv h
   obtain ⟨a1,ds,rfl,h2⟩ := dI_inv h1
   obtain ⟨a2,ds,rfl,h3⟩ := dI_inv h2
   obtain ⟨a3,ds,rfl,h4⟩ := dI_inv h3
   obtain ⟨a4,ds,rfl,h5⟩ := dI_inv h4
   obtain ⟨a5,ds,rfl,h6⟩ := dI_inv h5
   obtain ⟨n,ds,rfl,h7⟩ := dI_inv h6
   obtain ⟨rfl,hE⟩ := dE_inv h7
   exact ⟨[SV.agg [SV.int .i64 a0,SV.int .i64 a1,SV.int .i64 a2,SV.int .i64 a3,SV.int .i64 a4,SV.int .i64 a5],SV.int .i64 n],[],fun vs => by kernel_rfl,(rgrown_eq a0 a1 a2 a3 a4 a5 n Q).trans ((rgrown_val a0 a1 a2 a3 a4 a5 n (fun (x5 x6 x7 x8 x9 x10:Int) => Q (SV.agg [SV.int .i64 x5,SV.int .i64 x6,SV.int .i64 x7,SV.int .i64 x8,SV.int .i64 x9,SV.int .i64 x10]) ([]))).trans hE)⟩
noncomputable def look_rgrown {α:Type}:LookF α := addFn 64 (fEnt rgrown_sp rgrown_c) look_pdown
theorem look_rgrown_ok {α:Type}:LookOk E.P (look_rgrown (α := α)) := addFn_ok rgrown_c_ok (look_pdown_ok)
noncomputable def M.rjoin {α:Type} (a0:Int) (a1:Int) (a2:Int) (a3:Int) (a4:Int) (a5:Int) (b0:Int) (b1:Int) (b2:Int) (b3:Int) (b4:Int) (b5:Int) (k0:Int → Int → Int → Int → Int → Int → Option α):Option α := k0 (if b0 < a0 then b0 else a0) (if b1 < a1 then b1 else a1) (if b2 < a2 then b2 else a2) (if b3 > a3 then b3 else a3) (if b4 > a4 then b4 else a4) (if b5 > a5 then b5 else a5)
theorem rjoin_eq {α:Type} (a0:Int) (a1:Int) (a2:Int) (a3:Int) (a4:Int) (a5:Int) (b0:Int) (b1:Int) (b2:Int) (b3:Int) (b4:Int) (b5:Int) (Q:SV → Hp → Option α):callI E look_rgrown (exec E look_rgrown noLps 400) 63 ([SV.agg [SV.int .i64 a0,SV.int .i64 a1,SV.int .i64 a2,SV.int .i64 a3,SV.int .i64 a4,SV.int .i64 a5],SV.agg [SV.int .i64 b0,SV.int .i64 b1,SV.int .i64 b2,SV.int .i64 b3,SV.int .i64 b4,SV.int .i64 b5]]) ([]) Q = M.rjoin a0 a1 a2 a3 a4 a5 b0 b1 b2 b3 b4 b5 (fun (x11 x12 x13 x14 x15 x16:Int) => Q (SV.agg [SV.int .i64 x11,SV.int .i64 x12,SV.int .i64 x13,SV.int .i64 x14,SV.int .i64 x15,SV.int .i64 x16]) ([])) := by kernel_rfl
def rjoin_sp:List AS := [.val (.agg [.int .i64 0,.int .i64 0,.int .i64 0,.int .i64 0,.int .i64 0,.int .i64 0]),.val (.agg [.int .i64 0,.int .i64 0,.int .i64 0,.int .i64 0,.int .i64 0,.int .i64 0])]
noncomputable def _root_.Go.Proofs.YtlagndfhibkjpaaGreat.V.rjoin_r0 (a0:Int) (a1:Int) (a2:Int) (a3:Int) (a4:Int) (a5:Int) (b0:Int) (b1:Int) (b2:Int) (b3:Int) (b4:Int) (b5:Int):Int := if b0 < a0 then b0 else a0
noncomputable def _root_.Go.Proofs.YtlagndfhibkjpaaGreat.V.rjoin_r1 (a0:Int) (a1:Int) (a2:Int) (a3:Int) (a4:Int) (a5:Int) (b0:Int) (b1:Int) (b2:Int) (b3:Int) (b4:Int) (b5:Int):Int := if b1 < a1 then b1 else a1
noncomputable def _root_.Go.Proofs.YtlagndfhibkjpaaGreat.V.rjoin_r2 (a0:Int) (a1:Int) (a2:Int) (a3:Int) (a4:Int) (a5:Int) (b0:Int) (b1:Int) (b2:Int) (b3:Int) (b4:Int) (b5:Int):Int := if b2 < a2 then b2 else a2
noncomputable def _root_.Go.Proofs.YtlagndfhibkjpaaGreat.V.rjoin_r3 (a0:Int) (a1:Int) (a2:Int) (a3:Int) (a4:Int) (a5:Int) (b0:Int) (b1:Int) (b2:Int) (b3:Int) (b4:Int) (b5:Int):Int := if b3 > a3 then b3 else a3
noncomputable def _root_.Go.Proofs.YtlagndfhibkjpaaGreat.V.rjoin_r4 (a0:Int) (a1:Int) (a2:Int) (a3:Int) (a4:Int) (a5:Int) (b0:Int) (b1:Int) (b2:Int) (b3:Int) (b4:Int) (b5:Int):Int := if b4 > a4 then b4 else a4
noncomputable def _root_.Go.Proofs.YtlagndfhibkjpaaGreat.V.rjoin_r5 (a0:Int) (a1:Int) (a2:Int) (a3:Int) (a4:Int) (a5:Int) (b0:Int) (b1:Int) (b2:Int) (b3:Int) (b4:Int) (b5:Int):Int := if b5 > a5 then b5 else a5
theorem rjoin_val {α:Type} (a0:Int) (a1:Int) (a2:Int) (a3:Int) (a4:Int) (a5:Int) (b0:Int) (b1:Int) (b2:Int) (b3:Int) (b4:Int) (b5:Int) (k0:Int → Int → Int → Int → Int → Int → Option α):M.rjoin a0 a1 a2 a3 a4 a5 b0 b1 b2 b3 b4 b5 k0 = k0 (V.rjoin_r0 a0 a1 a2 a3 a4 a5 b0 b1 b2 b3 b4 b5) (V.rjoin_r1 a0 a1 a2 a3 a4 a5 b0 b1 b2 b3 b4 b5) (V.rjoin_r2 a0 a1 a2 a3 a4 a5 b0 b1 b2 b3 b4 b5) (V.rjoin_r3 a0 a1 a2 a3 a4 a5 b0 b1 b2 b3 b4 b5) (V.rjoin_r4 a0 a1 a2 a3 a4 a5 b0 b1 b2 b3 b4 b5) (V.rjoin_r5 a0 a1 a2 a3 a4 a5 b0 b1 b2 b3 b4 b5) := by
 unfold M.rjoin V.rjoin_r0 V.rjoin_r1 V.rjoin_r2 V.rjoin_r3 V.rjoin_r4 V.rjoin_r5
 repeat' first | rfl | (split <;> rename_i h <;> first | simp only [if_pos h] | simp only [if_neg h] | skip)
noncomputable def rjoin_c {α:Type} (ds:List D) (Q:SV → Hp → Option α):Option α :=
 dI ds fun a0 ds => dI ds fun a1 ds => dI ds fun a2 ds => dI ds fun a3 ds => dI ds fun a4 ds => dI ds fun a5 ds => dI ds fun b0 ds => dI ds fun b1 ds => dI ds fun b2 ds => dI ds fun b3 ds => dI ds fun b4 ds => dI ds fun b5 ds => dE ds (Q (SV.agg [SV.int .i64 (V.rjoin_r0 a0 a1 a2 a3 a4 a5 b0 b1 b2 b3 b4 b5),SV.int .i64 (V.rjoin_r1 a0 a1 a2 a3 a4 a5 b0 b1 b2 b3 b4 b5),SV.int .i64 (V.rjoin_r2 a0 a1 a2 a3 a4 a5 b0 b1 b2 b3 b4 b5),SV.int .i64 (V.rjoin_r3 a0 a1 a2 a3 a4 a5 b0 b1 b2 b3 b4 b5),SV.int .i64 (V.rjoin_r4 a0 a1 a2 a3 a4 a5 b0 b1 b2 b3 b4 b5),SV.int .i64 (V.rjoin_r5 a0 a1 a2 a3 a4 a5 b0 b1 b2 b3 b4 b5)]) ([]))
theorem rjoin_c_ok {α:Type}:FnOk E.P 63 (fEnt (α := α) rjoin_sp rjoin_c) :=
 fEnt_ok E (look_rgrown_ok) (exec_sound E E_ok (look_rgrown_ok) (noLps_ok _) 400) fun ds Q r h => by
   unfold rjoin_c at h
   obtain ⟨a0,ds,rfl,h1⟩ := dI_inv h
   obtain ⟨a1,ds,rfl,h2⟩ := dI_inv h1
   obtain ⟨a2,ds,rfl,h3⟩ := dI_inv h2
   obtain ⟨a3,ds,rfl,h4⟩ := dI_inv h3
   obtain ⟨a4,ds,rfl,h5⟩ := dI_inv h4
   obtain ⟨a5,ds,rfl,h6⟩ := dI_inv h5
   obtain ⟨b0,ds,rfl,h7⟩ := dI_inv h6
   obtain ⟨b1,ds,rfl,h8⟩ := dI_inv h7
   obtain ⟨b2,ds,rfl,h9⟩ := dI_inv h8
   obtain ⟨b3,ds,rfl,h10⟩ := dI_inv h9
   obtain ⟨b4,ds,rfl,h11⟩ := dI_inv h10
   obtain ⟨b5,ds,rfl,h12⟩ := dI_inv h11
   obtain ⟨rfl,hE⟩ := dE_inv h12
   exact ⟨[SV.agg [SV.int .i64 a0,SV.int .i64 a1,SV.int .i64 a2,SV.int .i64 a3,SV.int .i64 a4,SV.int .i64 a5],SV.agg [SV.int .i64 b0,SV.int .i64 b1,SV.int .i64 b2,SV.int .i64 b3,SV.int .i64 b4,SV.int .i64 b5]],[],fun vs => by kernel_rfl,(rjoin_eq a0 a1 a2 a3 a4 a5 b0 b1 b2 b3 b4 b5 Q).trans ((rjoin_val a0 a1 a2 a3 a4 a5 b0 b1 b2 b3 b4 b5 (fun (x11 x12 x13 x14 x15 x16:Int) => Q (SV.agg [SV.int .i64 x11,SV.int .i64 x12,SV.int .i64 x13,SV.int .i64 x14,SV.int .i64 x15,SV.int .i64 x16]) ([]))).trans hE)⟩
noncomputable def look_rjoin {α:Type}:LookF α := addFn 63 (fEnt rjoin_sp rjoin_c) look_rgrown
theorem look_rjoin_ok {α:Type}:LookOk E.P (look_rjoin (α := α)) := addFn_ok rjoin_c_ok (look_rgrown_ok)
noncomputable abbrev rspan_S1 (y1:Int) (y2:Value) (y3:L3) (y4:Value) (y5:L3) (y6:Value) (y7:L3) (y8 y9 y10 y11 y12 y13 y14 y15 y16 y17 y18 y19 y20:Int):St := St.mk (none :: some (SV.ptr (nat_lit 0) (nat_lit 0)) :: some (SV.ptr (nat_lit 1) (nat_lit 0)) :: some (SV.ptr (nat_lit 2) (nat_lit 0)) :: some (SV.int .i64 y1) :: nn 38 ([])) [.cells [SV.ros y2 kP y3,SV.ros y4 kP y5,SV.ros y6 kP y7,SV.int .i64 y8] (nat_lit 33),.cells [SV.int .i64 y9,SV.int .i64 y10,SV.int .i64 y11,SV.int .i64 y12,SV.int .i64 y13,SV.int .i64 y14] (nat_lit 71),.cells [SV.int .i64 y15,SV.int .i64 y16,SV.int .i64 y17,SV.int .i64 y18,SV.int .i64 y19,SV.int .i64 y20] (nat_lit 71)]
noncomputable abbrev rspan_S2 (y1:Value) (y2:L3) (y3:Value) (y4:L3) (y5:Value) (y6:L3) (y7 y8 y9 y10 y11 y12 y13 y14 y15 y16 y17 y18 y19:Int):St := St.mk (none :: some (SV.ptr (nat_lit 0) (nat_lit 0)) :: some (SV.ptr (nat_lit 1) (nat_lit 0)) :: some (SV.ptr (nat_lit 2) (nat_lit 0)) :: nn 39 ([])) [.cells [SV.ros y1 kP y2,SV.ros y3 kP y4,SV.ros y5 kP y6,SV.int .i64 y7] (nat_lit 33),.cells [SV.int .i64 y8,SV.int .i64 y9,SV.int .i64 y10,SV.int .i64 y11,SV.int .i64 y12,SV.int .i64 y13] (nat_lit 71),.cells [SV.int .i64 y14,SV.int .i64 y15,SV.int .i64 y16,SV.int .i64 y17,SV.int .i64 y18,SV.int .i64 y19] (nat_lit 71)]
noncomputable abbrev rspan_S3:St := St.mk (none :: some (SV.ptr (nat_lit 0) (nat_lit 0)) :: some (SV.ptr (nat_lit 1) (nat_lit 0)) :: some (SV.ptr (nat_lit 2) (nat_lit 0)) :: some (SV.int .i64 (0:Int)) :: nn 38 ([])) [.cells [SV.ros undef kP [],SV.ros undef kP [],SV.ros undef kP [],SV.int .i64 (0:Int)] (nat_lit 33),.cells [SV.int .i64 (0:Int),SV.int .i64 (0:Int),SV.int .i64 (0:Int),SV.int .i64 (0:Int),SV.int .i64 (0:Int),SV.int .i64 (0:Int)] (nat_lit 71),.cells [SV.int .i64 (0:Int),SV.int .i64 (0:Int),SV.int .i64 (0:Int),SV.int .i64 (0:Int),SV.int .i64 (0:Int),SV.int .i64 (0:Int)] (nat_lit 71)]
abbrev rspan_P1:List Bool := [false,true,false,true,true,true]
noncomputable def M.rspan_l0_step {α:Type} (x42:L3) (kn:Int → Int → Int → Int → Int → Int → Int → Option α) (k1:Int → Int → Int → Int → Int → Int → Option α) (x40 x54 x55 x56 x57 x58 x59:Int):Option α := if cLt x40 (↑(List.length x42):Int) = true then if (0:Int) ≤ x40 ∧ x40 < (↑(List.length x42):Int) then if (0:Int) ≤ x40 ∧ x40 < (↑(List.length x42):Int) then kn (IntKind.wrap .i64 (x40 + (1:Int))) (V.rjoin_r0 x54 x55 x56 x57 x58 x59 (Prod.fst (List.getD x42 (Int.toNat x40) ((0:Int),(0:Int),(0:Int)))) (Prod.fst (Prod.snd (List.getD x42 (Int.toNat x40) ((0:Int),(0:Int),(0:Int))))) (Prod.snd (Prod.snd (List.getD x42 (Int.toNat x40) ((0:Int),(0:Int),(0:Int))))) (Prod.fst (List.getD x42 (Int.toNat x40) ((0:Int),(0:Int),(0:Int)))) (Prod.fst (Prod.snd (List.getD x42 (Int.toNat x40) ((0:Int),(0:Int),(0:Int))))) (Prod.snd (Prod.snd (List.getD x42 (Int.toNat x40) ((0:Int),(0:Int),(0:Int)))))) (V.rjoin_r1 x54 x55 x56 x57 x58 x59 (Prod.fst (List.getD x42 (Int.toNat x40) ((0:Int),(0:Int),(0:Int)))) (Prod.fst (Prod.snd (List.getD x42 (Int.toNat x40) ((0:Int),(0:Int),(0:Int))))) (Prod.snd (Prod.snd (List.getD x42 (Int.toNat x40) ((0:Int),(0:Int),(0:Int))))) (Prod.fst (List.getD x42 (Int.toNat x40) ((0:Int),(0:Int),(0:Int)))) (Prod.fst (Prod.snd (List.getD x42 (Int.toNat x40) ((0:Int),(0:Int),(0:Int))))) (Prod.snd (Prod.snd (List.getD x42 (Int.toNat x40) ((0:Int),(0:Int),(0:Int)))))) (V.rjoin_r2 x54 x55 x56 x57 x58 x59 (Prod.fst (List.getD x42 (Int.toNat x40) ((0:Int),(0:Int),(0:Int)))) (Prod.fst (Prod.snd (List.getD x42 (Int.toNat x40) ((0:Int),(0:Int),(0:Int))))) (Prod.snd (Prod.snd (List.getD x42 (Int.toNat x40) ((0:Int),(0:Int),(0:Int))))) (Prod.fst (List.getD x42 (Int.toNat x40) ((0:Int),(0:Int),(0:Int)))) (Prod.fst (Prod.snd (List.getD x42 (Int.toNat x40) ((0:Int),(0:Int),(0:Int))))) (Prod.snd (Prod.snd (List.getD x42 (Int.toNat x40) ((0:Int),(0:Int),(0:Int)))))) (V.rjoin_r3 x54 x55 x56 x57 x58 x59 (Prod.fst (List.getD x42 (Int.toNat x40) ((0:Int),(0:Int),(0:Int)))) (Prod.fst (Prod.snd (List.getD x42 (Int.toNat x40) ((0:Int),(0:Int),(0:Int))))) (Prod.snd (Prod.snd (List.getD x42 (Int.toNat x40) ((0:Int),(0:Int),(0:Int))))) (Prod.fst (List.getD x42 (Int.toNat x40) ((0:Int),(0:Int),(0:Int)))) (Prod.fst (Prod.snd (List.getD x42 (Int.toNat x40) ((0:Int),(0:Int),(0:Int))))) (Prod.snd (Prod.snd (List.getD x42 (Int.toNat x40) ((0:Int),(0:Int),(0:Int)))))) (V.rjoin_r4 x54 x55 x56 x57 x58 x59 (Prod.fst (List.getD x42 (Int.toNat x40) ((0:Int),(0:Int),(0:Int)))) (Prod.fst (Prod.snd (List.getD x42 (Int.toNat x40) ((0:Int),(0:Int),(0:Int))))) (Prod.snd (Prod.snd (List.getD x42 (Int.toNat x40) ((0:Int),(0:Int),(0:Int))))) (Prod.fst (List.getD x42 (Int.toNat x40) ((0:Int),(0:Int),(0:Int)))) (Prod.fst (Prod.snd (List.getD x42 (Int.toNat x40) ((0:Int),(0:Int),(0:Int))))) (Prod.snd (Prod.snd (List.getD x42 (Int.toNat x40) ((0:Int),(0:Int),(0:Int)))))) (V.rjoin_r5 x54 x55 x56 x57 x58 x59 (Prod.fst (List.getD x42 (Int.toNat x40) ((0:Int),(0:Int),(0:Int)))) (Prod.fst (Prod.snd (List.getD x42 (Int.toNat x40) ((0:Int),(0:Int),(0:Int))))) (Prod.snd (Prod.snd (List.getD x42 (Int.toNat x40) ((0:Int),(0:Int),(0:Int))))) (Prod.fst (List.getD x42 (Int.toNat x40) ((0:Int),(0:Int),(0:Int)))) (Prod.fst (Prod.snd (List.getD x42 (Int.toNat x40) ((0:Int),(0:Int),(0:Int))))) (Prod.snd (Prod.snd (List.getD x42 (Int.toNat x40) ((0:Int),(0:Int),(0:Int)))))) else none else none else k1 x54 x55 x56 x57 x58 x59
noncomputable def M.rspan_l0 {α:Type} (x42:L3) (k1:Int → Int → Int → Int → Int → Int → Option α):Nat → Int → Int → Int → Int → Int → Int → Int → Option α
 | 0,_,_,_,_,_,_,_ => none
 | n + 1,x40,x54,x55,x56,x57,x58,x59 => M.rspan_l0_step x42 (M.rspan_l0 x42 k1 n) k1 x40 x54 x55 x56 x57 x58 x59
theorem rspan_l0_step_eq {α:Type} (x40:Int) (x41:Value) (x42:L3) (x43:Value) (x44:L3) (x45:Value) (x46:L3) (x47 x48 x49 x50 x51 x52 x53 x54 x55 x56 x57 x58 x59:Int) (Q:Ex → St → Option α):(loopStep E (exec E look_rjoin noLps 400) 27 rspan_P1 0 (codeAt E.P 27 rspan_P1)) (rspan_S1 x40 x41 x42 x43 x44 x45 x46 x47 x48 x49 x50 x51 x52 x53 x54 x55 x56 x57 x58 x59) Q = M.rspan_l0_step x42 (fun (x66 x67 x68 x69 x70 x71 x72:Int) => Q .normal (rspan_S1 x66 x41 x42 x43 x44 x45 x46 x47 x48 x49 x50 x51 x52 x53 x67 x68 x69 x70 x71 x72)) (fun (x60 x61 x62 x63 x64 x65:Int) => Q (.exit 0) (rspan_S2 x41 x42 x43 x44 x45 x46 x47 x48 x49 x50 x51 x52 x53 x60 x61 x62 x63 x64 x65)) x40 x54 x55 x56 x57 x58 x59 := by kernel_rfl
theorem rspan_l0_iter {α:Type} (x41:Value) (x42:L3) (x43:Value) (x44:L3) (x45:Value) (x46:L3) (x47 x48 x49 x50 x51 x52 x53:Int) (Q:Ex → St → Option α):∀ (n:Nat) (x40 x54 x55 x56 x57 x58 x59:Int),iter (loopStep E (exec E look_rjoin noLps 400) 27 rspan_P1 0 (codeAt E.P 27 rspan_P1)) n (rspan_S1 x40 x41 x42 x43 x44 x45 x46 x47 x48 x49 x50 x51 x52 x53 x54 x55 x56 x57 x58 x59) Q = M.rspan_l0 x42 (fun (x60 x61 x62 x63 x64 x65:Int) => Q (.exit 0) (rspan_S2 x41 x42 x43 x44 x45 x46 x47 x48 x49 x50 x51 x52 x53 x60 x61 x62 x63 x64 x65)) n x40 x54 x55 x56 x57 x58 x59
 | 0,_,_,_,_,_,_,_ => rfl
 | n + 1,x40,x54,x55,x56,x57,x58,x59 => (rspan_l0_step_eq x40 x41 x42 x43 x44 x45 x46 x47 x48 x49 x50 x51 x52 x53 x54 x55 x56 x57 x58 x59 (iterK (loopStep E (exec E look_rjoin noLps 400) 27 rspan_P1 0 (codeAt E.P 27 rspan_P1)) n Q)).trans (congrArg (fun kn => M.rspan_l0_step x42 kn (fun (x60 x61 x62 x63 x64 x65:Int) => Q (.exit 0) (rspan_S2 x41 x42 x43 x44 x45 x46 x47 x48 x49 x50 x51 x52 x53 x60 x61 x62 x63 x64 x65)) x40 x54 x55 x56 x57 x58 x59) (funext fun x40 => funext fun x54 => funext fun x55 => funext fun x56 => funext fun x57 => funext fun x58 => funext fun x59 => rspan_l0_iter x41 x42 x43 x44 x45 x46 x47 x48 x49 x50 x51 x52 x53 Q n x40 x54 x55 x56 x57 x58 x59))
noncomputable def rspan_l0_go {α:Type} (ds:List D) (Q:Ex → St → Option α):Option α :=
 dI ds fun x40 ds => dV ds fun x41 ds => dL kP ds fun x42 ds => dV ds fun x43 ds => dL kP ds fun x44 ds => dV ds fun x45 ds => dL kP ds fun x46 ds => dI ds fun x47 ds => dI ds fun x48 ds => dI ds fun x49 ds => dI ds fun x50 ds => dI ds fun x51 ds => dI ds fun x52 ds => dI ds fun x53 ds => dI ds fun x54 ds => dI ds fun x55 ds => dI ds fun x56 ds => dI ds fun x57 ds => dI ds fun x58 ds => dI ds fun x59 ds => dE ds (M.rspan_l0 x42 (fun (x60 x61 x62 x63 x64 x65:Int) => Q (.exit 0) (rspan_S2 x41 x42 x43 x44 x45 x46 x47 x48 x49 x50 x51 x52 x53 x60 x61 x62 x63 x64 x65)) (100 + x42.length + x44.length + x46.length) x40 x54 x55 x56 x57 x58 x59)
theorem rspan_l0_ok {α:Type}:LoopOk E.P 27 rspan_P1 0 (lEnt (α := α) (rspan_S3) rspan_l0_go) :=
 lEnt_ok E (exec_sound E E_ok (look_rjoin_ok) (noLps_ok _) 400) fun ds Q r h S hS => by
   unfold rspan_l0_go at h
   obtain ⟨x40,ds,rfl,h1⟩ := dI_inv h
   obtain ⟨x41,ds,rfl,h2⟩ := dV_inv h1
   obtain ⟨x42,ds,rfl,h3⟩ := dL_inv h2
   obtain ⟨x43,ds,rfl,h4⟩ := dV_inv h3
   obtain ⟨x44,ds,rfl,h5⟩ := dL_inv h4
   obtain ⟨x45,ds,rfl,h6⟩ := dV_inv h5
   obtain ⟨x46,ds,rfl,h7⟩ := dL_inv h6
   obtain ⟨x47,ds,rfl,h8⟩ := dI_inv h7
   obtain ⟨x48,ds,rfl,h9⟩ := dI_inv h8
   obtain ⟨x49,ds,rfl,h10⟩ := dI_inv h9
   obtain ⟨x50,ds,rfl,h11⟩ := dI_inv h10
   obtain ⟨x51,ds,rfl,h12⟩ := dI_inv h11
   obtain ⟨x52,ds,rfl,h13⟩ := dI_inv h12
   obtain ⟨x53,ds,rfl,h14⟩ := dI_inv h13
   obtain ⟨x54,ds,rfl,h15⟩ := dI_inv h14
   obtain ⟨x55,ds,rfl,h16⟩ := dI_inv h15
   obtain ⟨x56,ds,rfl,h17⟩ := dI_inv h16
   obtain ⟨x57,ds,rfl,h18⟩ := dI_inv h17
   obtain ⟨x58,ds,rfl,h19⟩ := dI_inv h18
   obtain ⟨x59,ds,rfl,h20⟩ := dI_inv h19
   obtain ⟨rfl,hE⟩ := dE_inv h20
   have e:fillS (rspan_S3) [.i x40,.v x41,.l kP x42,.v x43,.l kP x44,.v x45,.l kP x46,.i x47,.i x48,.i x49,.i x50,.i x51,.i x52,.i x53,.i x54,.i x55,.i x56,.i x57,.i x58,.i x59] = some (rspan_S1 x40 x41 x42 x43 x44 x45 x46 x47 x48 x49 x50 x51 x52 x53 x54 x55 x56 x57 x58 x59) := by kernel_rfl
   rw [e] at hS
   cases hS
   exact ⟨_,(rspan_l0_iter x41 x42 x43 x44 x45 x46 x47 x48 x49 x50 x51 x52 x53 Q _ x40 x54 x55 x56 x57 x58 x59).trans hE⟩
noncomputable def rspan_l0_lps {α:Type}:LookL α := addLp 27 rspan_P1 0 (lEnt (rspan_S3) rspan_l0_go) noLps
theorem rspan_l0_lps_ok {α:Type}:LoopsOk E.P (rspan_l0_lps (α := α)) := addLp_ok rspan_l0_ok (noLps_ok _)
noncomputable def M.rspan {α:Type} (l:L3) (ax:L3) (ed:L3) (r:Int) (k0:Int → Int → Int → Int → Int → Int → Option α):Option α := if cEq (↑(List.length l):Int) (0:Int) = true then k0 (0:Int) (0:Int) (0:Int) (0:Int) (0:Int) (0:Int) else if (0:Int) ≤ (0:Int) ∧ (0:Int) < (↑(List.length l):Int) then if (0:Int) ≤ (0:Int) ∧ (0:Int) < (↑(List.length l):Int) then M.rspan_l0 l (fun (x76 x77 x78 x79 x80 x81:Int) ↦ k0 (V.rgrown_r0 x76 x77 x78 x79 x80 x81 r) (V.rgrown_r1 x76 x77 x78 x79 x80 x81 r) (V.rgrown_r2 x76 x77 x78 x79 x80 x81 r) (V.rgrown_r3 x76 x77 x78 x79 x80 x81 r) (V.rgrown_r4 x76 x77 x78 x79 x80 x81 r) (V.rgrown_r5 x76 x77 x78 x79 x80 x81 r)) ((100:Nat) + List.length l + List.length ax + List.length ed) (0:Int) (Prod.fst (List.getD l (0:Nat) ((0:Int),(0:Int),(0:Int)))) (Prod.fst (Prod.snd (List.getD l (0:Nat) ((0:Int),(0:Int),(0:Int))))) (Prod.snd (Prod.snd (List.getD l (0:Nat) ((0:Int),(0:Int),(0:Int))))) (Prod.fst (List.getD l (0:Nat) ((0:Int),(0:Int),(0:Int)))) (Prod.fst (Prod.snd (List.getD l (0:Nat) ((0:Int),(0:Int),(0:Int))))) (Prod.snd (Prod.snd (List.getD l (0:Nat) ((0:Int),(0:Int),(0:Int))))) else none else none
theorem rspan_eq {α:Type} (l:L3) (ax:L3) (ed:L3) (r:Int) (v73:Value) (v74:Value) (v75:Value) (Q:SV → Hp → Option α):callI E look_rjoin (exec E look_rjoin rspan_l0_lps 400) 27 ([SV.agg [SV.ros v73 kP l,SV.ros v74 kP ax,SV.ros v75 kP ed,SV.int .i64 r]]) ([]) Q = M.rspan l ax ed r (fun (x82 x83 x84 x85 x86 x87:Int) => Q (SV.agg [SV.int .i64 x82,SV.int .i64 x83,SV.int .i64 x84,SV.int .i64 x85,SV.int .i64 x86,SV.int .i64 x87]) ([])) := by kernel_rfl
def rspan_sp:List AS := [.st [.ro kP,.ro kP,.ro kP,.leaf (.int .i64 0)]]
theorem rspan_l0_val {α:Type} (T:List P3) (hT:T.length < 1099511627776) (k1:Int → Int → Int → Int → Int → Int → Option α):∀ (fuel i:Nat) (a b c d e g:Int),i ≤ T.length → T.length - i < fuel →
   M.rspan_l0 T k1 fuel (i:Int) a b c d e g = k1 (loF (fun p => p.1) (T.drop i) a) (loF (fun p => p.2.1) (T.drop i) b) (loF (fun p => p.2.2) (T.drop i) c) (hiF (fun p => p.1) (T.drop i) d) (hiF (fun p => p.2.1) (T.drop i) e) (hiF (fun p => p.2.2) (T.drop i) g)
 | 0,i,a,b,c,d,e,g,h1,h2 => by omega
 | f + 1,i,a,b,c,d,e,g,h1,h2 => by
   unfold M.rspan_l0 M.rspan_l0_step
   rw [cLt_nat]
   by_cases hi:i < T.length
   · rw [if_pos (by simpa using hi),if_pos (by omega),if_pos (by omega),w_next (by omega),rspan_l0_val T hT k1 f (i + 1) _ _ _ _ _ _ (by omega) (by omega),drop_pt T i hi]
     rfl
   · have : i = T.length := by omega
     subst this
     rw [if_neg (by simp)]
     simp [loF,hiF]
theorem rspan_v {α:Type} (l ax ed:List P3) (r:Int) (hg:V.lenB l.length = true) (k0:Int → Int → Int → Int → Int → Int → Option α) :
   M.rspan l ax ed r k0 = k0 (V.spn l r).1 (V.spn l r).2.1 (V.spn l r).2.2.1 (V.spn l r).2.2.2.1 (V.spn l r).2.2.2.2.1 (V.spn l r).2.2.2.2.2 := by
 have hl := lenB_lt hg
 unfold M.rspan V.spn
 rw [hid_eq,cEq_eq]
 unfold spnP
 by_cases h0:l.length = 0
 · rw [if_pos (by simpa using h0),if_pos h0]
 · rw [if_neg (by simpa using h0), if_neg h0, if_pos (by omega), if_pos (by omega)]
   refine Eq.trans (rspan_l0_val l hl _ _ 0 _ _ _ _ _ _ (by omega) (by omega)) ?_
   rw [List.drop_zero]
   rfl
noncomputable def rspan_h {α:Type} (ds:List D) (Q:SV → Hp → Option α):Option α :=
 dL kP ds fun l ds => dL kP ds fun ax ds => dL kP ds fun ed ds => dI ds fun r ds => dE ds (if V.lenB l.length = true then Q (.agg [.int .i64 (V.spn l r).1,.int .i64 (V.spn l r).2.1,.int .i64 (V.spn l r).2.2.1,.int .i64 (V.spn l r).2.2.2.1,.int .i64 (V.spn l r).2.2.2.2.1,.int .i64 (V.spn l r).2.2.2.2.2]) ([]) else none)
theorem rspan_h_ok {α:Type}:FnOk E.P 27 (fEnt (α := α) rspan_sp rspan_h) :=
 fEntR_ok E (look_rjoin_ok) (exec_sound E E_ok (look_rjoin_ok) (rspan_l0_lps_ok) 400) fun ds Q r h => by
   unfold rspan_h at h
   obtain ⟨l,ds,rfl,h1⟩ := dL_inv h
   obtain ⟨ax,ds,rfl,h2⟩ := dL_inv h1
   obtain ⟨ed,ds,rfl,h3⟩ := dL_inv h2
   obtain ⟨r,ds,rfl,h4⟩ := dI_inv h3
   obtain ⟨rfl,hE⟩ := dE_inv h4
   split at hE
   · rename_i hg
     exact ⟨_,_,hE,fun vs => ⟨_,_,by kernel_rfl,(rspan_eq l ax ed r ((cellsV (vs.headD undef)).headD undef) ((cellsV (vs.headD undef)).tail.headD undef) ((cellsV (vs.headD undef)).tail.tail.headD undef) _).trans (rspan_v l ax ed r hg _)⟩⟩
   · cases hE
noncomputable def look_rspan {α:Type}:LookF α := addFn 27 (fEnt rspan_sp rspan_h) look_rjoin
theorem look_rspan_ok {α:Type}:LookOk E.P (look_rspan (α := α)) := addFn_ok rspan_h_ok (look_rjoin_ok)
noncomputable abbrev rmoved_S1 (y1:Int) (y2:Value) (y3:L3) (y4:Value) (y5:L3) (y6:Value) (y7:L3) (y8 y9 y10 y11 y12:Int) (y13 y14 y15:L3) (y16:Int) (y17 y18 y19:L3):St := St.mk (none :: none :: some (SV.ptr (nat_lit 0) (nat_lit 0)) :: some (SV.ptr (nat_lit 1) (nat_lit 0)) :: some (SV.ptr (nat_lit 2) (nat_lit 0)) :: some (SV.ptr (nat_lit 6) (nat_lit 0)) :: some (SV.int .i64 y1) :: nn 50 ([])) [.cells [SV.ros y2 kP y3,SV.ros y4 kP y5,SV.ros y6 kP y7,SV.int .i64 y8] (nat_lit 33),.cells [SV.int .i64 y9,SV.int .i64 y10,SV.int .i64 y11] (nat_lit 23),.cells [SV.sl (nat_lit 3),SV.sl (nat_lit 4),SV.sl (nat_lit 5),SV.int .i64 y12] (nat_lit 33),.seq kP y13 (nat_lit 23),.seq kP y14 (nat_lit 23),.seq kP y15 (nat_lit 23),.cells [SV.sl (nat_lit 7),SV.sl (nat_lit 8),SV.sl (nat_lit 9),SV.int .i64 y16] (nat_lit 33),.seq kP y17 (nat_lit 23),.seq kP y18 (nat_lit 23),.seq kP y19 (nat_lit 23)]
noncomputable abbrev rmoved_S2 (y1:Value) (y2:L3) (y3:Value) (y4:L3) (y5:Value) (y6:L3) (y7 y8:Int) (y9 y10 y11:L3) (y12:Int) (y13 y14 y15:L3):St := St.mk (none :: none :: some (SV.ptr (nat_lit 0) (nat_lit 0)) :: none :: some (SV.ptr (nat_lit 1) (nat_lit 0)) :: some (SV.ptr (nat_lit 5) (nat_lit 0)) :: nn 51 ([])) [.cells [SV.ros y1 kP y2,SV.ros y3 kP y4,SV.ros y5 kP y6,SV.int .i64 y7] (nat_lit 33),.cells [SV.sl (nat_lit 2),SV.sl (nat_lit 3),SV.sl (nat_lit 4),SV.int .i64 y8] (nat_lit 33),.seq kP y9 (nat_lit 23),.seq kP y10 (nat_lit 23),.seq kP y11 (nat_lit 23),.cells [SV.sl (nat_lit 6),SV.sl (nat_lit 7),SV.sl (nat_lit 8),SV.int .i64 y12] (nat_lit 33),.seq kP y13 (nat_lit 23),.seq kP y14 (nat_lit 23),.seq kP y15 (nat_lit 23)]
noncomputable abbrev rmoved_S3:St := St.mk (none :: none :: some (SV.ptr (nat_lit 0) (nat_lit 0)) :: some (SV.ptr (nat_lit 1) (nat_lit 0)) :: some (SV.ptr (nat_lit 2) (nat_lit 0)) :: some (SV.ptr (nat_lit 6) (nat_lit 0)) :: some (SV.int .i64 (0:Int)) :: nn 50 ([])) [.cells [SV.ros undef kP [],SV.ros undef kP [],SV.ros undef kP [],SV.int .i64 (0:Int)] (nat_lit 33),.cells [SV.int .i64 (0:Int),SV.int .i64 (0:Int),SV.int .i64 (0:Int)] (nat_lit 23),.cells [SV.sl (nat_lit 3),SV.sl (nat_lit 4),SV.sl (nat_lit 5),SV.int .i64 (0:Int)] (nat_lit 33),.seq kP [] (nat_lit 23),.seq kP [] (nat_lit 23),.seq kP [] (nat_lit 23),.cells [SV.sl (nat_lit 7),SV.sl (nat_lit 8),SV.sl (nat_lit 9),SV.int .i64 (0:Int)] (nat_lit 33),.seq kP [] (nat_lit 23),.seq kP [] (nat_lit 23),.seq kP [] (nat_lit 23)]
noncomputable def M.rmoved_l0_step {α:Type} (x112:L3) (x118 x119 x120:Int) (kn:Int → L3 → Option α) (k1:L3 → Option α) (x110:Int) (x126:L3):Option α := if cLt x110 (↑(List.length x112):Int) = true then if (0:Int) ≤ x110 ∧ x110 < (↑(List.length x112):Int) then if (List.length x126 + ((0:Nat) + (1:Nat))) * (24:Nat) ≤ (140737488355328:Nat) then kn (IntKind.wrap .i64 (x110 + (1:Int))) (x126 ++ [(IntKind.wrap .i64 (Prod.fst (List.getD x112 (Int.toNat x110) ((0:Int),(0:Int),(0:Int))) + x118),IntKind.wrap .i64 (Prod.fst (Prod.snd (List.getD x112 (Int.toNat x110) ((0:Int),(0:Int),(0:Int)))) + x119),IntKind.wrap .i64 (Prod.snd (Prod.snd (List.getD x112 (Int.toNat x110) ((0:Int),(0:Int),(0:Int)))) + x120))]) else none else none else k1 x126
noncomputable def M.rmoved_l0 {α:Type} (x112:L3) (x118 x119 x120:Int) (k1:L3 → Option α):Nat → Int → L3 → Option α
 | 0,_,_ => none
 | n + 1,x110,x126 => M.rmoved_l0_step x112 x118 x119 x120 (M.rmoved_l0 x112 x118 x119 x120 k1 n) k1 x110 x126
theorem rmoved_l0_step_eq {α:Type} (x110:Int) (x111:Value) (x112:L3) (x113:Value) (x114:L3) (x115:Value) (x116:L3) (x117 x118 x119 x120 x121:Int) (x122 x123 x124:L3) (x125:Int) (x126 x127 x128:L3) (Q:Ex → St → Option α):(loopStep E (exec E look_rspan noLps 400) 23 [false,true,false,true,true] 0 (codeAt E.P 23 [false,true,false,true,true])) (rmoved_S1 x110 x111 x112 x113 x114 x115 x116 x117 x118 x119 x120 x121 x122 x123 x124 x125 x126 x127 x128) Q = M.rmoved_l0_step x112 x118 x119 x120 (fun (x130:Int) (x131:L3) => Q .normal (rmoved_S1 x130 x111 x112 x113 x114 x115 x116 x117 x118 x119 x120 x121 x122 x123 x124 x125 x131 x127 x128)) (fun (x129:L3) => Q (.exit 0) (rmoved_S2 x111 x112 x113 x114 x115 x116 x117 x121 x122 x123 x124 x125 x129 x127 x128)) x110 x126 := by kernel_rfl
theorem rmoved_l0_iter {α:Type} (x111:Value) (x112:L3) (x113:Value) (x114:L3) (x115:Value) (x116:L3) (x117 x118 x119 x120 x121:Int) (x122 x123 x124:L3) (x125:Int) (x127 x128:L3) (Q:Ex → St → Option α):∀ (n:Nat) (x110:Int) (x126:L3),iter (loopStep E (exec E look_rspan noLps 400) 23 [false,true,false,true,true] 0 (codeAt E.P 23 [false,true,false,true,true])) n (rmoved_S1 x110 x111 x112 x113 x114 x115 x116 x117 x118 x119 x120 x121 x122 x123 x124 x125 x126 x127 x128) Q = M.rmoved_l0 x112 x118 x119 x120 (fun (x129:L3) => Q (.exit 0) (rmoved_S2 x111 x112 x113 x114 x115 x116 x117 x121 x122 x123 x124 x125 x129 x127 x128)) n x110 x126
 | 0,_,_ => rfl
 | n + 1,x110,x126 => (rmoved_l0_step_eq x110 x111 x112 x113 x114 x115 x116 x117 x118 x119 x120 x121 x122 x123 x124 x125 x126 x127 x128 (iterK (loopStep E (exec E look_rspan noLps 400) 23 [false,true,false,true,true] 0 (codeAt E.P 23 [false,true,false,true,true])) n Q)).trans (congrArg (fun kn => M.rmoved_l0_step x112 x118 x119 x120 kn (fun (x129:L3) => Q (.exit 0) (rmoved_S2 x111 x112 x113 x114 x115 x116 x117 x121 x122 x123 x124 x125 x129 x127 x128)) x110 x126) (funext fun x110 => funext fun x126 => rmoved_l0_iter x111 x112 x113 x114 x115 x116 x117 x118 x119 x120 x121 x122 x123 x124 x125 x127 x128 Q n x110 x126))
noncomputable def rmoved_l0_go {α:Type} (ds:List D) (Q:Ex → St → Option α):Option α :=
 dI ds fun x110 ds => dV ds fun x111 ds => dL kP ds fun x112 ds => dV ds fun x113 ds => dL kP ds fun x114 ds => dV ds fun x115 ds => dL kP ds fun x116 ds => dI ds fun x117 ds => dI ds fun x118 ds => dI ds fun x119 ds => dI ds fun x120 ds => dI ds fun x121 ds => dL kP ds fun x122 ds => dL kP ds fun x123 ds => dL kP ds fun x124 ds => dI ds fun x125 ds => dL kP ds fun x126 ds => dL kP ds fun x127 ds => dL kP ds fun x128 ds => dE ds (M.rmoved_l0 x112 x118 x119 x120 (fun (x129:L3) => Q (.exit 0) (rmoved_S2 x111 x112 x113 x114 x115 x116 x117 x121 x122 x123 x124 x125 x129 x127 x128)) (100 + x112.length + x114.length + x116.length + x122.length + x123.length + x124.length + x126.length + x127.length + x128.length) x110 x126)
theorem rmoved_l0_ok {α:Type}:LoopOk E.P 23 [false,true,false,true,true] 0 (lEnt (α := α) (rmoved_S3) rmoved_l0_go) :=
 lEnt_ok E (exec_sound E E_ok (look_rspan_ok) (noLps_ok _) 400) fun ds Q r h S hS => by
   unfold rmoved_l0_go at h
   obtain ⟨x110,ds,rfl,h1⟩ := dI_inv h
   obtain ⟨x111,ds,rfl,h2⟩ := dV_inv h1
   obtain ⟨x112,ds,rfl,h3⟩ := dL_inv h2
   obtain ⟨x113,ds,rfl,h4⟩ := dV_inv h3
   obtain ⟨x114,ds,rfl,h5⟩ := dL_inv h4
   obtain ⟨x115,ds,rfl,h6⟩ := dV_inv h5
   obtain ⟨x116,ds,rfl,h7⟩ := dL_inv h6
   obtain ⟨x117,ds,rfl,h8⟩ := dI_inv h7
   obtain ⟨x118,ds,rfl,h9⟩ := dI_inv h8
   obtain ⟨x119,ds,rfl,h10⟩ := dI_inv h9
   obtain ⟨x120,ds,rfl,h11⟩ := dI_inv h10
   obtain ⟨x121,ds,rfl,h12⟩ := dI_inv h11
   obtain ⟨x122,ds,rfl,h13⟩ := dL_inv h12
   obtain ⟨x123,ds,rfl,h14⟩ := dL_inv h13
   obtain ⟨x124,ds,rfl,h15⟩ := dL_inv h14
   obtain ⟨x125,ds,rfl,h16⟩ := dI_inv h15
   obtain ⟨x126,ds,rfl,h17⟩ := dL_inv h16
   obtain ⟨x127,ds,rfl,h18⟩ := dL_inv h17
   obtain ⟨x128,ds,rfl,h19⟩ := dL_inv h18
   obtain ⟨rfl,hE⟩ := dE_inv h19
   have e:fillS (rmoved_S3) [.i x110,.v x111,.l kP x112,.v x113,.l kP x114,.v x115,.l kP x116,.i x117,.i x118,.i x119,.i x120,.i x121,.l kP x122,.l kP x123,.l kP x124,.i x125,.l kP x126,.l kP x127,.l kP x128] = some (rmoved_S1 x110 x111 x112 x113 x114 x115 x116 x117 x118 x119 x120 x121 x122 x123 x124 x125 x126 x127 x128) := by kernel_rfl
   rw [e] at hS
   cases hS
   exact ⟨_,(rmoved_l0_iter x111 x112 x113 x114 x115 x116 x117 x118 x119 x120 x121 x122 x123 x124 x125 x127 x128 Q _ x110 x126).trans hE⟩
noncomputable def rmoved_l0_lps {α:Type}:LookL α := addLp 23 [false,true,false,true,true] 0 (lEnt (rmoved_S3) rmoved_l0_go) noLps
theorem rmoved_l0_lps_ok {α:Type}:LoopsOk E.P (rmoved_l0_lps (α := α)) := addLp_ok rmoved_l0_ok (noLps_ok _)
noncomputable def M.rmoved {α:Type} (l:L3) (ax:L3) (ed:L3) (r:Int) (x:Int) (y:Int) (z:Int) (k0:Int → L3 → L3 → L3 → Option α):Option α := M.rmoved_l0 l x y z (fun (x135:L3) ↦ if ((0:Nat) + List.length ax) * (24:Nat) ≤ (140737488355328:Nat) then if ((0:Nat) + List.length ed) * (24:Nat) ≤ (140737488355328:Nat) then k0 r x135 ([] ++ ax) ([] ++ ed) else none else none) ((100:Nat) + List.length l + List.length ax + List.length ed + (0:Nat) + (0:Nat) + (0:Nat) + (0:Nat) + (0:Nat) + (0:Nat)) (0:Int) []
theorem rmoved_eq {α:Type} (l:L3) (ax:L3) (ed:L3) (r:Int) (x:Int) (y:Int) (z:Int) (v132:Value) (v133:Value) (v134:Value) (Q:SV → Hp → Option α):callI E look_rspan (exec E look_rspan rmoved_l0_lps 400) 23 ([SV.agg [SV.ros v132 kP l,SV.ros v133 kP ax,SV.ros v134 kP ed,SV.int .i64 r],SV.agg [SV.int .i64 x,SV.int .i64 y,SV.int .i64 z]]) ([]) Q = M.rmoved l ax ed r x y z (fun (x136:Int) (x137 x138 x139:L3) => Q (SV.agg [SV.sl (nat_lit 0),SV.sl (nat_lit 1),SV.sl (nat_lit 2),SV.int .i64 x136]) ([.seq kP x137 (nat_lit 23),.seq kP x138 (nat_lit 23),.seq kP x139 (nat_lit 23)])) := by kernel_rfl
def rmoved_sp:List AS := [.st [.ro kP,.ro kP,.ro kP,.leaf (.int .i64 0)],.val (.agg [.int .i64 0,.int .i64 0,.int .i64 0])]
theorem rmoved_l0_val {α:Type} (l:List P3) (hl:l.length < 1099511627776) (x y z:Int) (k1:List P3 → Option α):∀ (fuel i:Nat) (acc:List P3),i ≤ l.length → l.length - i < fuel → acc.length ≤ i →
   M.rmoved_l0 l x y z k1 fuel (i:Int) acc = k1 (acc ++ (l.drop i).map (movP (x,y,z)))
 | 0,i,acc,h1,h2,h3 => by omega
 | f + 1,i,acc,h1,h2,h3 => by
   unfold M.rmoved_l0 M.rmoved_l0_step
   rw [cLt_nat]
   by_cases hi:i < l.length
   · rw [if_pos (by simpa using hi),if_pos (by omega),if_pos (by omega),w_next (by omega),rmoved_l0_val l hl x y z k1 f (i + 1) _ (by omega) (by omega) (by rw [List.length_append,List.length_singleton]; omega),drop_pt l i hi,List.map_cons,List.append_assoc]
     rfl
   · have : i = l.length := by omega
     subst this
     rw [if_neg (by simp)]
     simp
theorem rmoved_v {α:Type} (l ax ed:List P3) (r x y z:Int) (h1:V.lenB l.length = true) (h2:V.lenB ax.length = true) (h3:V.lenB ed.length = true) (k0:Int → List P3 → List P3 → List P3 → Option α) :
   M.rmoved l ax ed r x y z k0 = k0 r (V.mvd l (x,y,z)) ax ed := by
 unfold M.rmoved V.mvd
 have h2' := lenB_lt h2
 have h3' := lenB_lt h3
 rw [hid_eq]
 refine Eq.trans (rmoved_l0_val l (lenB_lt h1) x y z _ _ 0 [] (by omega) (by omega) (by simp)) ?_
 rw [if_pos (by omega),if_pos (by omega)]
 simp
noncomputable def rmoved_h {α:Type} (ds:List D) (Q:SV → Hp → Option α):Option α :=
 dL kP ds fun l ds => dL kP ds fun ax ds => dL kP ds fun ed ds => dI ds fun r ds => dI ds fun x ds => dI ds fun y ds => dI ds fun z ds => dE ds (if V.lenB l.length = true ∧ V.lenB ax.length = true ∧ V.lenB ed.length = true then Q (.agg [.sl 0,.sl 1,.sl 2,.int .i64 r]) ([.seq (.st (.i .i64) [.i .i64,.i .i64]) (V.mvd l (x,y,z)) 23,.seq (.st (.i .i64) [.i .i64,.i .i64]) ax 23,.seq (.st (.i .i64) [.i .i64,.i .i64]) ed 23]) else none)
theorem rmoved_h_ok {α:Type}:FnOk E.P 23 (fEnt (α := α) rmoved_sp rmoved_h) :=
 fEntR_ok E (look_rspan_ok) (exec_sound E E_ok (look_rspan_ok) (rmoved_l0_lps_ok) 400) fun ds Q r h => by
   unfold rmoved_h at h
   obtain ⟨l,ds,rfl,h1⟩ := dL_inv h
   obtain ⟨ax,ds,rfl,h2⟩ := dL_inv h1
   obtain ⟨ed,ds,rfl,h3⟩ := dL_inv h2
   obtain ⟨r,ds,rfl,h4⟩ := dI_inv h3
   obtain ⟨x,ds,rfl,h5⟩ := dI_inv h4
   obtain ⟨y,ds,rfl,h6⟩ := dI_inv h5
   obtain ⟨z,ds,rfl,h7⟩ := dI_inv h6
   obtain ⟨rfl,hE⟩ := dE_inv h7
   split at hE
   · rename_i hg
     exact ⟨_,_,hE,fun vs => ⟨_,_,by kernel_rfl,(rmoved_eq l ax ed r x y z ((cellsV (vs.headD undef)).headD undef) ((cellsV (vs.headD undef)).tail.headD undef) ((cellsV (vs.headD undef)).tail.tail.headD undef) _).trans (rmoved_v l ax ed r x y z hg.1 hg.2.1 hg.2.2 _)⟩⟩
   · cases hE
noncomputable def look_rmoved {α:Type}:LookF α := addFn 23 (fEnt rmoved_sp rmoved_h) look_rspan
theorem look_rmoved_ok {α:Type}:LookOk E.P (look_rmoved (α := α)) := addFn_ok rmoved_h_ok (look_rspan_ok)
noncomputable abbrev rways_S1 (y1:Value) (y2:L3) (y3:Int) (y4 y5:Bool) (y6 y7 y8 y9 y10 y11 y12 y13 y14:Int) (y15:L3) (y16 y17 y18:Int):St := St.mk (some (SV.ptr (nat_lit 0) (nat_lit 0)) :: none :: some (SV.ros y1 kP y2) :: none :: some (SV.ptr (nat_lit 1) (nat_lit 0)) :: nn 3 (some (SV.sl (nat_lit 2)) :: some (SV.int .i64 y3) :: none :: some (SV.ptr (nat_lit 3) (nat_lit 0)) :: some (SV.bool y4) :: nn 63 ([]))) [.cells [SV.bool y5] (nat_lit 64),.cells [SV.int .i64 y6,SV.int .i64 y7,SV.int .i64 y8,SV.int .i64 y9,SV.int .i64 y10,SV.int .i64 y11,SV.int .i64 y12,SV.int .i64 y13,SV.int .i64 y14] (nat_lit 52),.seq kP y15 (nat_lit 23),.cells [SV.int .i64 y16,SV.int .i64 y17,SV.int .i64 y18] (nat_lit 23)]
noncomputable abbrev rways_S2 (y1:Value) (y2:L3) (y3:Int) (y4:Bool) (y5 y6 y7 y8 y9 y10 y11 y12 y13:Int) (y14:L3) (y15 y16 y17:Int):St := St.mk (some (SV.ptr (nat_lit 0) (nat_lit 0)) :: none :: some (SV.ros y1 kP y2) :: none :: some (SV.ptr (nat_lit 1) (nat_lit 0)) :: nn 3 (some (SV.sl (nat_lit 2)) :: some (SV.int .i64 y3) :: none :: some (SV.ptr (nat_lit 3) (nat_lit 0)) :: nn 64 ([]))) [.cells [SV.bool y4] (nat_lit 64),.cells [SV.int .i64 y5,SV.int .i64 y6,SV.int .i64 y7,SV.int .i64 y8,SV.int .i64 y9,SV.int .i64 y10,SV.int .i64 y11,SV.int .i64 y12,SV.int .i64 y13] (nat_lit 52),.seq kP y14 (nat_lit 23),.cells [SV.int .i64 y15,SV.int .i64 y16,SV.int .i64 y17] (nat_lit 23)]
noncomputable abbrev rways_S3:St := St.mk (some (SV.ptr (nat_lit 0) (nat_lit 0)) :: none :: some (SV.ros undef kP []) :: none :: some (SV.ptr (nat_lit 1) (nat_lit 0)) :: nn 3 (some (SV.sl (nat_lit 2)) :: some (SV.int .i64 (0:Int)) :: none :: some (SV.ptr (nat_lit 3) (nat_lit 0)) :: some (SV.bool false) :: nn 63 ([]))) [.cells [SV.bool false] (nat_lit 64),.cells [SV.int .i64 (0:Int),SV.int .i64 (0:Int),SV.int .i64 (0:Int),SV.int .i64 (0:Int),SV.int .i64 (0:Int),SV.int .i64 (0:Int),SV.int .i64 (0:Int),SV.int .i64 (0:Int),SV.int .i64 (0:Int)] (nat_lit 52),.seq kP [] (nat_lit 23),.cells [SV.int .i64 (0:Int),SV.int .i64 (0:Int),SV.int .i64 (0:Int)] (nat_lit 23)]
noncomputable abbrev rways_S4 (y1:Value) (y2:L3) (y3:Int) (y4:Bool) (y5 y6 y7 y8 y9 y10 y11 y12 y13:Int) (y14:L3):St := St.mk (some (SV.ptr (nat_lit 0) (nat_lit 0)) :: none :: some (SV.ros y1 kP y2) :: none :: some (SV.ptr (nat_lit 1) (nat_lit 0)) :: nn 3 (some (SV.sl (nat_lit 2)) :: some (SV.int .i64 y3) :: nn 66 ([]))) [.cells [SV.bool y4] (nat_lit 64),.cells [SV.int .i64 y5,SV.int .i64 y6,SV.int .i64 y7,SV.int .i64 y8,SV.int .i64 y9,SV.int .i64 y10,SV.int .i64 y11,SV.int .i64 y12,SV.int .i64 y13] (nat_lit 52),.seq kP y14 (nat_lit 23)]
noncomputable abbrev rways_S5 (y1:Bool) (y2:L3):St := St.mk (nn 6 (some (SV.sl (nat_lit 1)) :: some (SV.bool false) :: some (SV.sl (nat_lit 2)) :: nn 67 ([]))) [.cells [SV.bool y1] (nat_lit 64),.seq kP [] (nat_lit 23),.seq kP y2 (nat_lit 23)]
noncomputable abbrev rways_S6 (y1:Bool) (y2:L3):St := St.mk (nn 8 (some (SV.sl (nat_lit 1)) :: nn 67 ([]))) [.cells [SV.bool y1] (nat_lit 64),.seq kP y2 (nat_lit 23)]
noncomputable abbrev rways_S7:St := St.mk (some (SV.ptr (nat_lit 0) (nat_lit 0)) :: none :: some (SV.ros undef kP []) :: none :: some (SV.ptr (nat_lit 1) (nat_lit 0)) :: nn 3 (some (SV.sl (nat_lit 2)) :: some (SV.int .i64 (0:Int)) :: nn 66 ([]))) [.cells [SV.bool false] (nat_lit 64),.cells [SV.int .i64 (0:Int),SV.int .i64 (0:Int),SV.int .i64 (0:Int),SV.int .i64 (0:Int),SV.int .i64 (0:Int),SV.int .i64 (0:Int),SV.int .i64 (0:Int),SV.int .i64 (0:Int),SV.int .i64 (0:Int)] (nat_lit 52),.seq kP [] (nat_lit 23)]
abbrev rways_P1:List Bool := [false,false,true,true,true,true,false,false,true,false,false,true,false,true,true]
noncomputable def M.rways_l0_step {α:Type} (kn:Bool → Int → Int → Int → Option α) (k1:Int → Int → Int → Option α) (x190:Bool) (x202 x203 x204:Int):Option α := if x190 = true then if (!(cEq x202 (0:Int) && (cEq x203 (0:Int) && (cEq x204 (0:Int) && true)))) = true then kn (V.pin_r0 (IntKind.wrap .i64 ((2:Int) * x202)) (IntKind.wrap .i64 ((2:Int) * x203)) (IntKind.wrap .i64 ((2:Int) * x204)) (524288:Int)) (IntKind.wrap .i64 ((2:Int) * x202)) (IntKind.wrap .i64 ((2:Int) * x203)) (IntKind.wrap .i64 ((2:Int) * x204)) else k1 x202 x203 x204 else k1 x202 x203 x204
noncomputable def M.rways_l0 {α:Type} (k1:Int → Int → Int → Option α):Nat → Bool → Int → Int → Int → Option α
 | 0,_,_,_,_ => none
 | n + 1,x190,x202,x203,x204 => M.rways_l0_step (M.rways_l0 k1 n) k1 x190 x202 x203 x204
theorem rways_l0_step_eq {α:Type} (x187:Value) (x188:L3) (x189:Int) (x190 x191:Bool) (x192 x193 x194 x195 x196 x197 x198 x199 x200:Int) (x201:L3) (x202 x203 x204:Int) (Q:Ex → St → Option α):(loopStep E (exec E look_rmoved noLps 400) 60 rways_P1 1 (codeAt E.P 60 rways_P1)) (rways_S1 x187 x188 x189 x190 x191 x192 x193 x194 x195 x196 x197 x198 x199 x200 x201 x202 x203 x204) Q = M.rways_l0_step (fun (x208:Bool) (x209 x210 x211:Int) => Q .normal (rways_S1 x187 x188 x189 x208 x191 x192 x193 x194 x195 x196 x197 x198 x199 x200 x201 x209 x210 x211)) (fun (x205 x206 x207:Int) => Q (.exit 2) (rways_S2 x187 x188 x189 x191 x192 x193 x194 x195 x196 x197 x198 x199 x200 x201 x205 x206 x207)) x190 x202 x203 x204 := by kernel_rfl
theorem rways_l0_iter {α:Type} (x187:Value) (x188:L3) (x189:Int) (x191:Bool) (x192 x193 x194 x195 x196 x197 x198 x199 x200:Int) (x201:L3) (Q:Ex → St → Option α):∀ (n:Nat) (x190:Bool) (x202 x203 x204:Int),iter (loopStep E (exec E look_rmoved noLps 400) 60 rways_P1 1 (codeAt E.P 60 rways_P1)) n (rways_S1 x187 x188 x189 x190 x191 x192 x193 x194 x195 x196 x197 x198 x199 x200 x201 x202 x203 x204) Q = M.rways_l0 (fun (x205 x206 x207:Int) => Q (.exit 2) (rways_S2 x187 x188 x189 x191 x192 x193 x194 x195 x196 x197 x198 x199 x200 x201 x205 x206 x207)) n x190 x202 x203 x204
 | 0,_,_,_,_ => rfl
 | n + 1,x190,x202,x203,x204 => (rways_l0_step_eq x187 x188 x189 x190 x191 x192 x193 x194 x195 x196 x197 x198 x199 x200 x201 x202 x203 x204 (iterK (loopStep E (exec E look_rmoved noLps 400) 60 rways_P1 1 (codeAt E.P 60 rways_P1)) n Q)).trans (congrArg (fun kn => M.rways_l0_step kn (fun (x205 x206 x207:Int) => Q (.exit 2) (rways_S2 x187 x188 x189 x191 x192 x193 x194 x195 x196 x197 x198 x199 x200 x201 x205 x206 x207)) x190 x202 x203 x204) (funext fun x190 => funext fun x202 => funext fun x203 => funext fun x204 => rways_l0_iter x187 x188 x189 x191 x192 x193 x194 x195 x196 x197 x198 x199 x200 x201 Q n x190 x202 x203 x204))
noncomputable def rways_l0_go {α:Type} (ds:List D) (Q:Ex → St → Option α):Option α :=
 dV ds fun x187 ds => dL kP ds fun x188 ds => dI ds fun x189 ds => dB ds fun x190 ds => dB ds fun x191 ds => dI ds fun x192 ds => dI ds fun x193 ds => dI ds fun x194 ds => dI ds fun x195 ds => dI ds fun x196 ds => dI ds fun x197 ds => dI ds fun x198 ds => dI ds fun x199 ds => dI ds fun x200 ds => dL kP ds fun x201 ds => dI ds fun x202 ds => dI ds fun x203 ds => dI ds fun x204 ds => dE ds (M.rways_l0 (fun (x205 x206 x207:Int) => Q (.exit 2) (rways_S2 x187 x188 x189 x191 x192 x193 x194 x195 x196 x197 x198 x199 x200 x201 x205 x206 x207)) (100 + x188.length + x201.length) x190 x202 x203 x204)
theorem rways_l0_ok {α:Type}:LoopOk E.P 60 rways_P1 1 (lEnt (α := α) (rways_S3) rways_l0_go) :=
 lEnt_ok E (exec_sound E E_ok (look_rmoved_ok) (noLps_ok _) 400) fun ds Q r h S hS => by
   unfold rways_l0_go at h
   obtain ⟨x187,ds,rfl,h1⟩ := dV_inv h
   obtain ⟨x188,ds,rfl,h2⟩ := dL_inv h1
   obtain ⟨x189,ds,rfl,h3⟩ := dI_inv h2
   obtain ⟨x190,ds,rfl,h4⟩ := dB_inv h3
   obtain ⟨x191,ds,rfl,h5⟩ := dB_inv h4
   obtain ⟨x192,ds,rfl,h6⟩ := dI_inv h5
   obtain ⟨x193,ds,rfl,h7⟩ := dI_inv h6
   obtain ⟨x194,ds,rfl,h8⟩ := dI_inv h7
   obtain ⟨x195,ds,rfl,h9⟩ := dI_inv h8
   obtain ⟨x196,ds,rfl,h10⟩ := dI_inv h9
   obtain ⟨x197,ds,rfl,h11⟩ := dI_inv h10
   obtain ⟨x198,ds,rfl,h12⟩ := dI_inv h11
   obtain ⟨x199,ds,rfl,h13⟩ := dI_inv h12
   obtain ⟨x200,ds,rfl,h14⟩ := dI_inv h13
   obtain ⟨x201,ds,rfl,h15⟩ := dL_inv h14
   obtain ⟨x202,ds,rfl,h16⟩ := dI_inv h15
   obtain ⟨x203,ds,rfl,h17⟩ := dI_inv h16
   obtain ⟨x204,ds,rfl,h18⟩ := dI_inv h17
   obtain ⟨rfl,hE⟩ := dE_inv h18
   have e:fillS (rways_S3) [.v x187,.l kP x188,.i x189,.b x190,.b x191,.i x192,.i x193,.i x194,.i x195,.i x196,.i x197,.i x198,.i x199,.i x200,.l kP x201,.i x202,.i x203,.i x204] = some (rways_S1 x187 x188 x189 x190 x191 x192 x193 x194 x195 x196 x197 x198 x199 x200 x201 x202 x203 x204) := by kernel_rfl
   rw [e] at hS
   cases hS
   exact ⟨_,(rways_l0_iter x187 x188 x189 x191 x192 x193 x194 x195 x196 x197 x198 x199 x200 x201 Q _ x190 x202 x203 x204).trans hE⟩
noncomputable def rways_l0_lps {α:Type}:LookL α := addLp 60 rways_P1 1 (lEnt (rways_S3) rways_l0_go) noLps
theorem rways_l0_lps_ok {α:Type}:LoopsOk E.P (rways_l0_lps (α := α)) := addLp_ok rways_l0_ok (noLps_ok _)
noncomputable def M.rways_l1_step {α:Type} (x213:L3) (x216 x217 x218 x219 x220 x221 x222 x223 x224:Int) (kn:Int → Bool → L3 → Option α) (k0:Bool → L3 → Option α) (k2:Bool → L3 → Option α) (x214:Int) (x215:Bool) (x225:L3):Option α := let s229:Nat := List.length x213; let s230:Nat := List.length x225; let s231:Int := (↑s229:Int); let s232:K.T kP := List.getD x213 (Int.toNat x214) ((0:Int),(0:Int),(0:Int)); let s233:RT (LK.i IntKind.i64) [LK.i IntKind.i64] := Prod.snd s232; let s234:LK.T (LK.i IntKind.i64) := Prod.fst s232; let s235:LK.T (LK.i IntKind.i64) := Prod.fst s233; let s236:RT (LK.i IntKind.i64) [] := Prod.snd s233; if cLt x214 s231 = true then if (0:Int) ≤ x214 ∧ x214 < s231 then if (!V.pin_r0 s234 s235 s236 (1048576:Int)) = true then k0 x215 x225 else if (0:Int) ≤ x214 ∧ x214 < s231 then M.rways_l0 (fun (x226 x227 x228:Int) ↦ if (!(cEq (Prod.fst (V.pShort (IntKind.wrap .i64 (Int.tdiv (V.x3 (V.tTurn ((x216,x217,x218),(x219,x220,x221),x222,x223,x224) (V.ptimes_r0 x226 x227 x228 (4096:Int),V.ptimes_r1 x226 x227 x228 (4096:Int),V.ptimes_r2 x226 x227 x228 (4096:Int)))) (4096:Int)),IntKind.wrap .i64 (Int.tdiv (V.y3 (V.tTurn ((x216,x217,x218),(x219,x220,x221),x222,x223,x224) (V.ptimes_r0 x226 x227 x228 (4096:Int),V.ptimes_r1 x226 x227 x228 (4096:Int),V.ptimes_r2 x226 x227 x228 (4096:Int)))) (4096:Int)),IntKind.wrap .i64 (Int.tdiv (V.z3 (V.tTurn ((x216,x217,x218),(x219,x220,x221),x222,x223,x224) (V.ptimes_r0 x226 x227 x228 (4096:Int),V.ptimes_r1 x226 x227 x228 (4096:Int),V.ptimes_r2 x226 x227 x228 (4096:Int)))) (4096:Int))))) (0:Int) && (cEq (Prod.fst (Prod.snd (V.pShort (IntKind.wrap .i64 (Int.tdiv (V.x3 (V.tTurn ((x216,x217,x218),(x219,x220,x221),x222,x223,x224) (V.ptimes_r0 x226 x227 x228 (4096:Int),V.ptimes_r1 x226 x227 x228 (4096:Int),V.ptimes_r2 x226 x227 x228 (4096:Int)))) (4096:Int)),IntKind.wrap .i64 (Int.tdiv (V.y3 (V.tTurn ((x216,x217,x218),(x219,x220,x221),x222,x223,x224) (V.ptimes_r0 x226 x227 x228 (4096:Int),V.ptimes_r1 x226 x227 x228 (4096:Int),V.ptimes_r2 x226 x227 x228 (4096:Int)))) (4096:Int)),IntKind.wrap .i64 (Int.tdiv (V.z3 (V.tTurn ((x216,x217,x218),(x219,x220,x221),x222,x223,x224) (V.ptimes_r0 x226 x227 x228 (4096:Int),V.ptimes_r1 x226 x227 x228 (4096:Int),V.ptimes_r2 x226 x227 x228 (4096:Int)))) (4096:Int)))))) (0:Int) && (cEq (Prod.snd (Prod.snd (V.pShort (IntKind.wrap .i64 (Int.tdiv (V.x3 (V.tTurn ((x216,x217,x218),(x219,x220,x221),x222,x223,x224) (V.ptimes_r0 x226 x227 x228 (4096:Int),V.ptimes_r1 x226 x227 x228 (4096:Int),V.ptimes_r2 x226 x227 x228 (4096:Int)))) (4096:Int)),IntKind.wrap .i64 (Int.tdiv (V.y3 (V.tTurn ((x216,x217,x218),(x219,x220,x221),x222,x223,x224) (V.ptimes_r0 x226 x227 x228 (4096:Int),V.ptimes_r1 x226 x227 x228 (4096:Int),V.ptimes_r2 x226 x227 x228 (4096:Int)))) (4096:Int)),IntKind.wrap .i64 (Int.tdiv (V.z3 (V.tTurn ((x216,x217,x218),(x219,x220,x221),x222,x223,x224) (V.ptimes_r0 x226 x227 x228 (4096:Int),V.ptimes_r1 x226 x227 x228 (4096:Int),V.ptimes_r2 x226 x227 x228 (4096:Int)))) (4096:Int)))))) (0:Int) && true)))) = true then if (s230 + ((0:Nat) + (1:Nat))) * (24:Nat) ≤ (140737488355328:Nat) then kn (IntKind.wrap .i64 (x214 + (1:Int))) (V.on (V.tTurn ((x216,x217,x218),(x219,x220,x221),x222,x223,x224) (V.ptimes_r0 x226 x227 x228 (4096:Int),V.ptimes_r1 x226 x227 x228 (4096:Int),V.ptimes_r2 x226 x227 x228 (4096:Int))) x215) (x225 ++ [V.pShort (IntKind.wrap .i64 (Int.tdiv (V.x3 (V.tTurn ((x216,x217,x218),(x219,x220,x221),x222,x223,x224) (V.ptimes_r0 x226 x227 x228 (4096:Int),V.ptimes_r1 x226 x227 x228 (4096:Int),V.ptimes_r2 x226 x227 x228 (4096:Int)))) (4096:Int)),IntKind.wrap .i64 (Int.tdiv (V.y3 (V.tTurn ((x216,x217,x218),(x219,x220,x221),x222,x223,x224) (V.ptimes_r0 x226 x227 x228 (4096:Int),V.ptimes_r1 x226 x227 x228 (4096:Int),V.ptimes_r2 x226 x227 x228 (4096:Int)))) (4096:Int)),IntKind.wrap .i64 (Int.tdiv (V.z3 (V.tTurn ((x216,x217,x218),(x219,x220,x221),x222,x223,x224) (V.ptimes_r0 x226 x227 x228 (4096:Int),V.ptimes_r1 x226 x227 x228 (4096:Int),V.ptimes_r2 x226 x227 x228 (4096:Int)))) (4096:Int)))]) else none else kn (IntKind.wrap .i64 (x214 + (1:Int))) (V.on (V.tTurn ((x216,x217,x218),(x219,x220,x221),x222,x223,x224) (V.ptimes_r0 x226 x227 x228 (4096:Int),V.ptimes_r1 x226 x227 x228 (4096:Int),V.ptimes_r2 x226 x227 x228 (4096:Int))) x215) x225) ((100:Nat) + s229 + s230) (V.pin_r0 s234 s235 s236 (524288:Int)) s234 s235 s236 else none else none else k2 x215 x225
noncomputable def M.rways_l1 {α:Type} (x213:L3) (x216 x217 x218 x219 x220 x221 x222 x223 x224:Int) (k0:Bool → L3 → Option α) (k2:Bool → L3 → Option α):Nat → Int → Bool → L3 → Option α
 | 0,_,_,_ => none
 | n + 1,x214,x215,x225 => M.rways_l1_step x213 x216 x217 x218 x219 x220 x221 x222 x223 x224 (M.rways_l1 x213 x216 x217 x218 x219 x220 x221 x222 x223 x224 k0 k2 n) k0 k2 x214 x215 x225
theorem rways_l1_step_eq {α:Type} (x212:Value) (x213:L3) (x214:Int) (x215:Bool) (x216 x217 x218 x219 x220 x221 x222 x223 x224:Int) (x225:L3) (Q:Ex → St → Option α):(loopStep E (exec E look_rmoved rways_l0_lps 400) 60 [false,true,false,true,true] 1 (codeAt E.P 60 [false,true,false,true,true])) (rways_S4 x212 x213 x214 x215 x216 x217 x218 x219 x220 x221 x222 x223 x224 x225) Q = M.rways_l1_step x213 x216 x217 x218 x219 x220 x221 x222 x223 x224 (fun (x241:Int) (x242:Bool) (x243:L3) => Q .normal (rways_S4 x212 x213 x241 x242 x216 x217 x218 x219 x220 x221 x222 x223 x224 x243)) (fun (x237:Bool) (x238:L3) => Q .ret (rways_S5 x237 x238)) (fun (x239:Bool) (x240:L3) => Q (.exit 0) (rways_S6 x239 x240)) x214 x215 x225 := by kernel_rfl
theorem rways_l1_iter {α:Type} (x212:Value) (x213:L3) (x216 x217 x218 x219 x220 x221 x222 x223 x224:Int) (Q:Ex → St → Option α):∀ (n:Nat) (x214:Int) (x215:Bool) (x225:L3),iter (loopStep E (exec E look_rmoved rways_l0_lps 400) 60 [false,true,false,true,true] 1 (codeAt E.P 60 [false,true,false,true,true])) n (rways_S4 x212 x213 x214 x215 x216 x217 x218 x219 x220 x221 x222 x223 x224 x225) Q = M.rways_l1 x213 x216 x217 x218 x219 x220 x221 x222 x223 x224 (fun (x237:Bool) (x238:L3) => Q .ret (rways_S5 x237 x238)) (fun (x239:Bool) (x240:L3) => Q (.exit 0) (rways_S6 x239 x240)) n x214 x215 x225
 | 0,_,_,_ => rfl
 | n + 1,x214,x215,x225 => (rways_l1_step_eq x212 x213 x214 x215 x216 x217 x218 x219 x220 x221 x222 x223 x224 x225 (iterK (loopStep E (exec E look_rmoved rways_l0_lps 400) 60 [false,true,false,true,true] 1 (codeAt E.P 60 [false,true,false,true,true])) n Q)).trans (congrArg (fun kn => M.rways_l1_step x213 x216 x217 x218 x219 x220 x221 x222 x223 x224 kn (fun (x237:Bool) (x238:L3) => Q .ret (rways_S5 x237 x238)) (fun (x239:Bool) (x240:L3) => Q (.exit 0) (rways_S6 x239 x240)) x214 x215 x225) (funext fun x214 => funext fun x215 => funext fun x225 => rways_l1_iter x212 x213 x216 x217 x218 x219 x220 x221 x222 x223 x224 Q n x214 x215 x225))
noncomputable def rways_l1_go {α:Type} (ds:List D) (Q:Ex → St → Option α):Option α :=
 dV ds fun x212 ds => dL kP ds fun x213 ds => dI ds fun x214 ds => dB ds fun x215 ds => dI ds fun x216 ds => dI ds fun x217 ds => dI ds fun x218 ds => dI ds fun x219 ds => dI ds fun x220 ds => dI ds fun x221 ds => dI ds fun x222 ds => dI ds fun x223 ds => dI ds fun x224 ds => dL kP ds fun x225 ds => dE ds (M.rways_l1 x213 x216 x217 x218 x219 x220 x221 x222 x223 x224 (fun (x237:Bool) (x238:L3) => Q .ret (rways_S5 x237 x238)) (fun (x239:Bool) (x240:L3) => Q (.exit 0) (rways_S6 x239 x240)) (100 + x213.length + x225.length) x214 x215 x225)
theorem rways_l1_ok {α:Type}:LoopOk E.P 60 [false,true,false,true,true] 1 (lEnt (α := α) (rways_S7) rways_l1_go) :=
 lEnt_ok E (exec_sound E E_ok (look_rmoved_ok) (rways_l0_lps_ok) 400) fun ds Q r h S hS => by
   unfold rways_l1_go at h
   obtain ⟨x212,ds,rfl,h1⟩ := dV_inv h
   obtain ⟨x213,ds,rfl,h2⟩ := dL_inv h1
   obtain ⟨x214,ds,rfl,h3⟩ := dI_inv h2
   obtain ⟨x215,ds,rfl,h4⟩ := dB_inv h3
   obtain ⟨x216,ds,rfl,h5⟩ := dI_inv h4
   obtain ⟨x217,ds,rfl,h6⟩ := dI_inv h5
   obtain ⟨x218,ds,rfl,h7⟩ := dI_inv h6
   obtain ⟨x219,ds,rfl,h8⟩ := dI_inv h7
   obtain ⟨x220,ds,rfl,h9⟩ := dI_inv h8
   obtain ⟨x221,ds,rfl,h10⟩ := dI_inv h9
   obtain ⟨x222,ds,rfl,h11⟩ := dI_inv h10
   obtain ⟨x223,ds,rfl,h12⟩ := dI_inv h11
   obtain ⟨x224,ds,rfl,h13⟩ := dI_inv h12
   obtain ⟨x225,ds,rfl,h14⟩ := dL_inv h13
   obtain ⟨rfl,hE⟩ := dE_inv h14
   have e:fillS (rways_S7) [.v x212,.l kP x213,.i x214,.b x215,.i x216,.i x217,.i x218,.i x219,.i x220,.i x221,.i x222,.i x223,.i x224,.l kP x225] = some (rways_S4 x212 x213 x214 x215 x216 x217 x218 x219 x220 x221 x222 x223 x224 x225) := by kernel_rfl
   rw [e] at hS
   cases hS
   exact ⟨_,(rways_l1_iter x212 x213 x216 x217 x218 x219 x220 x221 x222 x223 x224 Q _ x214 x215 x225).trans hE⟩
noncomputable def rways_l1_lps {α:Type}:LookL α := addLp 60 [false,true,false,true,true] 1 (lEnt (rways_S7) rways_l1_go) rways_l0_lps
theorem rways_l1_lps_ok {α:Type}:LoopsOk E.P (rways_l1_lps (α := α)) := addLp_ok rways_l1_ok (rways_l0_lps_ok)
noncomputable def M.rways {α:Type} (bad:Bool) (m0:Int) (m1:Int) (m2:Int) (m3:Int) (m4:Int) (m5:Int) (m6:Int) (m7:Int) (m8:Int) (l:L3) (k0:Bool → Bool → L3 → Option α):Option α := M.rways_l1 l m0 m1 m2 m3 m4 m5 m6 m7 m8 (fun (x245:Bool) (x246:L3) ↦ k0 false x245 []) (fun (x247:Bool) (x248:L3) ↦ k0 true x247 x248) ((100:Nat) + List.length l + (0:Nat)) (0:Int) bad []
theorem rways_eq {α:Type} (bad:Bool) (m0:Int) (m1:Int) (m2:Int) (m3:Int) (m4:Int) (m5:Int) (m6:Int) (m7:Int) (m8:Int) (l:L3) (v244:Value) (Q:SV → Hp → Option α):callI E look_rmoved (exec E look_rmoved rways_l1_lps 400) 60 ([SV.ptr (nat_lit 0) (nat_lit 0),SV.agg [SV.int .i64 m0,SV.int .i64 m1,SV.int .i64 m2,SV.int .i64 m3,SV.int .i64 m4,SV.int .i64 m5,SV.int .i64 m6,SV.int .i64 m7,SV.int .i64 m8],SV.ros v244 kP l]) ([.cells [SV.bool bad] (nat_lit 64)]) Q = M.rways bad m0 m1 m2 m3 m4 m5 m6 m7 m8 l (fun (x249 x250:Bool) (x251:L3) => Q (SV.tup [SV.sl (nat_lit 1),SV.bool x249]) ([.cells [SV.bool x250] (nat_lit 64),.seq kP x251 (nat_lit 23)])) := by kernel_rfl
def rways_sp:List AS := [.ptr 64 [.bool false],.val (.agg [.int .i64 0,.int .i64 0,.int .i64 0,.int .i64 0,.int .i64 0,.int .i64 0,.int .i64 0,.int .i64 0,.int .i64 0]),.ro kP]
theorem rgrow_val {α:Type} (k1:Int → Int → Int → Option α):∀ (n fuel:Nat) (p:P3),(∃ c:Int,(c = p.1 ∨ c = p.2.1 ∨ c = p.2.2) ∧ (2 ^ (20 - n) ≤ c ∨ c ≤ -(2 ^ (20 - n)))) → n ≤ 20 → n < fuel →
   M.rways_l0 k1 fuel (decide (Sm p 524288)) p.1 p.2.1 p.2.2 = k1 (growN n p).1 (growN n p).2.1 (growN n p).2.2
 | n,0,p,h,h1,h2 => by omega
 | n,f + 1,p,h,h1,h2 => by
   unfold M.rways_l0 M.rways_l0_step
   rw [show (cEq p.1 (0:Int) && (cEq p.2.1 (0:Int) && (cEq p.2.2 (0:Int) && true))) = decide (p = (0,0,0)) from eq3 p.1 p.2.1 p.2.2 (0,0,0)]
   obtain ⟨c,hc,hb⟩ := h
   have hpos:(0:Int) < 2 ^ (20 - n) := Int.pow_pos (by omega)
   have hne:¬ p = (0,0,0) := by
     intro h; subst h
     simp only at hc
     rcases hc with rfl | rfl | rfl <;> omega
   by_cases hs:Sm p 524288
   · rw [if_pos (by simpa using hs), if_pos (by simpa using hne)]
     have hsm := hs
     unfold Sm at hsm
     cases n with
     | zero =>
       exfalso
       rw [show (2:Int) ^ (20 - 0) = 1048576 from by decide] at hb
       rcases hc with rfl | rfl | rfl <;> omega
     | succ n =>
       have ih := rgrow_val k1 n f (dblP p) (by
         have e:(2:Int) ^ (20 - n) = 2 * 2 ^ (20 - (n + 1)) := by
           rw [show 20 - n = (20 - (n + 1)) + 1 by omega,Int.pow_succ]; omega
         unfold dblP
         rw [IntWalk.i64_in (2 * p.1) (by omega),IntWalk.i64_in (2 * p.2.1) (by omega),IntWalk.i64_in (2 * p.2.2) (by omega)]
         refine ⟨2 * c,?_,?_⟩
         · rcases hc with rfl | rfl | rfl
           · exact .inl rfl
           · exact .inr (.inl rfl)
           · exact .inr (.inr rfl)
         · rw [e]; omega) (by omega) (by omega)
       have eg:growN (n + 1) p = growN n (dblP p) := by
         show (if p = (0,0,0) then p else if Sm p 524288 then growN n (dblP p) else p) = _
         rw [if_neg hne,if_pos hs]
       rw [eg,pin_dec _ _ _ _ (by omega)]
       exact ih
   · rw [if_neg (by simpa using hs)]
     have eg:growN n p = p := by
       cases n with
       | zero => rfl
       | succ n =>
         show (if p = (0,0,0) then p else if Sm p 524288 then growN n (dblP p) else p) = _
         rw [if_neg hne,if_neg hs]
     rw [eg]
theorem rgrow_all {α:Type} (k1:Int → Int → Int → Option α) (fuel:Nat) (p:P3) (hf:20 < fuel):M.rways_l0 k1 fuel (V.pin_r0 p.1 p.2.1 p.2.2 524288) p.1 p.2.1 p.2.2 = k1 (growP p).1 (growP p).2.1 (growP p).2.2 := by
 rw [pin_dec _ _ _ _ (by omega)]
 by_cases h0:p = (0,0,0)
 · subst h0
   obtain ⟨f,rfl⟩:∃ f,fuel = f + 1 := ⟨fuel - 1,by omega⟩
   unfold M.rways_l0 M.rways_l0_step
   rw [if_pos (by decide),if_neg (by simp [cEq_eq])]
   rfl
 · refine rgrow_val k1 20 fuel p ?_ (by omega) hf
   obtain ⟨a,b,c⟩ := p
   simp only [Nat.sub_self,Int.pow_zero]
   by_cases ha:a = 0
   · by_cases hb : b = 0
     · have hc : c ≠ 0 := fun hc => h0 (by rw [ha, hb, hc])
       exact ⟨c,.inr (.inr rfl),by omega⟩
     · exact ⟨b,.inr (.inl rfl),by omega⟩
   · exact ⟨a,.inl rfl,by omega⟩
theorem grow_sm:∀ (n:Nat) (p:P3),Sm (growN n p) 1048576 ↔ Sm p 1048576
 | 0,p => Iff.rfl
 | n + 1,p => by
   show Sm (if p = (0,0,0) then p else if Sm p 524288 then growN n (dblP p) else p) 1048576 ↔ _
   by_cases h0:p = (0,0,0)
   · rw [if_pos h0]
   · rw [if_neg h0]
     by_cases hs:Sm p 524288
     · rw [if_pos hs, grow_sm n (dblP p)]
       unfold Sm at hs ⊢
       unfold dblP
       rw [IntWalk.i64_in (2 * p.1) (by omega),IntWalk.i64_in (2 * p.2.1) (by omega),IntWalk.i64_in (2 * p.2.2) (by omega)]
       simp only
       omega
     · rw [if_neg hs]
theorem rways_l1_val {α:Type} (m:V.T9) (l:List P3) (hl:l.length < 1099511627776) (k0 k2:Bool → List P3 → Option α):∀ (fuel i:Nat) (f:Bool) (a:List P3),i ≤ l.length → l.length - i < fuel → a.length ≤ i →
   M.rways_l1 l m.1.1 m.1.2.1 m.1.2.2 m.2.1.1 m.2.1.2.1 m.2.1.2.2 m.2.2.1 m.2.2.2.1 m.2.2.2.2 k0 k2 fuel (i:Int) f a =
     if (wayRun m ((l.drop i).map growP) f a).1 = true then k2 (wayRun m ((l.drop i).map growP) f a).2.1 (wayRun m ((l.drop i).map growP) f a).2.2 else k0 (wayRun m ((l.drop i).map growP) f a).2.1 (wayRun m ((l.drop i).map growP) f a).2.2
 | 0,i,f,a,h1,h2,h3 => by omega
 | n + 1,i,f,a,h1,h2,h3 => by
   unfold M.rways_l1 M.rways_l1_step
   simp only
   rw [cLt_nat]
   by_cases hi:i < l.length
   · rw [if_pos (by simpa using hi), if_pos (by omega), pin_dec _ _ _ _ (by omega), drop_pt l i hi, toNat_nat, List.map_cons]
     show (if (!decide (Sm (pt l i) 1048576)) = true then k0 f a else _) = _
     by_cases hs:Sm (pt l i) 1048576
     · rw [if_neg (by simpa using hs), if_pos (by omega)]
       have hs2:Sm (growP (pt l i)) 1048576 := (grow_sm 20 (pt l i)).mpr hs
       have ew:wayRun m (growP (pt l i) :: (l.drop (i + 1)).map growP) f a = wayRun m ((l.drop (i + 1)).map growP) (V.on (V.tTurn m (scP (growP (pt l i)) 4096)) f) (if wayS m (growP (pt l i)) = (0,0,0) then a else a ++ [wayS m (growP (pt l i))]) := by
         show (if Sm (growP (pt l i)) 1048576 then _ else _) = _
         rw [if_pos hs2]
       rw [ew]
       refine Eq.trans (rgrow_all _ _ (pt l i) (by omega)) ?_
       show (if (!(cEq (wayS m (growP (pt l i))).1 (0:Int) && (cEq (wayS m (growP (pt l i))).2.1 (0:Int) && (cEq (wayS m (growP (pt l i))).2.2 (0:Int) && true)))) = true then _ else _) = _
       rw [show (cEq (wayS m (growP (pt l i))).1 (0:Int) && (cEq (wayS m (growP (pt l i))).2.1 (0:Int) && (cEq (wayS m (growP (pt l i))).2.2 (0:Int) && true))) = decide (wayS m (growP (pt l i)) = (0,0,0)) from eq3 _ _ _ (0,0,0),w_next (by omega)]
       by_cases h0:wayS m (growP (pt l i)) = (0,0,0)
       · rw [if_neg (by simpa using h0), if_pos h0]
         exact rways_l1_val m l hl k0 k2 n (i + 1) _ _ (by omega) (by omega) (by omega)
       · rw [if_pos (by simpa using h0), if_neg h0, if_pos (by omega)]
         exact rways_l1_val m l hl k0 k2 n (i + 1) _ _ (by omega) (by omega) (by rw [List.length_append,List.length_singleton]; omega)
     · rw [if_pos (by simpa using hs)]
       have hs2:¬ Sm (growP (pt l i)) 1048576 := fun h => hs ((grow_sm 20 (pt l i)).mp h)
       have ew:wayRun m (growP (pt l i) :: (l.drop (i + 1)).map growP) f a = (false,f,a) := by
         show (if Sm (growP (pt l i)) 1048576 then _ else _) = _
         rw [if_neg hs2]
       rw [ew]; rfl
   · have : i = l.length := by omega
     subst this
     rw [if_neg (by simp)]
     simp [wayRun]
noncomputable def _root_.Go.Proofs.YtlagndfhibkjpaaGreat.V.wyL (o:Bool × Bool × List P3):List P3 := hid (if o.1 = true then o.2.2 else [])
theorem rways_v {α:Type} (bad:Bool) (m0 m1 m2 m3 m4 m5 m6 m7 m8:Int) (l:List P3) (hg:V.lenB l.length = true) (k0:Bool → Bool → List P3 → Option α) :
   M.rways bad m0 m1 m2 m3 m4 m5 m6 m7 m8 l k0 = k0 (V.wy bad ((m0,m1,m2),(m3,m4,m5),(m6,m7,m8)) l).1 (V.wy bad ((m0,m1,m2),(m3,m4,m5),(m6,m7,m8)) l).2.1 (V.wyL (V.wy bad ((m0,m1,m2),(m3,m4,m5),(m6,m7,m8)) l)) := by
 have hl := lenB_lt hg
 unfold M.rways V.wyL V.wy
 simp only [hid_eq]
 refine Eq.trans (rways_l1_val ((m0,m1,m2),(m3,m4,m5),(m6,m7,m8)) l hl _ _ _ 0 bad [] (by omega) (by omega) (by simp)) ?_
 rw [List.drop_zero]
 generalize wayRun ((m0,m1,m2),(m3,m4,m5),(m6,m7,m8)) (l.map growP) bad [] = w
 obtain ⟨b,c,d⟩ := w
 cases b <;> rfl
noncomputable def rways_h {α:Type} (ds:List D) (Q:SV → Hp → Option α):Option α :=
 dB ds fun bad ds => dI ds fun m0 ds => dI ds fun m1 ds => dI ds fun m2 ds => dI ds fun m3 ds => dI ds fun m4 ds => dI ds fun m5 ds => dI ds fun m6 ds => dI ds fun m7 ds => dI ds fun m8 ds => dL kP ds fun l ds => dE ds (if V.lenB l.length = true then Q (.tup [.sl 1,.bool (V.wy bad ((m0,m1,m2),(m3,m4,m5),(m6,m7,m8)) l).1]) ([.cells [.bool (V.wy bad ((m0,m1,m2),(m3,m4,m5),(m6,m7,m8)) l).2.1] 64,.seq (.st (.i .i64) [.i .i64,.i .i64]) (V.wyL (V.wy bad ((m0,m1,m2),(m3,m4,m5),(m6,m7,m8)) l)) 23]) else none)
theorem rways_h_ok {α:Type}:FnOk E.P 60 (fEnt (α := α) rways_sp rways_h) :=
 fEntR_ok E (look_rmoved_ok) (exec_sound E E_ok (look_rmoved_ok) (rways_l1_lps_ok) 400) fun ds Q r h => by
   unfold rways_h at h
   obtain ⟨bad,ds,rfl,h1⟩ := dB_inv h
   obtain ⟨m0,ds,rfl,h2⟩ := dI_inv h1
   obtain ⟨m1,ds,rfl,h3⟩ := dI_inv h2
   obtain ⟨m2,ds,rfl,h4⟩ := dI_inv h3
   obtain ⟨m3,ds,rfl,h5⟩ := dI_inv h4
   obtain ⟨m4,ds,rfl,h6⟩ := dI_inv h5
   obtain ⟨m5,ds,rfl,h7⟩ := dI_inv h6
   obtain ⟨m6,ds,rfl,h8⟩ := dI_inv h7
   obtain ⟨m7,ds,rfl,h9⟩ := dI_inv h8
   obtain ⟨m8,ds,rfl,h10⟩ := dI_inv h9
   obtain ⟨l,ds,rfl,h11⟩ := dL_inv h10
   obtain ⟨rfl,hE⟩ := dE_inv h11
   split at hE
   · rename_i hg
     exact ⟨_,_,hE,fun vs => ⟨_,_,by kernel_rfl,(rways_eq bad m0 m1 m2 m3 m4 m5 m6 m7 m8 l (vs.tail.tail.headD undef) _).trans (rways_v bad m0 m1 m2 m3 m4 m5 m6 m7 m8 l hg _)⟩⟩
   · cases hE
noncomputable def look_rways {α:Type}:LookF α := addFn 60 (fEnt rways_sp rways_h) look_rmoved
theorem look_rways_ok {α:Type}:LookOk E.P (look_rways (α := α)) := addFn_ok rways_h_ok (look_rmoved_ok)
end
section
open Go
set_option maxRecDepth 20000
noncomputable abbrev rplace_S1 (y1:Int) (y2:Value) (y3:L3) (y4:Value) (y5:L3) (y6:Value) (y7:L3) (y8 y9 y10 y11 y12 y13 y14 y15 y16:Int) (y17 y18 y19:L3) (y20:Bool) (y21 y22 y23 y24 y25 y26 y27 y28 y29 y30:Int) (y31 y32 y33:L3):St := St.mk (none :: none :: some (SV.ptr (nat_lit 0) (nat_lit 0)) :: some (SV.ptr (nat_lit 1) (nat_lit 0)) :: some (SV.ptr (nat_lit 2) (nat_lit 0)) :: none :: some (SV.ptr (nat_lit 6) (nat_lit 0)) :: some (SV.ptr (nat_lit 7) (nat_lit 0)) :: some (SV.ptr (nat_lit 8) (nat_lit 0)) :: some (SV.int .i64 y1) :: nn 107 ([])) [.cells [SV.ros y2 kP y3,SV.ros y4 kP y5,SV.ros y6 kP y7,SV.int .i64 y8] (nat_lit 33),.cells [SV.int .i64 y9,SV.int .i64 y10,SV.int .i64 y11,SV.int .i64 y12,SV.int .i64 y13,SV.int .i64 y14,SV.int .i64 y15] (nat_lit 41),.cells [SV.sl (nat_lit 3),SV.sl (nat_lit 4),SV.sl (nat_lit 5),SV.int .i64 y16] (nat_lit 33),.seq kP y17 (nat_lit 23),.seq kP y18 (nat_lit 23),.seq kP y19 (nat_lit 23),.cells [SV.bool y20] (nat_lit 64),.cells [SV.int .i64 y21,SV.int .i64 y22,SV.int .i64 y23,SV.int .i64 y24,SV.int .i64 y25,SV.int .i64 y26,SV.int .i64 y27,SV.int .i64 y28,SV.int .i64 y29] (nat_lit 52),.cells [SV.sl (nat_lit 9),SV.sl (nat_lit 10),SV.sl (nat_lit 11),SV.int .i64 y30] (nat_lit 33),.seq kP y31 (nat_lit 23),.seq kP y32 (nat_lit 23),.seq kP y33 (nat_lit 23)]
noncomputable abbrev rplace_S2 (y1:Value) (y2:L3) (y3:Value) (y4:L3) (y5:Value) (y6:L3) (y7:Int) (y8:Bool) (y9 y10 y11 y12 y13 y14 y15 y16 y17 y18:Int) (y19 y20 y21:L3):St := St.mk (none :: none :: some (SV.ptr (nat_lit 0) (nat_lit 0)) :: none :: some (SV.ptr (nat_lit 1) (nat_lit 0)) :: some (SV.bool false) :: some (SV.ptr (nat_lit 5) (nat_lit 0)) :: some (SV.ptr (nat_lit 6) (nat_lit 0)) :: some (SV.ptr (nat_lit 7) (nat_lit 0)) :: nn 108 ([])) [.cells [SV.ros y1 kP y2,SV.ros y3 kP y4,SV.ros y5 kP y6,SV.int .i64 y7] (nat_lit 33),.cells [SV.sl (nat_lit 2),SV.sl (nat_lit 3),SV.sl (nat_lit 4),SV.int .i64 (0:Int)] (nat_lit 33),.seq kP [] (nat_lit 23),.seq kP [] (nat_lit 23),.seq kP [] (nat_lit 23),.cells [SV.bool y8] (nat_lit 64),.cells [SV.int .i64 y9,SV.int .i64 y10,SV.int .i64 y11,SV.int .i64 y12,SV.int .i64 y13,SV.int .i64 y14,SV.int .i64 y15,SV.int .i64 y16,SV.int .i64 y17] (nat_lit 52),.cells [SV.sl (nat_lit 8),SV.sl (nat_lit 9),SV.sl (nat_lit 10),SV.int .i64 y18] (nat_lit 33),.seq kP y19 (nat_lit 23),.seq kP y20 (nat_lit 23),.seq kP y21 (nat_lit 23)]
noncomputable abbrev rplace_S3 (y1:Value) (y2:L3) (y3:Value) (y4:L3) (y5:Value) (y6:L3) (y7 y8:Int) (y9 y10 y11:L3) (y12:Bool) (y13 y14 y15 y16 y17 y18 y19 y20 y21 y22:Int) (y23 y24 y25:L3):St := St.mk (none :: none :: some (SV.ptr (nat_lit 0) (nat_lit 0)) :: none :: some (SV.ptr (nat_lit 1) (nat_lit 0)) :: none :: some (SV.ptr (nat_lit 5) (nat_lit 0)) :: some (SV.ptr (nat_lit 6) (nat_lit 0)) :: some (SV.ptr (nat_lit 7) (nat_lit 0)) :: nn 108 ([])) [.cells [SV.ros y1 kP y2,SV.ros y3 kP y4,SV.ros y5 kP y6,SV.int .i64 y7] (nat_lit 33),.cells [SV.sl (nat_lit 2),SV.sl (nat_lit 3),SV.sl (nat_lit 4),SV.int .i64 y8] (nat_lit 33),.seq kP y9 (nat_lit 23),.seq kP y10 (nat_lit 23),.seq kP y11 (nat_lit 23),.cells [SV.bool y12] (nat_lit 64),.cells [SV.int .i64 y13,SV.int .i64 y14,SV.int .i64 y15,SV.int .i64 y16,SV.int .i64 y17,SV.int .i64 y18,SV.int .i64 y19,SV.int .i64 y20,SV.int .i64 y21] (nat_lit 52),.cells [SV.sl (nat_lit 8),SV.sl (nat_lit 9),SV.sl (nat_lit 10),SV.int .i64 y22] (nat_lit 33),.seq kP y23 (nat_lit 23),.seq kP y24 (nat_lit 23),.seq kP y25 (nat_lit 23)]
noncomputable abbrev rplace_S4:St := St.mk (none :: none :: some (SV.ptr (nat_lit 0) (nat_lit 0)) :: some (SV.ptr (nat_lit 1) (nat_lit 0)) :: some (SV.ptr (nat_lit 2) (nat_lit 0)) :: none :: some (SV.ptr (nat_lit 6) (nat_lit 0)) :: some (SV.ptr (nat_lit 7) (nat_lit 0)) :: some (SV.ptr (nat_lit 8) (nat_lit 0)) :: some (SV.int .i64 (0:Int)) :: nn 107 ([])) [.cells [SV.ros undef kP [],SV.ros undef kP [],SV.ros undef kP [],SV.int .i64 (0:Int)] (nat_lit 33),.cells [SV.int .i64 (0:Int),SV.int .i64 (0:Int),SV.int .i64 (0:Int),SV.int .i64 (0:Int),SV.int .i64 (0:Int),SV.int .i64 (0:Int),SV.int .i64 (0:Int)] (nat_lit 41),.cells [SV.sl (nat_lit 3),SV.sl (nat_lit 4),SV.sl (nat_lit 5),SV.int .i64 (0:Int)] (nat_lit 33),.seq kP [] (nat_lit 23),.seq kP [] (nat_lit 23),.seq kP [] (nat_lit 23),.cells [SV.bool false] (nat_lit 64),.cells [SV.int .i64 (0:Int),SV.int .i64 (0:Int),SV.int .i64 (0:Int),SV.int .i64 (0:Int),SV.int .i64 (0:Int),SV.int .i64 (0:Int),SV.int .i64 (0:Int),SV.int .i64 (0:Int),SV.int .i64 (0:Int)] (nat_lit 52),.cells [SV.sl (nat_lit 9),SV.sl (nat_lit 10),SV.sl (nat_lit 11),SV.int .i64 (0:Int)] (nat_lit 33),.seq kP [] (nat_lit 23),.seq kP [] (nat_lit 23),.seq kP [] (nat_lit 23)]
abbrev rplace_P1:List Bool := [false,true,false,true,true,true,true]
noncomputable def M.rplace_l0_step {α:Type} (x38:L3) (x44 x45 x46 x56 x57 x58 x59 x60 x61 x62 x63 x64:Int) (kn:Int → Bool → L3 → Option α) (k0:Bool → L3 → Option α) (k2:Bool → L3 → Option α) (x36:Int) (x55:Bool) (x66:L3):Option α := let s69:Int := (↑(List.length x38):Int); let s70:K.T kP := List.getD x38 (Int.toNat x36) ((0:Int),(0:Int),(0:Int)); let s71:RT (LK.i IntKind.i64) [LK.i IntKind.i64] := Prod.snd s70; let s72:LK.T (LK.i IntKind.i64) := Prod.fst s70; let s73:RT (LK.i IntKind.i64) [] := Prod.snd s71; let s74:LK.T (LK.i IntKind.i64) := Prod.fst s71; let s75:Option V.T3 := V.tTurn ((x56,x57,x58),(x59,x60,x61),x62,x63,x64) (V.ptimes_r0 s72 s74 s73 (1048576:Int),V.ptimes_r1 s72 s74 s73 (1048576:Int),V.ptimes_r2 s72 s74 s73 (1048576:Int)); let s76:Option V.T3 := V.tAdd (V.q3 s75) (x44,x45,x46); let s77:Int := V.pdown_r0 (V.x3 s76); let s78:Int := V.pdown_r0 (V.y3 s76); let s79:Int := V.pdown_r0 (V.z3 s76); let s80:Bool := V.on s76 (V.on s75 x55); if cLt x36 s69 = true then if (0:Int) ≤ x36 ∧ x36 < s69 then if (!V.pin_r0 s72 s74 s73 (1048576:Int)) = true then k0 x55 x66 else if (0:Int) ≤ x36 ∧ x36 < s69 then if (!V.pin_r0 s77 s78 s79 (8388608:Int)) = true then k0 s80 x66 else if (List.length x66 + ((0:Nat) + (1:Nat))) * (24:Nat) ≤ (140737488355328:Nat) then kn (IntKind.wrap .i64 (x36 + (1:Int))) s80 (x66 ++ [(s77,s78,s79)]) else none else none else none else k2 x55 x66
noncomputable def M.rplace_l0 {α:Type} (x38:L3) (x44 x45 x46 x56 x57 x58 x59 x60 x61 x62 x63 x64:Int) (k0:Bool → L3 → Option α) (k2:Bool → L3 → Option α):Nat → Int → Bool → L3 → Option α
 | 0,_,_,_ => none
 | n + 1,x36,x55,x66 => M.rplace_l0_step x38 x44 x45 x46 x56 x57 x58 x59 x60 x61 x62 x63 x64 (M.rplace_l0 x38 x44 x45 x46 x56 x57 x58 x59 x60 x61 x62 x63 x64 k0 k2 n) k0 k2 x36 x55 x66
theorem rplace_l0_step_eq {α:Type} (x36:Int) (x37:Value) (x38:L3) (x39:Value) (x40:L3) (x41:Value) (x42:L3) (x43 x44 x45 x46 x47 x48 x49 x50 x51:Int) (x52 x53 x54:L3) (x55:Bool) (x56 x57 x58 x59 x60 x61 x62 x63 x64 x65:Int) (x66 x67 x68:L3) (Q:Ex → St → Option α):(loopStep E (exec E look_rways noLps 400) 21 rplace_P1 0 (codeAt E.P 21 rplace_P1)) (rplace_S1 x36 x37 x38 x39 x40 x41 x42 x43 x44 x45 x46 x47 x48 x49 x50 x51 x52 x53 x54 x55 x56 x57 x58 x59 x60 x61 x62 x63 x64 x65 x66 x67 x68) Q = M.rplace_l0_step x38 x44 x45 x46 x56 x57 x58 x59 x60 x61 x62 x63 x64 (fun (x85:Int) (x86:Bool) (x87:L3) => Q .normal (rplace_S1 x85 x37 x38 x39 x40 x41 x42 x43 x44 x45 x46 x47 x48 x49 x50 x51 x52 x53 x54 x86 x56 x57 x58 x59 x60 x61 x62 x63 x64 x65 x87 x67 x68)) (fun (x81:Bool) (x82:L3) => Q .ret (rplace_S2 x37 x38 x39 x40 x41 x42 x43 x81 x56 x57 x58 x59 x60 x61 x62 x63 x64 x65 x82 x67 x68)) (fun (x83:Bool) (x84:L3) => Q (.exit 0) (rplace_S3 x37 x38 x39 x40 x41 x42 x43 x51 x52 x53 x54 x83 x56 x57 x58 x59 x60 x61 x62 x63 x64 x65 x84 x67 x68)) x36 x55 x66 := by kernel_rfl
theorem rplace_l0_iter {α:Type} (x37:Value) (x38:L3) (x39:Value) (x40:L3) (x41:Value) (x42:L3) (x43 x44 x45 x46 x47 x48 x49 x50 x51:Int) (x52 x53 x54:L3) (x56 x57 x58 x59 x60 x61 x62 x63 x64 x65:Int) (x67 x68:L3) (Q:Ex → St → Option α):∀ (n:Nat) (x36:Int) (x55:Bool) (x66:L3),iter (loopStep E (exec E look_rways noLps 400) 21 rplace_P1 0 (codeAt E.P 21 rplace_P1)) n (rplace_S1 x36 x37 x38 x39 x40 x41 x42 x43 x44 x45 x46 x47 x48 x49 x50 x51 x52 x53 x54 x55 x56 x57 x58 x59 x60 x61 x62 x63 x64 x65 x66 x67 x68) Q = M.rplace_l0 x38 x44 x45 x46 x56 x57 x58 x59 x60 x61 x62 x63 x64 (fun (x81:Bool) (x82:L3) => Q .ret (rplace_S2 x37 x38 x39 x40 x41 x42 x43 x81 x56 x57 x58 x59 x60 x61 x62 x63 x64 x65 x82 x67 x68)) (fun (x83:Bool) (x84:L3) => Q (.exit 0) (rplace_S3 x37 x38 x39 x40 x41 x42 x43 x51 x52 x53 x54 x83 x56 x57 x58 x59 x60 x61 x62 x63 x64 x65 x84 x67 x68)) n x36 x55 x66
 | 0,_,_,_ => rfl
 | n + 1,x36,x55,x66 => (rplace_l0_step_eq x36 x37 x38 x39 x40 x41 x42 x43 x44 x45 x46 x47 x48 x49 x50 x51 x52 x53 x54 x55 x56 x57 x58 x59 x60 x61 x62 x63 x64 x65 x66 x67 x68 (iterK (loopStep E (exec E look_rways noLps 400) 21 rplace_P1 0 (codeAt E.P 21 rplace_P1)) n Q)).trans (congrArg (fun kn => M.rplace_l0_step x38 x44 x45 x46 x56 x57 x58 x59 x60 x61 x62 x63 x64 kn (fun (x81:Bool) (x82:L3) => Q .ret (rplace_S2 x37 x38 x39 x40 x41 x42 x43 x81 x56 x57 x58 x59 x60 x61 x62 x63 x64 x65 x82 x67 x68)) (fun (x83:Bool) (x84:L3) => Q (.exit 0) (rplace_S3 x37 x38 x39 x40 x41 x42 x43 x51 x52 x53 x54 x83 x56 x57 x58 x59 x60 x61 x62 x63 x64 x65 x84 x67 x68)) x36 x55 x66) (funext fun x36 => funext fun x55 => funext fun x66 => rplace_l0_iter x37 x38 x39 x40 x41 x42 x43 x44 x45 x46 x47 x48 x49 x50 x51 x52 x53 x54 x56 x57 x58 x59 x60 x61 x62 x63 x64 x65 x67 x68 Q n x36 x55 x66))
noncomputable def rplace_l0_go {α:Type} (ds:List D) (Q:Ex → St → Option α):Option α :=
 dI ds fun x36 ds => dV ds fun x37 ds => dL kP ds fun x38 ds => dV ds fun x39 ds => dL kP ds fun x40 ds => dV ds fun x41 ds => dL kP ds fun x42 ds => dI ds fun x43 ds => dI ds fun x44 ds => dI ds fun x45 ds => dI ds fun x46 ds => dI ds fun x47 ds => dI ds fun x48 ds => dI ds fun x49 ds => dI ds fun x50 ds => dI ds fun x51 ds => dL kP ds fun x52 ds => dL kP ds fun x53 ds => dL kP ds fun x54 ds => dB ds fun x55 ds => dI ds fun x56 ds => dI ds fun x57 ds => dI ds fun x58 ds => dI ds fun x59 ds => dI ds fun x60 ds => dI ds fun x61 ds => dI ds fun x62 ds => dI ds fun x63 ds => dI ds fun x64 ds => dI ds fun x65 ds => dL kP ds fun x66 ds => dL kP ds fun x67 ds => dL kP ds fun x68 ds => dE ds (M.rplace_l0 x38 x44 x45 x46 x56 x57 x58 x59 x60 x61 x62 x63 x64 (fun (x81:Bool) (x82:L3) => Q .ret (rplace_S2 x37 x38 x39 x40 x41 x42 x43 x81 x56 x57 x58 x59 x60 x61 x62 x63 x64 x65 x82 x67 x68)) (fun (x83:Bool) (x84:L3) => Q (.exit 0) (rplace_S3 x37 x38 x39 x40 x41 x42 x43 x51 x52 x53 x54 x83 x56 x57 x58 x59 x60 x61 x62 x63 x64 x65 x84 x67 x68)) (100 + x38.length + x40.length + x42.length + x52.length + x53.length + x54.length + x66.length + x67.length + x68.length) x36 x55 x66)
theorem rplace_l0_ok {α:Type}:LoopOk E.P 21 rplace_P1 0 (lEnt (α := α) (rplace_S4) rplace_l0_go) :=
 lEnt_ok E (exec_sound E E_ok (look_rways_ok) (noLps_ok _) 400) fun ds Q r h S hS => by
   unfold rplace_l0_go at h
   obtain ⟨x36,ds,rfl,h1⟩ := dI_inv h
   obtain ⟨x37,ds,rfl,h2⟩ := dV_inv h1
   obtain ⟨x38,ds,rfl,h3⟩ := dL_inv h2
   obtain ⟨x39,ds,rfl,h4⟩ := dV_inv h3
   obtain ⟨x40,ds,rfl,h5⟩ := dL_inv h4
   obtain ⟨x41,ds,rfl,h6⟩ := dV_inv h5
   obtain ⟨x42,ds,rfl,h7⟩ := dL_inv h6
   obtain ⟨x43,ds,rfl,h8⟩ := dI_inv h7
   obtain ⟨x44,ds,rfl,h9⟩ := dI_inv h8
   obtain ⟨x45,ds,rfl,h10⟩ := dI_inv h9
   obtain ⟨x46,ds,rfl,h11⟩ := dI_inv h10
   obtain ⟨x47,ds,rfl,h12⟩ := dI_inv h11
   obtain ⟨x48,ds,rfl,h13⟩ := dI_inv h12
   obtain ⟨x49,ds,rfl,h14⟩ := dI_inv h13
   obtain ⟨x50,ds,rfl,h15⟩ := dI_inv h14
   obtain ⟨x51,ds,rfl,h16⟩ := dI_inv h15
   obtain ⟨x52,ds,rfl,h17⟩ := dL_inv h16
   obtain ⟨x53,ds,rfl,h18⟩ := dL_inv h17
   obtain ⟨x54,ds,rfl,h19⟩ := dL_inv h18
   obtain ⟨x55,ds,rfl,h20⟩ := dB_inv h19
   obtain ⟨x56,ds,rfl,h21⟩ := dI_inv h20
   obtain ⟨x57,ds,rfl,h22⟩ := dI_inv h21
   obtain ⟨x58,ds,rfl,h23⟩ := dI_inv h22
   obtain ⟨x59,ds,rfl,h24⟩ := dI_inv h23
   obtain ⟨x60,ds,rfl,h25⟩ := dI_inv h24
   obtain ⟨x61,ds,rfl,h26⟩ := dI_inv h25
   obtain ⟨x62,ds,rfl,h27⟩ := dI_inv h26
   obtain ⟨x63,ds,rfl,h28⟩ := dI_inv h27
   obtain ⟨x64,ds,rfl,h29⟩ := dI_inv h28
   obtain ⟨x65,ds,rfl,h30⟩ := dI_inv h29
   obtain ⟨x66,ds,rfl,h31⟩ := dL_inv h30
   obtain ⟨x67,ds,rfl,h32⟩ := dL_inv h31
   obtain ⟨x68,ds,rfl,h33⟩ := dL_inv h32
   obtain ⟨rfl,hE⟩ := dE_inv h33
   have e:fillS (rplace_S4) [.i x36,.v x37,.l kP x38,.v x39,.l kP x40,.v x41,.l kP x42,.i x43,.i x44,.i x45,.i x46,.i x47,.i x48,.i x49,.i x50,.i x51,.l kP x52,.l kP x53,.l kP x54,.b x55,.i x56,.i x57,.i x58,.i x59,.i x60,.i x61,.i x62,.i x63,.i x64,.i x65,.l kP x66,.l kP x67,.l kP x68] = some (rplace_S1 x36 x37 x38 x39 x40 x41 x42 x43 x44 x45 x46 x47 x48 x49 x50 x51 x52 x53 x54 x55 x56 x57 x58 x59 x60 x61 x62 x63 x64 x65 x66 x67 x68) := by kernel_rfl
   rw [e] at hS
   cases hS
   exact ⟨_,(rplace_l0_iter x37 x38 x39 x40 x41 x42 x43 x44 x45 x46 x47 x48 x49 x50 x51 x52 x53 x54 x56 x57 x58 x59 x60 x61 x62 x63 x64 x65 x67 x68 Q _ x36 x55 x66).trans hE⟩
noncomputable def rplace_l0_lps {α:Type}:LookL α := addLp 21 rplace_P1 0 (lEnt (rplace_S4) rplace_l0_go) noLps
theorem rplace_l0_lps_ok {α:Type}:LoopsOk E.P (rplace_l0_lps (α := α)) := addLp_ok rplace_l0_ok (noLps_ok _)
noncomputable def M.rplace {α:Type} (l:L3) (ax:L3) (ed:L3) (r:Int) (px:Int) (p_y:Int) (pz:Int) (tw:Int) (tx:Int) (ty:Int) (tz:Int) (k0:Int → Bool → L3 → L3 → L3 → Option α):Option α := M.rplace_l0 l px p_y pz (V.m0 (V.tRows (tw,tx,ty,tz))) (V.m1 (V.tRows (tw,tx,ty,tz))) (V.m2 (V.tRows (tw,tx,ty,tz))) (V.m3 (V.tRows (tw,tx,ty,tz))) (V.m4 (V.tRows (tw,tx,ty,tz))) (V.m5 (V.tRows (tw,tx,ty,tz))) (V.m6 (V.tRows (tw,tx,ty,tz))) (V.m7 (V.tRows (tw,tx,ty,tz))) (V.m8 (V.tRows (tw,tx,ty,tz))) (fun (x91:Bool) (x92:L3) ↦ k0 (0:Int) false [] [] []) (fun (x93:Bool) (x94:L3) ↦ if V.lenB (List.length ax) = true then if V.lenB (List.length ed) = true then if Prod.fst (Prod.snd (V.wy (Prod.fst (Prod.snd (V.wy x93 (V.q9 (V.tRows (tw,tx,ty,tz))) ax))) (V.q9 (V.tRows (tw,tx,ty,tz))) ed)) = true then k0 (0:Int) false [] [] [] else if (!Prod.fst (V.wy x93 (V.q9 (V.tRows (tw,tx,ty,tz))) ax)) = true then k0 (0:Int) false [] [] [] else if (!Prod.fst (V.wy (Prod.fst (Prod.snd (V.wy x93 (V.q9 (V.tRows (tw,tx,ty,tz))) ax))) (V.q9 (V.tRows (tw,tx,ty,tz))) ed)) = true then k0 (0:Int) false [] [] [] else if cEq (↑(List.length l):Int) (0:Int) = true then k0 (0:Int) false [] [] [] else k0 r true x94 (V.wyL (V.wy x93 (V.q9 (V.tRows (tw,tx,ty,tz))) ax)) (V.wyL (V.wy (Prod.fst (Prod.snd (V.wy x93 (V.q9 (V.tRows (tw,tx,ty,tz))) ax))) (V.q9 (V.tRows (tw,tx,ty,tz))) ed)) else none else none) ((100:Nat) + List.length l + List.length ax + List.length ed + (0:Nat) + (0:Nat) + (0:Nat) + (0:Nat) + (0:Nat) + (0:Nat)) (0:Int) (V.on (V.tRows (tw,tx,ty,tz)) false) []
theorem rplace_eq {α:Type} (l:L3) (ax:L3) (ed:L3) (r:Int) (px:Int) (p_y:Int) (pz:Int) (tw:Int) (tx:Int) (ty:Int) (tz:Int) (v88:Value) (v89:Value) (v90:Value) (Q:SV → Hp → Option α):callI E look_rways (exec E look_rways rplace_l0_lps 400) 21 ([SV.agg [SV.ros v88 kP l,SV.ros v89 kP ax,SV.ros v90 kP ed,SV.int .i64 r],SV.agg [SV.int .i64 px,SV.int .i64 p_y,SV.int .i64 pz,SV.int .i64 tw,SV.int .i64 tx,SV.int .i64 ty,SV.int .i64 tz]]) ([]) Q = M.rplace l ax ed r px p_y pz tw tx ty tz (fun (x95:Int) (x96:Bool) (x97 x98 x99:L3) => Q (SV.tup [SV.agg [SV.sl (nat_lit 0),SV.sl (nat_lit 1),SV.sl (nat_lit 2),SV.int .i64 x95],SV.bool x96]) ([.seq kP x97 (nat_lit 23),.seq kP x98 (nat_lit 23),.seq kP x99 (nat_lit 23)])) := by kernel_rfl
def rplace_sp:List AS := [.st [.ro kP,.ro kP,.ro kP,.leaf (.int .i64 0)],.val (.agg [.int .i64 0,.int .i64 0,.int .i64 0,.int .i64 0,.int .i64 0,.int .i64 0,.int .i64 0])]
theorem tAdd_rng (a b:V.T3):(-9223372036854775808 ≤ V.x3 (V.tAdd a b) ∧ V.x3 (V.tAdd a b) < 9223372036854775808) ∧ (-9223372036854775808 ≤ V.y3 (V.tAdd a b) ∧ V.y3 (V.tAdd a b) < 9223372036854775808) ∧ (-9223372036854775808 ≤ V.z3 (V.tAdd a b) ∧ V.z3 (V.tAdd a b) < 9223372036854775808) := by
 unfold V.x3 V.y3 V.z3 V.q3
 cases h:V.tAdd a b with
 | none => simp
 | some t =>
   obtain ⟨h1,h2,h3⟩ := tAdd_some.1 h
   rw [mAdd_some] at h1 h2 h3
   unfold Gd at h1 h2 h3
   simp only [Option.getD_some]
   omega
theorem rplace_l0_val {α:Type} (l:List P3) (hl:l.length < 1099511627776) (m:V.T9) (t:V.T3) (k0:Option α) (k2:Bool → List P3 → Option α):∀ (fuel i:Nat) (f:Bool) (a:List P3),i ≤ l.length → l.length - i < fuel → a.length ≤ i →
   M.rplace_l0 l t.1 t.2.1 t.2.2 m.1.1 m.1.2.1 m.1.2.2 m.2.1.1 m.2.1.2.1 m.2.1.2.2 m.2.2.1 m.2.2.2.1 m.2.2.2.2 (fun _ _ => k0) k2 fuel (i:Int) f a = (placeRun m t (l.drop i) f a).elim k0 (fun r => k2 r.1 r.2)
 | 0,i,f,a,h1,h2,h3 => by omega
 | n + 1,i,f,a,h1,h2,h3 => by
   unfold M.rplace_l0 M.rplace_l0_step
   simp only
   rw [cLt_nat]
   by_cases hi:i < l.length
   · have hr := tAdd_rng (V.q3 (atT m (pt l i))) t
     rw [if_pos (by simpa using hi),if_pos (by omega),drop_pt l i hi,toNat_nat]
     show (if (!V.pin_r0 (pt l i).1 (pt l i).2.1 (pt l i).2.2 1048576) = true then k0 else if _ then (if (!V.pin_r0 (V.pdown_r0 (V.x3 (atA m t (pt l i)))) (V.pdown_r0 (V.y3 (atA m t (pt l i)))) (V.pdown_r0 (V.z3 (atA m t (pt l i)))) 8388608) = true then k0 else if _ then M.rplace_l0 l t.1 t.2.1 t.2.2 m.1.1 m.1.2.1 m.1.2.2 m.2.1.1 m.2.1.2.1 m.2.1.2.2 m.2.2.1 m.2.2.2.1 m.2.2.2.2 (fun _ _ => k0) k2 n _ (V.on (atA m t (pt l i)) (V.on (atT m (pt l i)) f)) (a ++ [(V.pdown_r0 (V.x3 (atA m t (pt l i))),V.pdown_r0 (V.y3 (atA m t (pt l i))),V.pdown_r0 (V.z3 (atA m t (pt l i))))]) else none) else none) = _
     rw [show V.pdown_r0 (V.x3 (atA m t (pt l i))) = Int.fdiv (V.x3 (atA m t (pt l i))) 1048576 from pdown_fdiv _ hr.1,show V.pdown_r0 (V.y3 (atA m t (pt l i))) = Int.fdiv (V.y3 (atA m t (pt l i))) 1048576 from pdown_fdiv _ hr.2.1,show V.pdown_r0 (V.z3 (atA m t (pt l i))) = Int.fdiv (V.z3 (atA m t (pt l i))) 1048576 from pdown_fdiv _ hr.2.2,pin_dec _ _ _ _ (by omega),pin_dec _ _ _ _ (by omega)]
     show (if (!decide (Sm (pt l i) 1048576)) = true then k0 else if _ then (if (!decide (Sm (atQ m t (pt l i)) 8388608)) = true then k0 else _) else none) = _
     by_cases hs:Sm (pt l i) 1048576
     · rw [if_neg (by simpa using hs), if_pos (by omega)]
       by_cases hq:Sm (atQ m t (pt l i)) 8388608
       · rw [if_neg (by simpa using hq), if_pos (by omega), w_next (by omega)]
         have ew:placeRun m t (pt l i :: l.drop (i + 1)) f a = placeRun m t (l.drop (i + 1)) (V.on (atA m t (pt l i)) (V.on (atT m (pt l i)) f)) (a ++ [atQ m t (pt l i)]) := by
           show (if Sm (pt l i) 1048576 then _ else _) = _
           rw [if_pos hs,if_pos hq]
         rw [ew]
         exact rplace_l0_val l hl m t k0 k2 n (i + 1) _ _ (by omega) (by omega) (by rw [List.length_append,List.length_singleton]; omega)
       · rw [if_pos (by simpa using hq)]
         have ew:placeRun m t (pt l i :: l.drop (i + 1)) f a = none := by
           show (if Sm (pt l i) 1048576 then _ else _) = _
           rw [if_pos hs,if_neg hq]
         rw [ew]; rfl
     · rw [if_pos (by simpa using hs)]
       have ew:placeRun m t (pt l i :: l.drop (i + 1)) f a = none := by
         show (if Sm (pt l i) 1048576 then _ else _) = _
         rw [if_neg hs]
       rw [ew]; rfl
   · have : i = l.length := by omega
     subst this
     rw [if_neg (by simp)]
     simp [placeRun]
theorem placeRun_len (m:V.T9) (t:V.T3):∀ (l:List P3) (f:Bool) (a:List P3) (r:Bool × List P3),placeRun m t l f a = some r → r.2.length = a.length + l.length
 | [],f,a,r,h => by
   have h2:some (f,a) = some r := h
   injection h2 with h2
   subst h2; simp
 | p :: l,f,a,r,h => by
   have h2:(if Sm p 1048576 then (if Sm (atQ m t p) 8388608 then placeRun m t l (V.on (atA m t p) (V.on (atT m p) f)) (a ++ [atQ m t p]) else none) else none) = some r := h
   by_cases c1:Sm p 1048576
   · rw [if_pos c1] at h2
     by_cases c2:Sm (atQ m t p) 8388608
     · rw [if_pos c2] at h2
       have := placeRun_len m t l _ _ r h2
       simp at this ⊢; omega
     · rw [if_neg c2] at h2; simp at h2
   · rw [if_neg c1] at h2; simp at h2
noncomputable def _root_.Go.Proofs.YtlagndfhibkjpaaGreat.V.plR (r:Int) (o:Option (List P3 × List P3 × List P3)):Int := hid (if o.isSome = true then r else 0)
theorem rplK_if {α:Type} (m:V.T9) (l ax ed:List P3) (r:Int) (f:Bool) (a:List P3) (ha:a.length = l.length) (k0:Int → Bool → List P3 → List P3 → List P3 → Option α) :
   (if Prod.fst (Prod.snd (V.wy (Prod.fst (Prod.snd (V.wy f m ax))) m ed)) = true then k0 (0:Int) false [] [] []
       else
         if (!Prod.fst (V.wy f m ax)) = true then k0 (0:Int) false [] [] []
         else if (!Prod.fst (V.wy (Prod.fst (Prod.snd (V.wy f m ax))) m ed)) = true then k0 (0:Int) false [] [] [] else if cEq (↑(List.length l):Int) (0:Int) = true then k0 (0:Int) false [] [] [] else k0 r true a (V.wyL (V.wy f m ax)) (V.wyL (V.wy (Prod.fst (Prod.snd (V.wy f m ax))) m ed))) =
   k0 (V.plR r (plcK m ax ed f a)) (V.plG (plcK m ax ed f a)) (V.plP (plcK m ax ed f a)) (V.plA (plcK m ax ed f a)) (V.plE (plcK m ax ed f a)) := by
 unfold V.plR V.plG V.plP V.plA V.plE V.wyL
 simp only [hid_eq]
 rw [cEq_eq]
 by_cases h3:(V.wy (V.wy f m ax).2.1 m ed).2.1 = true
 · have e : plcK m ax ed f a = none := by unfold plcK; rw [if_neg (by rw [h3]; simp)]
   rw [e,if_pos h3]; rfl
 · rw [if_neg h3]
   by_cases h1:(V.wy f m ax).1 = true
   · rw [if_neg (by simpa using h1)]
     by_cases h2:(V.wy (V.wy f m ax).2.1 m ed).1 = true
     · rw [if_neg (by simpa using h2)]
       by_cases h4:l.length = 0
       · have e : plcK m ax ed f a = none := by unfold plcK; rw [if_neg (by rw [ha, h4]; simp)]
         rw [e,if_pos (by rw [h4]; rfl)]; rfl
       · have e : plcK m ax ed f a = some (a, (V.wy f m ax).2.2, (V.wy (V.wy f m ax).2.1 m ed).2.2) := by
           unfold plcK; rw [if_pos ⟨h1,h2,by simpa using h3,by omega⟩]
         rw [e,if_neg (by simpa using h4),if_pos h1,if_pos h2]; rfl
     · have e : plcK m ax ed f a = none := by unfold plcK; rw [if_neg (fun h => h2 h.2.1)]
       rw [e,if_pos (by simpa using h2)]; rfl
   · have e : plcK m ax ed f a = none := by unfold plcK; rw [if_neg (fun h => h1 h.1)]
     rw [e,if_pos (by simpa using h1)]; rfl
theorem rplace_v {α:Type} (l ax ed:List P3) (r px p_y pz tw tx ty tz:Int) (h1:V.lenB l.length = true) (h2:V.lenB ax.length = true) (h3:V.lenB ed.length = true) (k0:Int → Bool → List P3 → List P3 → List P3 → Option α) :
   M.rplace l ax ed r px p_y pz tw tx ty tz k0 = k0 (V.plR r (V.plc l ax ed (px,p_y,pz) (tw,tx,ty,tz))) (V.plG (V.plc l ax ed (px,p_y,pz) (tw,tx,ty,tz))) (V.plP (V.plc l ax ed (px,p_y,pz) (tw,tx,ty,tz))) (V.plA (V.plc l ax ed (px,p_y,pz) (tw,tx,ty,tz))) (V.plE (V.plc l ax ed (px,p_y,pz) (tw,tx,ty,tz))) := by
 unfold M.rplace
 simp only [if_pos h2,if_pos h3]
 refine Eq.trans (rplace_l0_val l (lenB_lt h1) (V.q9 (V.tRows (tw,tx,ty,tz))) (px,p_y,pz) _ _ _ 0 _ [] (by omega) (by omega) (by simp)) ?_
 rw [List.drop_zero]
 have e:V.plc l ax ed (px,p_y,pz) (tw,tx,ty,tz) = plcP l ax ed (px,p_y,pz) (tw,tx,ty,tz) := by unfold V.plc; rw [hid_eq]
 rw [e]
 unfold plcP
 cases hp:placeRun (V.q9 (V.tRows (tw,tx,ty,tz))) (px,p_y,pz) l (V.on (V.tRows (tw,tx,ty,tz)) false) [] with
 | none => unfold V.plR V.plG V.plP V.plA V.plE; simp only [hid_eq]; rfl
 | some p =>
   have := placeRun_len _ _ _ _ _ _ hp
   exact rplK_if (V.q9 (V.tRows (tw,tx,ty,tz))) l ax ed r p.1 p.2 (by simpa using this) k0
noncomputable def rplace_h {α:Type} (ds:List D) (Q:SV → Hp → Option α):Option α :=
 dL kP ds fun l ds => dL kP ds fun ax ds => dL kP ds fun ed ds => dI ds fun r ds => dI ds fun px ds => dI ds fun p_y ds => dI ds fun pz ds => dI ds fun tw ds => dI ds fun tx ds => dI ds fun ty ds => dI ds fun tz ds => dE ds (if V.lenB l.length = true ∧ V.lenB ax.length = true ∧ V.lenB ed.length = true then Q (.tup [.agg [.sl 0,.sl 1,.sl 2,.int .i64 (V.plR r (V.plc l ax ed (px,p_y,pz) (tw,tx,ty,tz)))],.bool (V.plG (V.plc l ax ed (px,p_y,pz) (tw,tx,ty,tz)))]) ([.seq (.st (.i .i64) [.i .i64,.i .i64]) (V.plP (V.plc l ax ed (px,p_y,pz) (tw,tx,ty,tz))) 23,.seq (.st (.i .i64) [.i .i64,.i .i64]) (V.plA (V.plc l ax ed (px,p_y,pz) (tw,tx,ty,tz))) 23,.seq (.st (.i .i64) [.i .i64,.i .i64]) (V.plE (V.plc l ax ed (px,p_y,pz) (tw,tx,ty,tz))) 23]) else none)
theorem rplace_h_ok {α:Type}:FnOk E.P 21 (fEnt (α := α) rplace_sp rplace_h) :=
 fEntR_ok E (look_rways_ok) (exec_sound E E_ok (look_rways_ok) (rplace_l0_lps_ok) 400) fun ds Q r h => by
   unfold rplace_h at h
   obtain ⟨l,ds,rfl,h1⟩ := dL_inv h
   obtain ⟨ax,ds,rfl,h2⟩ := dL_inv h1
   obtain ⟨ed,ds,rfl,h3⟩ := dL_inv h2
   obtain ⟨r,ds,rfl,h4⟩ := dI_inv h3
   obtain ⟨px,ds,rfl,h5⟩ := dI_inv h4
   obtain ⟨p_y,ds,rfl,h6⟩ := dI_inv h5
   obtain ⟨pz,ds,rfl,h7⟩ := dI_inv h6
   obtain ⟨tw,ds,rfl,h8⟩ := dI_inv h7
   obtain ⟨tx,ds,rfl,h9⟩ := dI_inv h8
   obtain ⟨ty,ds,rfl,h10⟩ := dI_inv h9
   obtain ⟨tz,ds,rfl,h11⟩ := dI_inv h10
   obtain ⟨rfl,hE⟩ := dE_inv h11
   split at hE
   · rename_i hg
     exact ⟨_,_,hE,fun vs => ⟨_,_,by kernel_rfl,(rplace_eq l ax ed r px p_y pz tw tx ty tz ((cellsV (vs.headD undef)).headD undef) ((cellsV (vs.headD undef)).tail.headD undef) ((cellsV (vs.headD undef)).tail.tail.headD undef) _).trans (rplace_v l ax ed r px p_y pz tw tx ty tz hg.1 hg.2.1 hg.2.2 _)⟩⟩
   · cases hE
noncomputable def look_rplace {α:Type}:LookF α := addFn 21 (fEnt rplace_sp rplace_h) look_rways
theorem look_rplace_ok {α:Type}:LookOk E.P (look_rplace (α := α)) := addFn_ok rplace_h_ok (look_rways_ok)
end
section
open Go
set_option maxRecDepth 20000
noncomputable def M.pawake {α:Type} (k0:Bool → Option α):Option α := if V.lenB (List.length (V.corP (1:Int) (5:Int) (0:Int) (0:Int) (0:Int) [])) = true ∧ V.lenB (List.length (V.corA (1:Int) (5:Int) (0:Int) (0:Int) (0:Int) [])) = true ∧ V.lenB (List.length (V.corE (1:Int) (5:Int) (0:Int) (0:Int) (0:Int) [])) = true then if V.plG (V.plc (V.corP (1:Int) (5:Int) (0:Int) (0:Int) (0:Int) []) (V.corA (1:Int) (5:Int) (0:Int) (0:Int) (0:Int) []) (V.corE (1:Int) (5:Int) (0:Int) (0:Int) (0:Int) []) ((4294967296:Int),(0:Int),(-1:Int)) ((4294967296:Int),(0:Int),(0:Int),(0:Int))) = true then if V.lenB (List.length (V.plP (V.plc (V.corP (1:Int) (5:Int) (0:Int) (0:Int) (0:Int) []) (V.corA (1:Int) (5:Int) (0:Int) (0:Int) (0:Int) []) (V.corE (1:Int) (5:Int) (0:Int) (0:Int) (0:Int) []) ((4294967296:Int),(0:Int),(-1:Int)) ((4294967296:Int),(0:Int),(0:Int),(0:Int))))) = true then if cEq (V.chk (1:Int) (5:Int) (0:Int) (0:Int) (0:Int) []) (0:Int) = true then if cEq (↑(List.length (V.plP (V.plc (V.corP (1:Int) (5:Int) (0:Int) (0:Int) (0:Int) []) (V.corA (1:Int) (5:Int) (0:Int) (0:Int) (0:Int) []) (V.corE (1:Int) (5:Int) (0:Int) (0:Int) (0:Int) []) ((4294967296:Int),(0:Int),(-1:Int)) ((4294967296:Int),(0:Int),(0:Int),(0:Int))))):Int) (1:Int) = true then if (0:Int) ≤ (0:Int) ∧ (0:Int) < (↑(List.length (V.plP (V.plc (V.corP (1:Int) (5:Int) (0:Int) (0:Int) (0:Int) []) (V.corA (1:Int) (5:Int) (0:Int) (0:Int) (0:Int) []) (V.corE (1:Int) (5:Int) (0:Int) (0:Int) (0:Int) []) ((4294967296:Int),(0:Int),(-1:Int)) ((4294967296:Int),(0:Int),(0:Int),(0:Int))))):Int) then if (cEq (Prod.fst (List.getD (V.plP (V.plc (V.corP (1:Int) (5:Int) (0:Int) (0:Int) (0:Int) []) (V.corA (1:Int) (5:Int) (0:Int) (0:Int) (0:Int) []) (V.corE (1:Int) (5:Int) (0:Int) (0:Int) (0:Int) []) ((4294967296:Int),(0:Int),(-1:Int)) ((4294967296:Int),(0:Int),(0:Int),(0:Int)))) (0:Nat) ((0:Int),(0:Int),(0:Int)))) (4096:Int) && (cEq (Prod.fst (Prod.snd (List.getD (V.plP (V.plc (V.corP (1:Int) (5:Int) (0:Int) (0:Int) (0:Int) []) (V.corA (1:Int) (5:Int) (0:Int) (0:Int) (0:Int) []) (V.corE (1:Int) (5:Int) (0:Int) (0:Int) (0:Int) []) ((4294967296:Int),(0:Int),(-1:Int)) ((4294967296:Int),(0:Int),(0:Int),(0:Int)))) (0:Nat) ((0:Int),(0:Int),(0:Int))))) (0:Int) && (cEq (Prod.snd (Prod.snd (List.getD (V.plP (V.plc (V.corP (1:Int) (5:Int) (0:Int) (0:Int) (0:Int) []) (V.corA (1:Int) (5:Int) (0:Int) (0:Int) (0:Int) []) (V.corE (1:Int) (5:Int) (0:Int) (0:Int) (0:Int) []) ((4294967296:Int),(0:Int),(-1:Int)) ((4294967296:Int),(0:Int),(0:Int),(0:Int)))) (0:Nat) ((0:Int),(0:Int),(0:Int))))) (-1:Int) && true))) = true then k0 (cEq (Prod.fst (V.spn (V.plP (V.plc (V.corP (1:Int) (5:Int) (0:Int) (0:Int) (0:Int) []) (V.corA (1:Int) (5:Int) (0:Int) (0:Int) (0:Int) []) (V.corE (1:Int) (5:Int) (0:Int) (0:Int) (0:Int) []) ((4294967296:Int),(0:Int),(-1:Int)) ((4294967296:Int),(0:Int),(0:Int),(0:Int)))) (V.corR (1:Int) (5:Int) (0:Int) (0:Int) (0:Int) []))) (4091:Int) && (cEq (Prod.fst (Prod.snd (V.spn (V.plP (V.plc (V.corP (1:Int) (5:Int) (0:Int) (0:Int) (0:Int) []) (V.corA (1:Int) (5:Int) (0:Int) (0:Int) (0:Int) []) (V.corE (1:Int) (5:Int) (0:Int) (0:Int) (0:Int) []) ((4294967296:Int),(0:Int),(-1:Int)) ((4294967296:Int),(0:Int),(0:Int),(0:Int)))) (V.corR (1:Int) (5:Int) (0:Int) (0:Int) (0:Int) [])))) (-5:Int) && (cEq (Prod.fst (Prod.snd (Prod.snd (V.spn (V.plP (V.plc (V.corP (1:Int) (5:Int) (0:Int) (0:Int) (0:Int) []) (V.corA (1:Int) (5:Int) (0:Int) (0:Int) (0:Int) []) (V.corE (1:Int) (5:Int) (0:Int) (0:Int) (0:Int) []) ((4294967296:Int),(0:Int),(-1:Int)) ((4294967296:Int),(0:Int),(0:Int),(0:Int)))) (V.corR (1:Int) (5:Int) (0:Int) (0:Int) (0:Int) []))))) (-6:Int) && true)) && (cEq (Prod.fst (Prod.snd (Prod.snd (Prod.snd (V.spn (V.plP (V.plc (V.corP (1:Int) (5:Int) (0:Int) (0:Int) (0:Int) []) (V.corA (1:Int) (5:Int) (0:Int) (0:Int) (0:Int) []) (V.corE (1:Int) (5:Int) (0:Int) (0:Int) (0:Int) []) ((4294967296:Int),(0:Int),(-1:Int)) ((4294967296:Int),(0:Int),(0:Int),(0:Int)))) (V.corR (1:Int) (5:Int) (0:Int) (0:Int) (0:Int) [])))))) (4101:Int) && (cEq (Prod.fst (Prod.snd (Prod.snd (Prod.snd (Prod.snd (V.spn (V.plP (V.plc (V.corP (1:Int) (5:Int) (0:Int) (0:Int) (0:Int) []) (V.corA (1:Int) (5:Int) (0:Int) (0:Int) (0:Int) []) (V.corE (1:Int) (5:Int) (0:Int) (0:Int) (0:Int) []) ((4294967296:Int),(0:Int),(-1:Int)) ((4294967296:Int),(0:Int),(0:Int),(0:Int)))) (V.corR (1:Int) (5:Int) (0:Int) (0:Int) (0:Int) []))))))) (5:Int) && (cEq (Prod.snd (Prod.snd (Prod.snd (Prod.snd (Prod.snd (V.spn (V.plP (V.plc (V.corP (1:Int) (5:Int) (0:Int) (0:Int) (0:Int) []) (V.corA (1:Int) (5:Int) (0:Int) (0:Int) (0:Int) []) (V.corE (1:Int) (5:Int) (0:Int) (0:Int) (0:Int) []) ((4294967296:Int),(0:Int),(-1:Int)) ((4294967296:Int),(0:Int),(0:Int),(0:Int)))) (V.corR (1:Int) (5:Int) (0:Int) (0:Int) (0:Int) []))))))) (4:Int) && true)) && true)) else k0 false else none else k0 false else k0 false else none else if V.lenB (0:Nat) = true then if cEq (V.chk (1:Int) (5:Int) (0:Int) (0:Int) (0:Int) []) (0:Int) = true then k0 false else k0 false else none else none
theorem pawake_eq {α:Type} (Q:SV → Hp → Option α):callI E look_place (exec E look_place noLps 400) 20 ([]) ([]) Q = M.pawake (fun (x0:Bool) => Q (SV.bool x0) ([])) := by kernel_rfl
def pawake_sp:List AS := []
theorem plG_some (t:List P3 × List P3 × List P3):V.plG (some t) = true := hid_eq _
theorem plP_some (t:List P3 × List P3 × List P3):V.plP (some t) = t.1 := hid_eq _
theorem plA_some (t:List P3 × List P3 × List P3):V.plA (some t) = t.2.1 := hid_eq _
theorem plE_some (t:List P3 × List P3 × List P3):V.plE (some t) = t.2.2 := hid_eq _
def idM:V.T9 := ((4294967296,0,0),(0,4294967296,0),(0,0,4294967296))
theorem id_rows:V.tRows (4294967296,0,0,0) = some idM := by decide +kernel
theorem wy_nil (f:Bool) (m:V.T9):V.wy f m [] = (true,f,[]) := hid_eq _
theorem aw_plc:V.plc [(0,0,0)] [] [] (4294967296,0,-1) (4294967296,0,0,0) = some ([(4096,0,-1)],[],[]) := by
 unfold V.plc
 rw [hid_eq]
 unfold plcP
 rw [id_rows]
 have hA:atT idM (0,0,0) = some (0,0,0) := by decide +kernel
 have hB:atA idM (4294967296,0,-1) (0,0,0) = some (4294967296,0,-1) := by decide +kernel
 have hQ:atQ idM (4294967296,0,-1) (0,0,0) = (4096,0,-1) := by decide +kernel
 have hr:placeRun (V.q9 (some idM)) (4294967296,0,-1) [(0,0,0)] (V.on (some idM) false) [] = some (false,[(4096,0,-1)]) := by
   show (if Sm (0,0,0) 1048576 then (if Sm (atQ idM (4294967296,0,-1) (0,0,0)) 8388608 then some (V.on (atA idM (4294967296,0,-1) (0,0,0)) (V.on (atT idM (0,0,0)) false),[] ++ [atQ idM (4294967296,0,-1) (0,0,0)]) else none) else none) = _
   rw [hA,hB,hQ,if_pos (by decide),if_pos (by decide)]
   rfl
 rw [hr]
 show plcK (V.q9 (some idM)) [] [] false [(4096,0,-1)] = _
 unfold plcK
 rw [wy_nil,wy_nil]
 rfl
theorem pawake_v {α:Type} (k0:Bool → Option α):M.pawake k0 = k0 true := by
 have h0:chkP 1 5 0 0 0 [] = 0 := by unfold chkP; rw [if_pos rfl,if_pos (by decide)]
 have c0:V.chk 1 5 0 0 0 [] = 0 := (hid_eq _).trans h0
 have cP:V.corP 1 5 0 0 0 [] = [(0,0,0)] := by unfold V.corP; rw [hid_eq,if_pos h0]; rfl
 have cA:V.corA 1 5 0 0 0 [] = [] := by unfold V.corA; rw [hid_eq,if_pos h0]; rfl
 have cE:V.corE 1 5 0 0 0 [] = [] := by unfold V.corE; rw [hid_eq,if_pos h0]; rfl
 have cR:V.corR 1 5 0 0 0 [] = 5 := by unfold V.corR; rw [hid_eq,if_pos h0]
 have cS:V.spn [(4096,0,-1)] 5 = (4091,-5,-6,4101,5,4) := by unfold V.spn; rw [hid_eq]; decide +kernel
 unfold M.pawake
 rw [c0,cP,cA,cE,cR,aw_plc,plG_some,plP_some]
 show (if _ then if true = true then if V.lenB (List.length ([(4096,0,-1)]:List P3)) = true then _ else _ else _ else _) = _
 rw [if_pos ⟨lenB_of (by decide),lenB_of (by decide),lenB_of (by decide)⟩,if_pos rfl,if_pos (lenB_of (by decide)),cS]
 simp [cEq_eq]
noncomputable def pawake_h {α:Type} (ds:List D) (Q:SV → Hp → Option α):Option α :=
 dE ds (Q (.bool true) ([]))
theorem pawake_h_ok {α:Type}:FnOk E.P 20 (fEnt (α := α) pawake_sp pawake_h) :=
 fEnt_ok E (look_place_ok) (exec_sound E E_ok (look_place_ok) (noLps_ok _) 400) fun ds Q r h => by
   unfold pawake_h at h
   obtain ⟨rfl,hE⟩ := dE_inv h
   exact ⟨[],[],fun vs => by kernel_rfl,(pawake_eq Q).trans ((pawake_v _).trans hE)⟩
end
end Go.Proofs.YtlagndfhibkjpaaGreat.Sx
