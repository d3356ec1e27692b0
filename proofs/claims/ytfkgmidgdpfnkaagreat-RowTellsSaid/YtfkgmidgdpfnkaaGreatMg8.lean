/- Texts of the walk, merged. -/
import Derived.Test.YtfkgmidgdpfnkaaGreatMg5
import Derived.Test.YtfkgmidgdpfnkaaGreatMg7
set_option linter.unusedVariables false
set_option linter.unusedSimpArgs false
namespace Go.Proofs.YtfkgmidgdpfnkaaGreat.Sx
section
open Go
set_option maxRecDepth 20000
def val:List Int → Int
 | [] => 0
 | d :: ds => d + 16777216 * val ds
def okD:List Int → Bool
 | [] => true
 | d :: ds => (decide (0 ≤ d) && decide (d < 16777216)) && okD ds
def _root_.Go.Proofs.YtfkgmidgdpfnkaaGreat.V.ok8 (D:List Int):Bool := D.length == 8 && okD D
theorem okD_cons {d:Int} {ds:List Int}:okD (d :: ds) = true ↔ (0 ≤ d ∧ d < 16777216) ∧ okD ds = true := by simp [okD]
theorem okD_append {l m:List Int}:okD (l ++ m) = true ↔ okD l = true ∧ okD m = true := by
 induction l with
 | nil => simp [okD]
 | cons d l ih => rw [List.cons_append,okD_cons,okD_cons,ih]; exact ⟨fun ⟨a,b,c⟩ => ⟨⟨a,b⟩,c⟩,fun ⟨⟨a,b⟩,c⟩ => ⟨a,b,c⟩⟩
theorem pB (n:Nat):(0:Int) < 16777216 ^ n := Int.pow_pos (by decide)
theorem pB1 (n:Nat):(16777216:Int) ^ (n + 1) = 16777216 * 16777216 ^ n := by rw [Int.pow_succ,Int.mul_comm]
theorem val_bound:∀ {D:List Int},okD D = true → 0 ≤ val D ∧ val D < 16777216 ^ D.length
 | [],_ => by simp [val]
 | d :: ds,h => by
   rw [okD_cons] at h
   have := val_bound h.2
   rw [List.length_cons,pB1]
   unfold val
   omega
theorem val_append:∀ (l m:List Int),val (l ++ m) = val l + 16777216 ^ l.length * val m
 | [],m => by simp [val]
 | d :: l,m => by
   rw [List.cons_append,val,val,val_append l m,List.length_cons,pB1]; grind
theorem okD_take {D:List Int} (h:okD D = true) (n:Nat):okD (D.take n) = true := by
 rw [← List.take_append_drop n D,okD_append] at h; exact h.1
theorem okD_drop {D:List Int} (h:okD D = true) (n:Nat):okD (D.drop n) = true := by
 rw [← List.take_append_drop n D,okD_append] at h; exact h.2
theorem okD_get:∀ {D:List Int},okD D = true → ∀ i,0 ≤ D.getD i 0 ∧ D.getD i 0 < 16777216
 | [],_,i => by simp
 | d :: ds,h,0 => by rw [okD_cons] at h; simpa using h.1
 | d :: ds,h,i + 1 => by rw [okD_cons] at h; simpa using okD_get h.2 i
theorem mod_split (a b M:Int) (hM:0 < M):(a + 16777216 * b) % (16777216 * M) = a % 16777216 + 16777216 * ((b + a / 16777216) % M) := by
 have e1:a + 16777216 * b = (a % 16777216 + 16777216 * ((b + a / 16777216) % M)) + 16777216 * M * ((b + a / 16777216) / M) := by
   have h1:16777216 * (a / 16777216) + a % 16777216 = a := Int.mul_ediv_add_emod a 16777216
   have h2:M * ((b + a / 16777216) / M) + (b + a / 16777216) % M = b + a / 16777216 := Int.mul_ediv_add_emod _ M
   grind
 rw [e1,Int.add_mul_emod_self_left]
 apply Int.emod_eq_of_lt
 · have := Int.emod_nonneg (b + a / 16777216) (show M ≠ 0 by omega)
   omega
 · have := Int.emod_lt_of_pos (b + a / 16777216) hM
   have h3:16777216 * ((b + a / 16777216) % M + 1) ≤ 16777216 * M := by omega
   omega
theorem take_set_succ {o:List Int} {i:Nat} (x:Int) (h:i < o.length):(o.set i x).take (i + 1) = o.take i ++ [x] := by
 rw [List.take_add_one]
 simp [h,List.take_set_of_le]
theorem drop_set_succ {o:List Int} {i:Nat} (x:Int):(o.set i x).drop (i + 1) = o.drop (i + 1) := by
 rw [List.drop_set_of_lt (by omega)]
noncomputable abbrev of_S1 (y1 y2:Int) (y3:Bool) (y4:List Int) (y5:Bool) (y6:List Int):St := St.mk (none :: none :: some (SV.ptr (nat_lit 0) (nat_lit 0)) :: some (SV.ptr (nat_lit 1) (nat_lit 0)) :: some (SV.int IntKind.u64 y1) :: some (SV.int .i64 y2) :: nn 22 ([])) [.cells [SV.bool y3,SV.arr (K.int IntKind.i64) y4 (nat_lit 8)] (nat_lit 138),.cells [SV.bool y5,SV.arr (K.int IntKind.i64) y6 (nat_lit 8)] (nat_lit 138)]
noncomputable abbrev of_S2 (y1:Bool) (y2:List Int) (y3:Bool) (y4:List Int):St := St.mk (none :: none :: some (SV.ptr (nat_lit 0) (nat_lit 0)) :: some (SV.ptr (nat_lit 1) (nat_lit 0)) :: nn 24 ([])) [.cells [SV.bool y1,SV.arr (K.int IntKind.i64) y2 (nat_lit 8)] (nat_lit 138),.cells [SV.bool y3,SV.arr (K.int IntKind.i64) y4 (nat_lit 8)] (nat_lit 138)]
noncomputable abbrev of_S3:St := St.mk (none :: none :: some (SV.ptr (nat_lit 0) (nat_lit 0)) :: some (SV.ptr (nat_lit 1) (nat_lit 0)) :: some (SV.int IntKind.u64 (0:Int)) :: some (SV.int .i64 (0:Int)) :: nn 22 ([])) [.cells [SV.bool false,SV.arr (K.int IntKind.i64) [] (nat_lit 8)] (nat_lit 138),.cells [SV.bool false,SV.arr (K.int IntKind.i64) [] (nat_lit 8)] (nat_lit 138)]
abbrev of_P1:List Bool := [false,true,false,true,true,true,true,true]
noncomputable def M.of_l0_step {α:Type} (kn:Int → Int → List Int → Option α) (k1:List Int → Option α) (x6 x7:Int) (x11:List Int):Option α := if cLt x7 (8:Int) = true then if (0:Int) ≤ x7 ∧ x7 < (8:Int) then kn (IntKind.wrap IntKind.u64 (Int.tdiv x6 (16777216:Int))) (IntKind.wrap .i64 (x7 + (1:Int))) (List.set x11 (Int.toNat x7) (IntKind.wrap .i64 (Int.tmod x6 (16777216:Int)))) else none else k1 x11
noncomputable def M.of_l0 {α:Type} (k1:List Int → Option α):Nat → Int → Int → List Int → Option α
 | 0,_,_,_ => none
 | n + 1,x6,x7,x11 => M.of_l0_step (M.of_l0 k1 n) k1 x6 x7 x11
theorem of_l0_step_eq {α:Type} (x6 x7:Int) (x8:Bool) (x9:List Int) (x10:Bool) (x11:List Int) (Q:Ex → St → Option α):(loopStep E (exec E look_div64 noLps 400) 113 of_P1 0 (codeAt E.P 113 of_P1)) (of_S1 x6 x7 x8 x9 x10 x11) Q = M.of_l0_step (fun (x13 x14:Int) (x15:List Int) => Q .normal (of_S1 x13 x14 x8 x9 x10 x15)) (fun (x12:List Int) => Q (.exit 0) (of_S2 x8 x9 x10 x12)) x6 x7 x11 := by kernel_rfl
theorem of_l0_iter {α:Type} (x8:Bool) (x9:List Int) (x10:Bool) (Q:Ex → St → Option α):∀ (n:Nat) (x6 x7:Int) (x11:List Int),iter (loopStep E (exec E look_div64 noLps 400) 113 of_P1 0 (codeAt E.P 113 of_P1)) n (of_S1 x6 x7 x8 x9 x10 x11) Q = M.of_l0 (fun (x12:List Int) => Q (.exit 0) (of_S2 x8 x9 x10 x12)) n x6 x7 x11
 | 0,_,_,_ => rfl
 | n + 1,x6,x7,x11 => (of_l0_step_eq x6 x7 x8 x9 x10 x11 (iterK (loopStep E (exec E look_div64 noLps 400) 113 of_P1 0 (codeAt E.P 113 of_P1)) n Q)).trans (congrArg (fun kn => M.of_l0_step kn (fun (x12:List Int) => Q (.exit 0) (of_S2 x8 x9 x10 x12)) x6 x7 x11) (funext fun x6 => funext fun x7 => funext fun x11 => of_l0_iter x8 x9 x10 Q n x6 x7 x11))
noncomputable def of_l0_go {α:Type} (ds:List D) (Q:Ex → St → Option α):Option α :=
 dI ds fun x6 ds => dI ds fun x7 ds => dB ds fun x8 ds => dL (K.int IntKind.i64) ds fun x9 ds => dB ds fun x10 ds => dL (K.int IntKind.i64) ds fun x11 ds => dE ds (M.of_l0 (fun (x12:List Int) => Q (.exit 0) (of_S2 x8 x9 x10 x12)) (100 + x9.length + x11.length) x6 x7 x11)
theorem of_l0_ok {α:Type}:LoopOk E.P 113 of_P1 0 (lEnt (α := α) (of_S3) of_l0_go) :=
 lEnt_ok E (exec_sound E E_ok (look_div64_ok) (noLps_ok _) 400) fun ds Q r h S hS => by
   unfold of_l0_go at h
   obtain ⟨x6,ds,rfl,h1⟩ := dI_inv h
   obtain ⟨x7,ds,rfl,h2⟩ := dI_inv h1
   obtain ⟨x8,ds,rfl,h3⟩ := dB_inv h2
   obtain ⟨x9,ds,rfl,h4⟩ := dL_inv h3
   obtain ⟨x10,ds,rfl,h5⟩ := dB_inv h4
   obtain ⟨x11,ds,rfl,h6⟩ := dL_inv h5
   obtain ⟨rfl,hE⟩ := dE_inv h6
   have e:fillS (of_S3) [.i x6,.i x7,.b x8,.l (K.int IntKind.i64) x9,.b x10,.l (K.int IntKind.i64) x11] = some (of_S1 x6 x7 x8 x9 x10 x11) := by kernel_rfl
   rw [e] at hS
   cases hS
   exact ⟨_,(of_l0_iter x8 x9 x10 Q _ x6 x7 x11).trans hE⟩
noncomputable def of_l0_lps {α:Type}:LookL α := addLp 113 of_P1 0 (lEnt (of_S3) of_l0_go) noLps
theorem of_l0_lps_ok {α:Type}:LoopsOk E.P (of_l0_lps (α := α)) := addLp_ok of_l0_ok (noLps_ok _)
noncomputable def M.of {α:Type} (n:Int) (k0:Bool → List Int → Option α):Option α := if cLt n (0:Int) = true then M.of_l0 (fun (x16:List Int) ↦ k0 (cLt n (0:Int)) x16) (116:Nat) (IntKind.wrap IntKind.u64 ((0:Int) - IntKind.wrap IntKind.u64 n)) (0:Int) (List.replicate (8:Nat) (0:Int)) else M.of_l0 (fun (x17:List Int) ↦ k0 (cLt n (0:Int)) x17) (116:Nat) (IntKind.wrap IntKind.u64 n) (0:Int) (List.replicate (8:Nat) (0:Int))
theorem of_eq {α:Type} (n:Int) (Q:SV → Hp → Option α):callI E look_div64 (exec E look_div64 of_l0_lps 400) 113 ([SV.int .i64 n]) ([]) Q = M.of n (fun (x18:Bool) (x19:List Int) => Q (SV.agg [SV.bool x18,SV.arr (K.int IntKind.i64) x19 (nat_lit 8)]) ([])) := by kernel_rfl
def of_sp:List AS := [.val (.int .i64 0)]
def ofD:Nat → Int → List Int
 | 0,_ => []
 | k + 1,u => u % 16777216 :: ofD k (u / 16777216)
theorem ofD_len:∀ (k:Nat) (u:Int),(ofD k u).length = k
 | 0,_ => rfl
 | k + 1,u => by simp [ofD,ofD_len k]
theorem ofD_ok:∀ (k:Nat) (u:Int),okD (ofD k u) = true
 | 0,_ => rfl
 | k + 1,u => by rw [ofD,okD_cons]; exact ⟨by omega,ofD_ok k _⟩
theorem ofD_val:∀ (k:Nat) (u:Int),val (ofD k u) = u % 16777216 ^ k
 | 0,u => by simp [ofD,val]
 | k + 1,u => by
   rw [ofD,val,ofD_val k,pB1]
   have := mod_split u 0 (16777216 ^ k) (pB k)
   simp only [Int.mul_zero,Int.add_zero,Int.zero_add] at this
   rw [this]
theorem of_l0_val {α:Type} (k1:List Int → Option α):∀ (fuel i:Nat) (u:Int) (o:List Int),i ≤ 8 → 8 - i < fuel → o.length = 8 → 0 ≤ u → u < 18446744073709551616 →
   M.of_l0 k1 fuel u (i:Int) o = k1 (o.take i ++ ofD (8 - i) u)
 | 0,i,u,o,h1,h2,_,_,_ => by omega
 | n + 1,i,u,o,h1,h2,ho,hu0,hu1 => by
   unfold M.of_l0 M.of_l0_step
   rw [cLt_eq]
   by_cases hi:i < 8
   · have c1 : (i : Int) < 8 := by omega
     have c2:(0:Int) ≤ (i:Int) := by omega
     simp only [c1,c2,decide_true,if_true,and_self]
     rw [Int.tdiv_eq_ediv_of_nonneg hu0,Int.tmod_eq_emod_of_nonneg hu0,u64_in' (by omega) (by omega),IntWalk.i64_in ((i:Int) + 1) (by omega),IntWalk.i64_in (u % 16777216) (by omega)]
     have := of_l0_val k1 n (i + 1) (u / 16777216) (o.set i (u % 16777216)) (by omega) (by omega) (by simpa using ho) (by omega) (by omega)
     push_cast at this
     rw [Int.toNat_natCast,this,take_set_succ _ (by omega)]
     rw [show 8 - i = (7 - i) + 1 by omega,ofD,List.append_assoc,List.singleton_append]
   · have : i = 8 := by omega
     subst this
     have e:¬ ((8:Nat):Int) < 8 := by omega
     simp only [e,decide_false,Bool.false_eq_true,if_false,Nat.sub_self,ofD,List.append_nil]
     rw [List.take_of_length_le (by omega)]
def _root_.Go.Proofs.YtfkgmidgdpfnkaaGreat.V.ofN (n:Int):List Int := ofD 8 (if n < 0 then -n else n)
theorem of_v {α:Type} (n:Int) (h:-9223372036854775808 ≤ n ∧ n < 9223372036854775808) (k0:Bool → List Int → Option α):M.of n k0 = k0 (decide (n < 0)) (V.ofN n) := by
 unfold M.of V.ofN
 rw [cLt_eq]
 have len:(List.replicate 8 (0:Int)).length = 8 := rfl
 by_cases hn:n < 0
 · have e : IntKind.wrap .u64 (0 - IntKind.wrap .u64 n) = -n := by simp only [IntKind.wrap_u64]; omega
   simp only [hn,decide_true,if_true]
   have := of_l0_val (fun x => k0 true x) 116 0 (-n) (List.replicate 8 0) (by omega) (by omega) len (by omega) (by omega)
   rw [Int.natCast_zero] at this
   rw [e,this]; rfl
 · have e : IntKind.wrap .u64 n = n := u64_in' (by omega) (by omega)
   simp only [hn,decide_false,Bool.false_eq_true,if_false]
   have := of_l0_val (fun x => k0 false x) 116 0 n (List.replicate 8 0) (by omega) (by omega) len (by omega) (by omega)
   rw [Int.natCast_zero] at this
   rw [e,this]; rfl
theorem ofN_ok (n:Int):V.ok8 (V.ofN n) = true := by unfold V.ok8 V.ofN; rw [ofD_len,ofD_ok]; rfl
theorem ofN_val {n:Int} (h:-9223372036854775808 ≤ n ∧ n < 9223372036854775808):val (V.ofN n) = if n < 0 then -n else n := by
 unfold V.ofN
 rw [ofD_val]
 have e:(16777216:Int) ^ 8 = 6277101735386680763835789423207666416102355444464034512896 := by kernel_rfl
 rw [e]
 split <;> omega
noncomputable def of_h {α:Type} (ds:List D) (Q:SV → Hp → Option α):Option α :=
 dI ds fun n ds => dE ds (if -9223372036854775808 ≤ n ∧ n < 9223372036854775808 then Q (.agg [.bool (decide (n < 0)),.arr (.int .i64) (V.ofN n) 8]) ([]) else none)
theorem of_h_ok {α:Type}:FnOk E.P 113 (fEnt (α := α) of_sp of_h) :=
 fEnt_ok E (look_div64_ok) (exec_sound E E_ok (look_div64_ok) (of_l0_lps_ok) 400) fun ds Q r h => by
   unfold of_h at h
   obtain ⟨n,ds,rfl,h1⟩ := dI_inv h
   obtain ⟨rfl,hE⟩ := dE_inv h1
   split at hE
   · rename_i hg
     exact ⟨[SV.int .i64 n],[],fun vs => by kernel_rfl,(of_eq n Q).trans ((of_v n hg _).trans hE)⟩
   · cases hE
noncomputable def look_of {α:Type}:LookF α := addFn 113 (fEnt of_sp of_h) look_div64
theorem look_of_ok {α:Type}:LookOk E.P (look_of (α := α)) := addFn_ok of_h_ok (look_div64_ok)
noncomputable abbrev rsize_S1 (y1:Int) (y2:Bool) (y3:List Int) (y4:Bool) (y5:List Int):St := St.mk (none :: none :: some (SV.ptr (nat_lit 0) (nat_lit 0)) :: some (SV.ptr (nat_lit 1) (nat_lit 0)) :: none :: some (SV.int .i64 y1) :: nn 22 ([])) [.cells [SV.bool y2,SV.arr (K.int IntKind.i64) y3 (nat_lit 8)] (nat_lit 138),.cells [SV.bool y4,SV.arr (K.int IntKind.i64) y5 (nat_lit 8)] (nat_lit 138)]
noncomputable abbrev rsize_S2:St := St.mk (none :: none :: some (SV.ptr (nat_lit 0) (nat_lit 0)) :: some (SV.ptr (nat_lit 1) (nat_lit 0)) :: none :: some (SV.int .i64 (0:Int)) :: nn 22 ([])) [.cells [SV.bool false,SV.arr (K.int IntKind.i64) [] (nat_lit 8)] (nat_lit 138),.cells [SV.bool false,SV.arr (K.int IntKind.i64) [] (nat_lit 8)] (nat_lit 138)]
noncomputable def M.rsize_l0_step {α:Type} (x27:List Int) (x29:List Int) (kn:Int → Option α) (k0:Int → Option α) (k2:Option α) (x25:Int):Option α := if cLe (0:Int) x25 = true then if (0:Int) ≤ x25 ∧ x25 < (8:Int) then if (0:Int) ≤ x25 ∧ x25 < (8:Int) then if cLt (List.getD x27 (Int.toNat x25) (0:Int)) (List.getD x29 (Int.toNat x25) (0:Int)) = true then k0 (-1:Int) else if (0:Int) ≤ x25 ∧ x25 < (8:Int) then if (0:Int) ≤ x25 ∧ x25 < (8:Int) then if cLt (List.getD x29 (Int.toNat x25) (0:Int)) (List.getD x27 (Int.toNat x25) (0:Int)) = true then k0 (1:Int) else kn (IntKind.wrap .i64 (x25 - (1:Int))) else none else none else none else none else k2
noncomputable def M.rsize_l0 {α:Type} (x27:List Int) (x29:List Int) (k0:Int → Option α) (k2:Option α):Nat → Int → Option α
 | 0,_ => none
 | n + 1,x25 => M.rsize_l0_step x27 x29 (M.rsize_l0 x27 x29 k0 k2 n) k0 k2 x25
theorem rsize_l0_step_eq {α:Type} (x25:Int) (x26:Bool) (x27:List Int) (x28:Bool) (x29:List Int) (Q:Ex → St → Option α):(loopStep E (exec E look_of noLps 400) 143 [false,true,false,true] 0 (codeAt E.P 143 [false,true,false,true])) (rsize_S1 x25 x26 x27 x28 x29) Q = M.rsize_l0_step x27 x29 (fun (x31:Int) => Q .normal (rsize_S1 x31 x26 x27 x28 x29)) (fun (x30:Int) => Q .ret (St.mk (nn 4 (some (SV.int .i64 x30) :: nn 23 ([]))) [])) (Q (.exit 0) (St.mk (nn 28 ([])) [])) x25 := by kernel_rfl
theorem rsize_l0_iter {α:Type} (x26:Bool) (x27:List Int) (x28:Bool) (x29:List Int) (Q:Ex → St → Option α):∀ (n:Nat) (x25:Int),iter (loopStep E (exec E look_of noLps 400) 143 [false,true,false,true] 0 (codeAt E.P 143 [false,true,false,true])) n (rsize_S1 x25 x26 x27 x28 x29) Q = M.rsize_l0 x27 x29 (fun (x30:Int) => Q .ret (St.mk (nn 4 (some (SV.int .i64 x30) :: nn 23 ([]))) [])) (Q (.exit 0) (St.mk (nn 28 ([])) [])) n x25
 | 0,_ => rfl
 | n + 1,x25 => (rsize_l0_step_eq x25 x26 x27 x28 x29 (iterK (loopStep E (exec E look_of noLps 400) 143 [false,true,false,true] 0 (codeAt E.P 143 [false,true,false,true])) n Q)).trans (congrArg (fun kn => M.rsize_l0_step x27 x29 kn (fun (x30:Int) => Q .ret (St.mk (nn 4 (some (SV.int .i64 x30) :: nn 23 ([]))) [])) (Q (.exit 0) (St.mk (nn 28 ([])) [])) x25) (funext fun x25 => rsize_l0_iter x26 x27 x28 x29 Q n x25))
noncomputable def rsize_l0_go {α:Type} (ds:List D) (Q:Ex → St → Option α):Option α :=
 dI ds fun x25 ds => dB ds fun x26 ds => dL (K.int IntKind.i64) ds fun x27 ds => dB ds fun x28 ds => dL (K.int IntKind.i64) ds fun x29 ds => dE ds (M.rsize_l0 x27 x29 (fun (x30:Int) => Q .ret (St.mk (nn 4 (some (SV.int .i64 x30) :: nn 23 ([]))) [])) (Q (.exit 0) (St.mk (nn 28 ([])) [])) (100 + x27.length + x29.length) x25)
theorem rsize_l0_ok {α:Type}:LoopOk E.P 143 [false,true,false,true] 0 (lEnt (α := α) (rsize_S2) rsize_l0_go) :=
 lEnt_ok E (exec_sound E E_ok (look_of_ok) (noLps_ok _) 400) fun ds Q r h S hS => by
   unfold rsize_l0_go at h
   obtain ⟨x25,ds,rfl,h1⟩ := dI_inv h
   obtain ⟨x26,ds,rfl,h2⟩ := dB_inv h1
   obtain ⟨x27,ds,rfl,h3⟩ := dL_inv h2
   obtain ⟨x28,ds,rfl,h4⟩ := dB_inv h3
   obtain ⟨x29,ds,rfl,h5⟩ := dL_inv h4
   obtain ⟨rfl,hE⟩ := dE_inv h5
   have e:fillS (rsize_S2) [.i x25,.b x26,.l (K.int IntKind.i64) x27,.b x28,.l (K.int IntKind.i64) x29] = some (rsize_S1 x25 x26 x27 x28 x29) := by kernel_rfl
   rw [e] at hS
   cases hS
   exact ⟨_,(rsize_l0_iter x26 x27 x28 x29 Q _ x25).trans hE⟩
noncomputable def rsize_l0_lps {α:Type}:LookL α := addLp 143 [false,true,false,true] 0 (lEnt (rsize_S2) rsize_l0_go) noLps
theorem rsize_l0_lps_ok {α:Type}:LoopsOk E.P (rsize_l0_lps (α := α)) := addLp_ok rsize_l0_ok (noLps_ok _)
noncomputable def M.rsize {α:Type} (an:Bool) (ad:List Int) (bn:Bool) (bd:List Int) (k0:Int → Option α):Option α := M.rsize_l0 ad bd (fun (x32:Int) ↦ k0 x32) (k0 (0:Int)) ((100:Nat) + List.length ad + List.length bd) (7:Int)
theorem rsize_eq {α:Type} (an:Bool) (ad:List Int) (bn:Bool) (bd:List Int) (Q:SV → Hp → Option α):callI E look_of (exec E look_of rsize_l0_lps 400) 143 ([SV.agg [SV.bool an,SV.arr (K.int IntKind.i64) ad (nat_lit 8)],SV.agg [SV.bool bn,SV.arr (K.int IntKind.i64) bd (nat_lit 8)]]) ([]) Q = M.rsize an ad bn bd (fun (x33:Int) => Q (SV.int .i64 x33) ([])) := by kernel_rfl
def rsize_sp:List AS := [.val (.agg [.bool false,.arr (.int .i64) [] 8]),.val (.agg [.bool false,.arr (.int .i64) [] 8])]
theorem val_take_succ {D:List Int} {m:Nat} (h:m < D.length):val (D.take (m + 1)) = val (D.take m) + 16777216 ^ m * D.getD m 0 := by
 rw [List.take_add_one,val_append]
 simp [h,val,List.length_take,Nat.min_eq_left (Nat.le_of_lt h),List.getD_eq_getElem?_getD]
theorem rsize_l0_val {α:Type} (a b:List Int) (ha:okD a = true) (hb:okD b = true) (la:a.length = 8) (lb:b.length = 8) (k0:Int → Option α) (k2:Option α):∀ (fuel m:Nat),m ≤ 8 → m < fuel →
   M.rsize_l0 a b k0 k2 fuel ((m:Int) - 1) = if val (a.take m) < val (b.take m) then k0 (-1) else if val (b.take m) < val (a.take m) then k0 1 else k2
 | 0,m,h1,h2 => by omega
 | n + 1,0,h1,h2 => by
   unfold M.rsize_l0 M.rsize_l0_step
   have e:¬ (0:Int) ≤ ((0:Nat):Int) - 1 := by omega
   rw [cLe_eq]
   simp only [e,decide_false,Bool.false_eq_true,if_false,List.take_zero,Int.lt_irrefl]
 | n + 1,m + 1,h1,h2 => by
   unfold M.rsize_l0 M.rsize_l0_step
   have e0:(((m + 1:Nat):Int) - 1) = (m:Int) := by omega
   rw [e0]
   have c1:(0:Int) ≤ (m:Int) := by omega
   have c2:(m:Int) < 8 := by omega
   simp only [cLe_eq,cLt_eq,c1,c2,decide_true,if_true,and_self,Int.toNat_natCast]
   rw [IntWalk.i64_in _ (by omega),rsize_l0_val a b ha hb la lb k0 k2 n m (by omega) (by omega)]
   rw [val_take_succ (by omega:m < a.length),val_take_succ (by omega:m < b.length)]
   have ba := val_bound (okD_take ha m)
   have bb := val_bound (okD_take hb m)
   rw [List.length_take,Nat.min_eq_left (by omega)] at ba bb
   have P := pB m
   have cmp:∀ x y u v:Int,x < y → 0 ≤ v → u < 16777216 ^ m → u + 16777216 ^ m * x < v + 16777216 ^ m * y := by
     intro x y u v hxy hv hu
     have:16777216 ^ m * (x + 1) ≤ 16777216 ^ m * y := Int.mul_le_mul_of_nonneg_left (by omega) (by omega)
     rw [Int.mul_add,Int.mul_one] at this
     omega
   generalize a.getD m 0 = p at *
   generalize b.getD m 0 = q at *
   rcases Int.lt_trichotomy p q with h | h | h
   · have := cmp _ _ (val (a.take m)) (val (b.take m)) h bb.1 ba.2
     simp [h,this]
   · rw [h]
     simp only [Int.lt_irrefl,decide_false,Bool.false_eq_true,if_false,Int.add_lt_add_iff_right]
   · have := cmp _ _ (val (b.take m)) (val (a.take m)) h ba.1 bb.2
     have n1:¬ p < q := by omega
     have n2:¬ val (a.take m) + 16777216 ^ m * p < val (b.take m) + 16777216 ^ m * q := by omega
     simp [h,this,n1,n2]
def _root_.Go.Proofs.YtfkgmidgdpfnkaaGreat.V.cmp (x y:Int):Int := if x < y then -1 else if y < x then 1 else 0
noncomputable def _root_.Go.Proofs.YtfkgmidgdpfnkaaGreat.V.szD (a b:List Int):Int := V.cmp (val a) (val b)
theorem ok8_iff {D:List Int}:V.ok8 D = true ↔ D.length = 8 ∧ okD D = true := by simp [V.ok8]
theorem rsize_v {α:Type} (an:Bool) (a:List Int) (bn:Bool) (b:List Int) (ha:V.ok8 a = true) (hb:V.ok8 b = true) (k0:Int → Option α):M.rsize an a bn b k0 = k0 (V.szD a b) := by
 rw [ok8_iff] at ha hb
 unfold M.rsize V.szD V.cmp
 have := rsize_l0_val a b ha.2 hb.2 ha.1 hb.1 (fun x => k0 x) (k0 0) (100 + a.length + b.length) 8 (by omega) (by omega)
 rw [List.take_of_length_le (by omega),List.take_of_length_le (by omega)] at this
 rw [show (7:Int) = ((8:Nat):Int) - 1 by rfl,this]
 split
 · rfl
 · split <;> rfl
noncomputable def rsize_h {α:Type} (ds:List D) (Q:SV → Hp → Option α):Option α :=
 dB ds fun an ds => dL (K.int IntKind.i64) ds fun ad ds => dB ds fun bn ds => dL (K.int IntKind.i64) ds fun bd ds => dE ds (if V.ok8 ad = true ∧ V.ok8 bd = true then Q (.int .i64 (V.szD ad bd)) ([]) else none)
theorem rsize_h_ok {α:Type}:FnOk E.P 143 (fEnt (α := α) rsize_sp rsize_h) :=
 fEnt_ok E (look_of_ok) (exec_sound E E_ok (look_of_ok) (rsize_l0_lps_ok) 400) fun ds Q r h => by
   unfold rsize_h at h
   obtain ⟨an,ds,rfl,h1⟩ := dB_inv h
   obtain ⟨ad,ds,rfl,h2⟩ := dL_inv h1
   obtain ⟨bn,ds,rfl,h3⟩ := dB_inv h2
   obtain ⟨bd,ds,rfl,h4⟩ := dL_inv h3
   obtain ⟨rfl,hE⟩ := dE_inv h4
   split at hE
   · rename_i hg
     exact ⟨[SV.agg [SV.bool an,SV.arr (K.int IntKind.i64) ad (nat_lit 8)],SV.agg [SV.bool bn,SV.arr (K.int IntKind.i64) bd (nat_lit 8)]],[],fun vs => by kernel_rfl,(rsize_eq an ad bn bd Q).trans ((rsize_v an ad bn bd hg.1 hg.2 _).trans hE)⟩
   · cases hE
noncomputable def look_rsize {α:Type}:LookF α := addFn 143 (fEnt rsize_sp rsize_h) look_of
theorem look_rsize_ok {α:Type}:LookOk E.P (look_rsize (α := α)) := addFn_ok rsize_h_ok (look_of_ok)
end
section
open Go
set_option maxRecDepth 20000
noncomputable abbrev plus_S1 (y1 y2:Int) (y3:Bool) (y4:List Int) (y5:Bool) (y6:List Int) (y7:Bool) (y8:List Int) (y9:Bool) (y10:List Int):St := St.mk (none :: none :: some (SV.ptr (nat_lit 0) (nat_lit 0)) :: some (SV.ptr (nat_lit 1) (nat_lit 0)) :: some (SV.ptr (nat_lit 2) (nat_lit 0)) :: some (SV.int .i64 y1) :: some (SV.ptr (nat_lit 3) (nat_lit 0)) :: some (SV.int .i64 y2) :: nn 67 ([])) [.cells [SV.bool y3,SV.arr (K.int IntKind.i64) y4 (nat_lit 8)] (nat_lit 138),.cells [SV.bool y5,SV.arr (K.int IntKind.i64) y6 (nat_lit 8)] (nat_lit 138),.cells [SV.bool y7,SV.arr (K.int IntKind.i64) y8 (nat_lit 8)] (nat_lit 138),.cells [SV.bool y9,SV.arr (K.int IntKind.i64) y10 (nat_lit 8)] (nat_lit 138)]
noncomputable abbrev plus_S2 (y1:Bool) (y2:List Int) (y3:Bool) (y4:List Int):St := St.mk (nn 4 (some (SV.ptr (nat_lit 0) (nat_lit 0)) :: none :: some (SV.ptr (nat_lit 1) (nat_lit 0)) :: nn 68 ([]))) [.cells [SV.bool y1,SV.arr (K.int IntKind.i64) y2 (nat_lit 8)] (nat_lit 138),.cells [SV.bool y3,SV.arr (K.int IntKind.i64) y4 (nat_lit 8)] (nat_lit 138)]
noncomputable abbrev plus_S3:St := St.mk (none :: none :: some (SV.ptr (nat_lit 0) (nat_lit 0)) :: some (SV.ptr (nat_lit 1) (nat_lit 0)) :: some (SV.ptr (nat_lit 2) (nat_lit 0)) :: some (SV.int .i64 (0:Int)) :: some (SV.ptr (nat_lit 3) (nat_lit 0)) :: some (SV.int .i64 (0:Int)) :: nn 67 ([])) [.cells [SV.bool false,SV.arr (K.int IntKind.i64) [] (nat_lit 8)] (nat_lit 138),.cells [SV.bool false,SV.arr (K.int IntKind.i64) [] (nat_lit 8)] (nat_lit 138),.cells [SV.bool false,SV.arr (K.int IntKind.i64) [] (nat_lit 8)] (nat_lit 138),.cells [SV.bool false,SV.arr (K.int IntKind.i64) [] (nat_lit 8)] (nat_lit 138)]
noncomputable abbrev plus_S4 (y1 y2:Int) (y3:Bool) (y4:List Int) (y5:Bool) (y6:List Int) (y7:Bool) (y8:List Int) (y9:Bool) (y10:List Int):St := St.mk (none :: none :: some (SV.ptr (nat_lit 0) (nat_lit 0)) :: some (SV.ptr (nat_lit 1) (nat_lit 0)) :: some (SV.ptr (nat_lit 2) (nat_lit 0)) :: nn 5 (some (SV.ptr (nat_lit 3) (nat_lit 0)) :: some (SV.int .i64 y1) :: some (SV.int .i64 y2) :: nn 62 ([]))) [.cells [SV.bool y3,SV.arr (K.int IntKind.i64) y4 (nat_lit 8)] (nat_lit 138),.cells [SV.bool y5,SV.arr (K.int IntKind.i64) y6 (nat_lit 8)] (nat_lit 138),.cells [SV.bool y7,SV.arr (K.int IntKind.i64) y8 (nat_lit 8)] (nat_lit 138),.cells [SV.bool y9,SV.arr (K.int IntKind.i64) y10 (nat_lit 8)] (nat_lit 138)]
noncomputable abbrev plus_S5 (y1:Bool) (y2:List Int) (y3:Bool) (y4:List Int):St := St.mk (nn 4 (some (SV.ptr (nat_lit 0) (nat_lit 0)) :: nn 5 (some (SV.ptr (nat_lit 1) (nat_lit 0)) :: nn 64 ([])))) [.cells [SV.bool y1,SV.arr (K.int IntKind.i64) y2 (nat_lit 8)] (nat_lit 138),.cells [SV.bool y3,SV.arr (K.int IntKind.i64) y4 (nat_lit 8)] (nat_lit 138)]
noncomputable abbrev plus_S6:St := St.mk (none :: none :: some (SV.ptr (nat_lit 0) (nat_lit 0)) :: some (SV.ptr (nat_lit 1) (nat_lit 0)) :: some (SV.ptr (nat_lit 2) (nat_lit 0)) :: nn 5 (some (SV.ptr (nat_lit 3) (nat_lit 0)) :: some (SV.int .i64 (0:Int)) :: some (SV.int .i64 (0:Int)) :: nn 62 ([]))) [.cells [SV.bool false,SV.arr (K.int IntKind.i64) [] (nat_lit 8)] (nat_lit 138),.cells [SV.bool false,SV.arr (K.int IntKind.i64) [] (nat_lit 8)] (nat_lit 138),.cells [SV.bool false,SV.arr (K.int IntKind.i64) [] (nat_lit 8)] (nat_lit 138),.cells [SV.bool false,SV.arr (K.int IntKind.i64) [] (nat_lit 8)] (nat_lit 138)]
abbrev plus_P1:List Bool := [false,true,false,true,true,false,true,false,true]
abbrev plus_P2:List Bool := [false,true,false,true,true,true,true,true]
noncomputable def M.plus_l0_step {α:Type} (x13:List Int) (x15:List Int) (kn:Int → Int → List Int → Option α) (k1:List Int → Option α) (x10 x11:Int) (x19:List Int):Option α := if cLt x11 (8:Int) = true then if (0:Int) ≤ x11 ∧ x11 < (8:Int) then if (0:Int) ≤ x11 ∧ x11 < (8:Int) then if (0:Int) ≤ x11 ∧ x11 < (8:Int) then kn (IntKind.wrap .i64 (Int.tdiv (IntKind.wrap .i64 (IntKind.wrap .i64 (List.getD x13 (Int.toNat x11) (0:Int) + List.getD x15 (Int.toNat x11) (0:Int)) + x10)) (16777216:Int))) (IntKind.wrap .i64 (x11 + (1:Int))) (List.set x19 (Int.toNat x11) (Int.tmod (IntKind.wrap .i64 (IntKind.wrap .i64 (List.getD x13 (Int.toNat x11) (0:Int) + List.getD x15 (Int.toNat x11) (0:Int)) + x10)) (16777216:Int))) else none else none else none else k1 x19
noncomputable def M.plus_l0 {α:Type} (x13:List Int) (x15:List Int) (k1:List Int → Option α):Nat → Int → Int → List Int → Option α
 | 0,_,_,_ => none
 | n + 1,x10,x11,x19 => M.plus_l0_step x13 x15 (M.plus_l0 x13 x15 k1 n) k1 x10 x11 x19
theorem plus_l0_step_eq {α:Type} (x10 x11:Int) (x12:Bool) (x13:List Int) (x14:Bool) (x15:List Int) (x16:Bool) (x17:List Int) (x18:Bool) (x19:List Int) (Q:Ex → St → Option α):(loopStep E (exec E look_rsize noLps 400) 131 plus_P1 0 (codeAt E.P 131 plus_P1)) (plus_S1 x10 x11 x12 x13 x14 x15 x16 x17 x18 x19) Q = M.plus_l0_step x13 x15 (fun (x21 x22:Int) (x23:List Int) => Q .normal (plus_S1 x21 x22 x12 x13 x14 x15 x16 x17 x18 x23)) (fun (x20:List Int) => Q (.exit 0) (plus_S2 x16 x17 x18 x20)) x10 x11 x19 := by kernel_rfl
theorem plus_l0_iter {α:Type} (x12:Bool) (x13:List Int) (x14:Bool) (x15:List Int) (x16:Bool) (x17:List Int) (x18:Bool) (Q:Ex → St → Option α):∀ (n:Nat) (x10 x11:Int) (x19:List Int),iter (loopStep E (exec E look_rsize noLps 400) 131 plus_P1 0 (codeAt E.P 131 plus_P1)) n (plus_S1 x10 x11 x12 x13 x14 x15 x16 x17 x18 x19) Q = M.plus_l0 x13 x15 (fun (x20:List Int) => Q (.exit 0) (plus_S2 x16 x17 x18 x20)) n x10 x11 x19
 | 0,_,_,_ => rfl
 | n + 1,x10,x11,x19 => (plus_l0_step_eq x10 x11 x12 x13 x14 x15 x16 x17 x18 x19 (iterK (loopStep E (exec E look_rsize noLps 400) 131 plus_P1 0 (codeAt E.P 131 plus_P1)) n Q)).trans (congrArg (fun kn => M.plus_l0_step x13 x15 kn (fun (x20:List Int) => Q (.exit 0) (plus_S2 x16 x17 x18 x20)) x10 x11 x19) (funext fun x10 => funext fun x11 => funext fun x19 => plus_l0_iter x12 x13 x14 x15 x16 x17 x18 Q n x10 x11 x19))
noncomputable def plus_l0_go {α:Type} (ds:List D) (Q:Ex → St → Option α):Option α :=
 dI ds fun x10 ds => dI ds fun x11 ds => dB ds fun x12 ds => dL (K.int IntKind.i64) ds fun x13 ds => dB ds fun x14 ds => dL (K.int IntKind.i64) ds fun x15 ds => dB ds fun x16 ds => dL (K.int IntKind.i64) ds fun x17 ds => dB ds fun x18 ds => dL (K.int IntKind.i64) ds fun x19 ds => dE ds (M.plus_l0 x13 x15 (fun (x20:List Int) => Q (.exit 0) (plus_S2 x16 x17 x18 x20)) (100 + x13.length + x15.length + x17.length + x19.length) x10 x11 x19)
theorem plus_l0_ok {α:Type}:LoopOk E.P 131 plus_P1 0 (lEnt (α := α) (plus_S3) plus_l0_go) :=
 lEnt_ok E (exec_sound E E_ok (look_rsize_ok) (noLps_ok _) 400) fun ds Q r h S hS => by
   unfold plus_l0_go at h
   obtain ⟨x10,ds,rfl,h1⟩ := dI_inv h
   obtain ⟨x11,ds,rfl,h2⟩ := dI_inv h1
   obtain ⟨x12,ds,rfl,h3⟩ := dB_inv h2
   obtain ⟨x13,ds,rfl,h4⟩ := dL_inv h3
   obtain ⟨x14,ds,rfl,h5⟩ := dB_inv h4
   obtain ⟨x15,ds,rfl,h6⟩ := dL_inv h5
   obtain ⟨x16,ds,rfl,h7⟩ := dB_inv h6
   obtain ⟨x17,ds,rfl,h8⟩ := dL_inv h7
   obtain ⟨x18,ds,rfl,h9⟩ := dB_inv h8
   obtain ⟨x19,ds,rfl,h10⟩ := dL_inv h9
   obtain ⟨rfl,hE⟩ := dE_inv h10
   have e:fillS (plus_S3) [.i x10,.i x11,.b x12,.l (K.int IntKind.i64) x13,.b x14,.l (K.int IntKind.i64) x15,.b x16,.l (K.int IntKind.i64) x17,.b x18,.l (K.int IntKind.i64) x19] = some (plus_S1 x10 x11 x12 x13 x14 x15 x16 x17 x18 x19) := by kernel_rfl
   rw [e] at hS
   cases hS
   exact ⟨_,(plus_l0_iter x12 x13 x14 x15 x16 x17 x18 Q _ x10 x11 x19).trans hE⟩
noncomputable def plus_l0_lps {α:Type}:LookL α := addLp 131 plus_P1 0 (lEnt (plus_S3) plus_l0_go) noLps
theorem plus_l0_lps_ok {α:Type}:LoopsOk E.P (plus_l0_lps (α := α)) := addLp_ok plus_l0_ok (noLps_ok _)
noncomputable def M.plus_l1_step {α:Type} (x38:List Int) (x40:List Int) (kn:Int → Int → List Int → Option α) (k1:List Int → Option α) (x35 x36:Int) (x44:List Int):Option α := if cLt x36 (8:Int) = true then if (0:Int) ≤ x36 ∧ x36 < (8:Int) then if (0:Int) ≤ x36 ∧ x36 < (8:Int) then if cLt (IntKind.wrap .i64 (IntKind.wrap .i64 (List.getD x38 (Int.toNat x36) (0:Int) - List.getD x40 (Int.toNat x36) (0:Int)) - x35)) (0:Int) = true then if (0:Int) ≤ x36 ∧ x36 < (8:Int) then kn (1:Int) (IntKind.wrap .i64 (x36 + (1:Int))) (List.set x44 (Int.toNat x36) (IntKind.wrap .i64 (IntKind.wrap .i64 (IntKind.wrap .i64 (List.getD x38 (Int.toNat x36) (0:Int) - List.getD x40 (Int.toNat x36) (0:Int)) - x35) + (16777216:Int)))) else none else if (0:Int) ≤ x36 ∧ x36 < (8:Int) then kn (0:Int) (IntKind.wrap .i64 (x36 + (1:Int))) (List.set x44 (Int.toNat x36) (IntKind.wrap .i64 (IntKind.wrap .i64 (List.getD x38 (Int.toNat x36) (0:Int) - List.getD x40 (Int.toNat x36) (0:Int)) - x35))) else none else none else none else k1 x44
noncomputable def M.plus_l1 {α:Type} (x38:List Int) (x40:List Int) (k1:List Int → Option α):Nat → Int → Int → List Int → Option α
 | 0,_,_,_ => none
 | n + 1,x35,x36,x44 => M.plus_l1_step x38 x40 (M.plus_l1 x38 x40 k1 n) k1 x35 x36 x44
theorem plus_l1_step_eq {α:Type} (x35 x36:Int) (x37:Bool) (x38:List Int) (x39:Bool) (x40:List Int) (x41:Bool) (x42:List Int) (x43:Bool) (x44:List Int) (Q:Ex → St → Option α):(loopStep E (exec E look_rsize plus_l0_lps 400) 131 plus_P2 0 (codeAt E.P 131 plus_P2)) (plus_S4 x35 x36 x37 x38 x39 x40 x41 x42 x43 x44) Q = M.plus_l1_step x38 x40 (fun (x46 x47:Int) (x48:List Int) => Q .normal (plus_S4 x46 x47 x37 x38 x39 x40 x41 x42 x43 x48)) (fun (x45:List Int) => Q (.exit 2) (plus_S5 x41 x42 x43 x45)) x35 x36 x44 := by kernel_rfl
theorem plus_l1_iter {α:Type} (x37:Bool) (x38:List Int) (x39:Bool) (x40:List Int) (x41:Bool) (x42:List Int) (x43:Bool) (Q:Ex → St → Option α):∀ (n:Nat) (x35 x36:Int) (x44:List Int),iter (loopStep E (exec E look_rsize plus_l0_lps 400) 131 plus_P2 0 (codeAt E.P 131 plus_P2)) n (plus_S4 x35 x36 x37 x38 x39 x40 x41 x42 x43 x44) Q = M.plus_l1 x38 x40 (fun (x45:List Int) => Q (.exit 2) (plus_S5 x41 x42 x43 x45)) n x35 x36 x44
 | 0,_,_,_ => rfl
 | n + 1,x35,x36,x44 => (plus_l1_step_eq x35 x36 x37 x38 x39 x40 x41 x42 x43 x44 (iterK (loopStep E (exec E look_rsize plus_l0_lps 400) 131 plus_P2 0 (codeAt E.P 131 plus_P2)) n Q)).trans (congrArg (fun kn => M.plus_l1_step x38 x40 kn (fun (x45:List Int) => Q (.exit 2) (plus_S5 x41 x42 x43 x45)) x35 x36 x44) (funext fun x35 => funext fun x36 => funext fun x44 => plus_l1_iter x37 x38 x39 x40 x41 x42 x43 Q n x35 x36 x44))
noncomputable def plus_l1_go {α:Type} (ds:List D) (Q:Ex → St → Option α):Option α :=
 dI ds fun x35 ds => dI ds fun x36 ds => dB ds fun x37 ds => dL (K.int IntKind.i64) ds fun x38 ds => dB ds fun x39 ds => dL (K.int IntKind.i64) ds fun x40 ds => dB ds fun x41 ds => dL (K.int IntKind.i64) ds fun x42 ds => dB ds fun x43 ds => dL (K.int IntKind.i64) ds fun x44 ds => dE ds (M.plus_l1 x38 x40 (fun (x45:List Int) => Q (.exit 2) (plus_S5 x41 x42 x43 x45)) (100 + x38.length + x40.length + x42.length + x44.length) x35 x36 x44)
theorem plus_l1_ok {α:Type}:LoopOk E.P 131 plus_P2 0 (lEnt (α := α) (plus_S6) plus_l1_go) :=
 lEnt_ok E (exec_sound E E_ok (look_rsize_ok) (plus_l0_lps_ok) 400) fun ds Q r h S hS => by
   unfold plus_l1_go at h
   obtain ⟨x35,ds,rfl,h1⟩ := dI_inv h
   obtain ⟨x36,ds,rfl,h2⟩ := dI_inv h1
   obtain ⟨x37,ds,rfl,h3⟩ := dB_inv h2
   obtain ⟨x38,ds,rfl,h4⟩ := dL_inv h3
   obtain ⟨x39,ds,rfl,h5⟩ := dB_inv h4
   obtain ⟨x40,ds,rfl,h6⟩ := dL_inv h5
   obtain ⟨x41,ds,rfl,h7⟩ := dB_inv h6
   obtain ⟨x42,ds,rfl,h8⟩ := dL_inv h7
   obtain ⟨x43,ds,rfl,h9⟩ := dB_inv h8
   obtain ⟨x44,ds,rfl,h10⟩ := dL_inv h9
   obtain ⟨rfl,hE⟩ := dE_inv h10
   have e:fillS (plus_S6) [.i x35,.i x36,.b x37,.l (K.int IntKind.i64) x38,.b x39,.l (K.int IntKind.i64) x40,.b x41,.l (K.int IntKind.i64) x42,.b x43,.l (K.int IntKind.i64) x44] = some (plus_S4 x35 x36 x37 x38 x39 x40 x41 x42 x43 x44) := by kernel_rfl
   rw [e] at hS
   cases hS
   exact ⟨_,(plus_l1_iter x37 x38 x39 x40 x41 x42 x43 Q _ x35 x36 x44).trans hE⟩
noncomputable def plus_l1_lps {α:Type}:LookL α := addLp 131 plus_P2 0 (lEnt (plus_S6) plus_l1_go) plus_l0_lps
theorem plus_l1_lps_ok {α:Type}:LoopsOk E.P (plus_l1_lps (α := α)) := addLp_ok plus_l1_ok (plus_l0_lps_ok)
noncomputable def M.plus {α:Type} (an:Bool) (ad:List Int) (bn:Bool) (bd:List Int) (k0:Bool → List Int → Option α):Option α := if (an == bn) = true then M.plus_l0 ad bd (fun (x49:List Int) ↦ k0 an x49) ((100:Nat) + List.length ad + List.length bd + (8:Nat) + List.length ad) (0:Int) (0:Int) ad else if V.ok8 ad = true ∧ V.ok8 bd = true then if cLt (V.szD ad bd) (0:Int) = true then M.plus_l1 bd ad (fun (x50:List Int) ↦ k0 bn x50) ((100:Nat) + List.length bd + List.length ad + (8:Nat) + List.length bd) (0:Int) (0:Int) bd else M.plus_l1 ad bd (fun (x51:List Int) ↦ k0 an x51) ((100:Nat) + List.length ad + List.length bd + (8:Nat) + List.length ad) (0:Int) (0:Int) ad else none
theorem plus_eq {α:Type} (an:Bool) (ad:List Int) (bn:Bool) (bd:List Int) (Q:SV → Hp → Option α):callI E look_rsize (exec E look_rsize plus_l1_lps 400) 131 ([SV.agg [SV.bool an,SV.arr (K.int IntKind.i64) ad (nat_lit 8)],SV.agg [SV.bool bn,SV.arr (K.int IntKind.i64) bd (nat_lit 8)]]) ([]) Q = M.plus an ad bn bd (fun (x52:Bool) (x53:List Int) => Q (SV.agg [SV.bool x52,SV.arr (K.int IntKind.i64) x53 (nat_lit 8)]) ([])) := by kernel_rfl
def plus_sp:List AS := [.val (.agg [.bool false,.arr (.int .i64) [] 8]),.val (.agg [.bool false,.arr (.int .i64) [] 8])]
def linL (m:Int):List Int → List Int → Int → List Int
 | x :: xs,y :: ys,c => (x + m * y + c) % 16777216 :: linL m xs ys ((x + m * y + c) / 16777216)
 | _,_,_ => []
theorem linL_len (m:Int):∀ (xs ys:List Int) (c:Int),xs.length ≤ ys.length → (linL m xs ys c).length = xs.length
 | [],ys,c,_ => by simp [linL]
 | x :: xs,[],c,h => by simp at h
 | x :: xs,y :: ys,c,h => by simp only [linL,List.length_cons]; rw [linL_len m xs ys _ (by simpa using h)]
theorem linL_ok (m:Int):∀ (xs ys:List Int) (c:Int),okD (linL m xs ys c) = true
 | [],ys,c => by simp [linL,okD]
 | x :: xs,[],c => by simp [linL,okD]
 | x :: xs,y :: ys,c => by rw [linL,okD_cons]; exact ⟨by omega,linL_ok m xs ys _⟩
theorem linL_val (m:Int):∀ (xs ys:List Int) (c:Int),xs.length ≤ ys.length → val (linL m xs ys c) = (val xs + m * val ys + c) % 16777216 ^ xs.length
 | [],ys,c,_ => by simp [linL,val,Int.emod_one]
 | x :: xs,[],c,h => by simp at h
 | x :: xs,y :: ys,c,h => by
   rw [linL,val,linL_val m xs ys _ (by simpa using h),List.length_cons,pB1,← mod_split _ _ _ (pB _)]
   congr 1
   simp only [val]
   grind
theorem drop_getD {a:List Int} {i:Nat} (h:i < a.length):a.drop i = a.getD i 0 :: a.drop (i + 1) := by
 rw [List.drop_eq_getElem_cons h]; simp [List.getD_eq_getElem?_getD,h]
theorem linL_drop (m:Int) {a b:List Int} {i:Nat} (h1:i < a.length) (h2:i < b.length) (c:Int) :
   linL m (a.drop i) (b.drop i) c = (a.getD i 0 + m * b.getD i 0 + c) % 16777216 :: linL m (a.drop (i + 1)) (b.drop (i + 1)) ((a.getD i 0 + m * b.getD i 0 + c) / 16777216) := by
 rw [drop_getD h1,drop_getD h2,linL]
theorem plus_l0_val {α:Type} (a b:List Int) (ha:okD a = true) (hb:okD b = true) (la:a.length = 8) (lb:b.length = 8) (k1:List Int → Option α):∀ (fuel i:Nat) (c:Int) (o:List Int),i ≤ 8 → 8 - i < fuel → o.length = 8 → 0 ≤ c → c ≤ 1 →
   M.plus_l0 a b k1 fuel c (i:Int) o = k1 (o.take i ++ linL 1 (a.drop i) (b.drop i) c)
 | 0,i,c,o,h1,h2,_,_,_ => by omega
 | n + 1,i,c,o,h1,h2,ho,hc0,hc1 => by
   unfold M.plus_l0 M.plus_l0_step
   rw [cLt_eq]
   by_cases hi:i < 8
   · have c1 : (i : Int) < 8 := by omega
     have c2:(0:Int) ≤ (i:Int) := by omega
     have da := okD_get ha i
     have db := okD_get hb i
     simp only [c1,c2,decide_true,if_true,and_self,Int.toNat_natCast]
     rw [linL_drop 1 (by omega) (by omega),Int.one_mul]
     generalize a.getD i 0 = x at *
     generalize b.getD i 0 = y at *
     rw [IntWalk.i64_in (x + y) (by omega),IntWalk.i64_in (x + y + c) (by omega),Int.tdiv_eq_ediv_of_nonneg (by omega),Int.tmod_eq_emod_of_nonneg (by omega),IntWalk.i64_in ((x + y + c) / 16777216) (by omega),IntWalk.i64_in ((i:Int) + 1) (by omega)]
     have := plus_l0_val a b ha hb la lb k1 n (i + 1) ((x + y + c) / 16777216) (o.set i ((x + y + c) % 16777216)) (by omega) (by omega) (by simpa using ho) (by omega) (by omega)
     push_cast at this
     rw [this,take_set_succ _ (by omega),List.append_assoc,List.singleton_append]
   · have : i = 8 := by omega
     subst this
     have e:¬ ((8:Nat):Int) < 8 := by omega
     simp only [e,decide_false,Bool.false_eq_true,if_false]
     rw [List.take_of_length_le (by omega),List.drop_of_length_le (by omega:a.length ≤ 8),linL,List.append_nil]
     · intro _ _ _ _ _; simp_all
theorem plus_l1_val {α:Type} (a b:List Int) (ha:okD a = true) (hb:okD b = true) (la:a.length = 8) (lb:b.length = 8) (k1:List Int → Option α):∀ (fuel i:Nat) (c:Int) (o:List Int),i ≤ 8 → 8 - i < fuel → o.length = 8 → 0 ≤ c → c ≤ 1 →
   M.plus_l1 a b k1 fuel c (i:Int) o = k1 (o.take i ++ linL (-1) (a.drop i) (b.drop i) (-c))
 | 0,i,c,o,h1,h2,_,_,_ => by omega
 | n + 1,i,c,o,h1,h2,ho,hc0,hc1 => by
   unfold M.plus_l1 M.plus_l1_step
   rw [cLt_eq]
   by_cases hi:i < 8
   · have c1 : (i : Int) < 8 := by omega
     have c2:(0:Int) ≤ (i:Int) := by omega
     have da := okD_get ha i
     have db := okD_get hb i
     simp only [c1,c2,decide_true,if_true,and_self,Int.toNat_natCast]
     rw [linL_drop (-1) (by omega) (by omega)]
     generalize a.getD i 0 = x at *
     generalize b.getD i 0 = y at *
     rw [IntWalk.i64_in (x - y) (by omega),IntWalk.i64_in (x - y - c) (by omega),cLt_eq,IntWalk.i64_in ((i:Int) + 1) (by omega),show x + -1 * y + -c = x - y - c by omega]
     by_cases hn:x - y - c < 0
     · simp only [hn, decide_true, if_true]
       rw [IntWalk.i64_in (x - y - c + 16777216) (by omega)]
       have := plus_l1_val a b ha hb la lb k1 n (i + 1) 1 (o.set i (x - y - c + 16777216)) (by omega) (by omega) (by simpa using ho) (by omega) (by omega)
       push_cast at this
       rw [this,take_set_succ _ (by omega),List.append_assoc,List.singleton_append,show (x - y - c) % 16777216 = x - y - c + 16777216 by omega,show (x - y - c) / 16777216 = -1 by omega]
     · simp only [hn, decide_false, Bool.false_eq_true, if_false]
       have := plus_l1_val a b ha hb la lb k1 n (i + 1) 0 (o.set i (x - y - c)) (by omega) (by omega) (by simpa using ho) (by omega) (by omega)
       push_cast at this
       rw [this,take_set_succ _ (by omega),List.append_assoc,List.singleton_append,show (x - y - c) % 16777216 = x - y - c by omega,show (x - y - c) / 16777216 = 0 by omega]
       rfl
   · have : i = 8 := by omega
     subst this
     have e:¬ ((8:Nat):Int) < 8 := by omega
     simp only [e,decide_false,Bool.false_eq_true,if_false]
     rw [List.take_of_length_le (by omega),List.drop_of_length_le (by omega:a.length ≤ 8),linL,List.append_nil]
     · intro _ _ _ _ _; simp_all
noncomputable def _root_.Go.Proofs.YtfkgmidgdpfnkaaGreat.V.plN (an:Bool) (a:List Int) (bn:Bool) (b:List Int):Bool := if an == bn then an else if val a < val b then bn else an
noncomputable def _root_.Go.Proofs.YtfkgmidgdpfnkaaGreat.V.plD (an:Bool) (a:List Int) (bn:Bool) (b:List Int):List Int := if an == bn then linL 1 a b 0 else if val a < val b then linL (-1) b a 0 else linL (-1) a b 0
theorem plus_v {α:Type} (an:Bool) (a:List Int) (bn:Bool) (b:List Int) (ha:V.ok8 a = true) (hb:V.ok8 b = true) (k0:Bool → List Int → Option α):M.plus an a bn b k0 = k0 (V.plN an a bn b) (V.plD an a bn b) := by
 unfold M.plus V.plN V.plD
 have hab := And.intro ha hb
 rw [ok8_iff] at ha hb
 cases hs:(an == bn) with
 | true =>
   simp only [if_true]
   have := plus_l0_val a b ha.2 hb.2 ha.1 hb.1 (fun x => k0 an x) (100 + a.length + b.length + 8 + a.length) 0 0 a (by omega) (by omega) ha.1 (by omega) (by omega)
   simp only [List.drop_zero,List.take_zero,List.nil_append,Int.natCast_zero] at this
   exact this
 | false =>
   simp only [Bool.false_eq_true,if_false,cLt_eq]
   rw [if_pos hab]
   unfold V.szD V.cmp
   by_cases h:val a < val b
   · simp only [h, if_true]
     rw [show decide ((-1:Int) < 0) = true by decide]
     simp only [if_true]
     have := plus_l1_val b a hb.2 ha.2 hb.1 ha.1 (fun x => k0 bn x) (100 + b.length + a.length + 8 + b.length) 0 0 b (by omega) (by omega) hb.1 (by omega) (by omega)
     simp only [List.drop_zero,List.take_zero,List.nil_append,Int.natCast_zero,Int.neg_zero] at this
     exact this
   · have hc : decide ((if val a < val b then (-1 : Int) else if val b < val a then 1 else 0) < 0) = false := by
       simp only [h,if_false]; split <;> decide
     rw [hc]
     simp only [h,Bool.false_eq_true,if_false]
     have := plus_l1_val a b ha.2 hb.2 ha.1 hb.1 (fun x => k0 an x) (100 + a.length + b.length + 8 + a.length) 0 0 a (by omega) (by omega) ha.1 (by omega) (by omega)
     simp only [List.drop_zero,List.take_zero,List.nil_append,Int.natCast_zero,Int.neg_zero] at this
     exact this
noncomputable def plus_h {α:Type} (ds:List D) (Q:SV → Hp → Option α):Option α :=
 dB ds fun an ds => dL (K.int IntKind.i64) ds fun ad ds => dB ds fun bn ds => dL (K.int IntKind.i64) ds fun bd ds => dE ds (if V.ok8 ad = true ∧ V.ok8 bd = true then Q (.agg [.bool (V.plN an ad bn bd),.arr (.int .i64) (V.plD an ad bn bd) 8]) ([]) else none)
theorem plus_h_ok {α:Type}:FnOk E.P 131 (fEnt (α := α) plus_sp plus_h) :=
 fEnt_ok E (look_rsize_ok) (exec_sound E E_ok (look_rsize_ok) (plus_l1_lps_ok) 400) fun ds Q r h => by
   unfold plus_h at h
   obtain ⟨an,ds,rfl,h1⟩ := dB_inv h
   obtain ⟨ad,ds,rfl,h2⟩ := dL_inv h1
   obtain ⟨bn,ds,rfl,h3⟩ := dB_inv h2
   obtain ⟨bd,ds,rfl,h4⟩ := dL_inv h3
   obtain ⟨rfl,hE⟩ := dE_inv h4
   split at hE
   · rename_i hg
     exact ⟨[SV.agg [SV.bool an,SV.arr (K.int IntKind.i64) ad (nat_lit 8)],SV.agg [SV.bool bn,SV.arr (K.int IntKind.i64) bd (nat_lit 8)]],[],fun vs => by kernel_rfl,(plus_eq an ad bn bd Q).trans ((plus_v an ad bn bd hg.1 hg.2 _).trans hE)⟩
   · cases hE
noncomputable def look_plus {α:Type}:LookF α := addFn 131 (fEnt plus_sp plus_h) look_rsize
theorem look_plus_ok {α:Type}:LookOk E.P (look_plus (α := α)) := addFn_ok plus_h_ok (look_rsize_ok)
def wv (n:Bool) (D:List Int):Int := if n then -val D else val D
theorem plD_ok (an:Bool) {a:List Int} (bn:Bool) {b:List Int} (ha:V.ok8 a = true) (hb:V.ok8 b = true):V.ok8 (V.plD an a bn b) = true := by
 rw [ok8_iff] at ha hb ⊢
 unfold V.plD
 split
 · exact ⟨by rw [linL_len _ _ _ _ (by omega)]; exact ha.1,linL_ok _ _ _ _⟩
 · split
   · exact ⟨by rw [linL_len _ _ _ _ (by omega)]; exact hb.1,linL_ok _ _ _ _⟩
   · exact ⟨by rw [linL_len _ _ _ _ (by omega)]; exact ha.1,linL_ok _ _ _ _⟩
theorem p8:(16777216:Int) ^ 8 = 6277101735386680763835789423207666416102355444464034512896 := by kernel_rfl
theorem pl_val (an:Bool) {a:List Int} (bn:Bool) {b:List Int} (ha:V.ok8 a = true) (hb:V.ok8 b = true) (h1:val a + val b < 6277101735386680763835789423207666416102355444464034512896) :
   wv (V.plN an a bn b) (V.plD an a bn b) = wv an a + wv bn b ∧ val (V.plD an a bn b) ≤ val a + val b := by
 rw [ok8_iff] at ha hb
 have va := val_bound ha.2
 have vb := val_bound hb.2
 unfold V.plN V.plD wv
 cases hs:(an == bn) with
 | true =>
   have:an = bn := by simpa using hs
   subst this
   simp only [if_true]
   rw [linL_val 1 a b 0 (by omega),ha.1,p8,Int.one_mul,Int.add_zero,Int.emod_eq_of_lt (by omega) h1]
   cases an <;> simp <;> omega
 | false =>
   have hne:an = !bn := by cases an <;> cases bn <;> simp_all
   subst hne
   simp only [Bool.false_eq_true,if_false]
   by_cases h:val a < val b
   · simp only [h, if_true]
     rw [linL_val (-1) b a 0 (by omega),hb.1,p8,Int.emod_eq_of_lt (by omega) (by omega)]
     cases bn <;> simp <;> omega
   · simp only [h, if_false]
     rw [linL_val (-1) a b 0 (by omega),ha.1,p8,Int.emod_eq_of_lt (by omega) (by omega)]
     cases bn <;> simp <;> omega
end
section
open Go
set_option maxRecDepth 20000
noncomputable abbrev rtimes_S1 (y1 y2 y3:Int) (y4:Bool) (y5:List Int) (y6:Bool) (y7:List Int) (y8:Bool) (y9:List Int) (y10:Bool) (y11:List Int):St := St.mk (none :: none :: some (SV.ptr (nat_lit 0) (nat_lit 0)) :: some (SV.ptr (nat_lit 1) (nat_lit 0)) :: some (SV.ptr (nat_lit 2) (nat_lit 0)) :: some (SV.ptr (nat_lit 3) (nat_lit 0)) :: some (SV.int .i64 y1) :: some (SV.int .i64 y2) :: some (SV.int .i64 y3) :: nn 50 ([])) [.cells [SV.bool y4,SV.arr (K.int IntKind.i64) y5 (nat_lit 8)] (nat_lit 138),.cells [SV.bool y6,SV.arr (K.int IntKind.i64) y7 (nat_lit 8)] (nat_lit 138),.cells [SV.bool y8,SV.arr (K.int IntKind.i64) y9 (nat_lit 8)] (nat_lit 138),.cells [SV.bool y10,SV.arr (K.int IntKind.i64) y11 (nat_lit 8)] (nat_lit 138)]
noncomputable abbrev rtimes_S2 (y1:Int) (y2:Bool) (y3:List Int) (y4:Bool) (y5:List Int) (y6:Bool) (y7:List Int) (y8:Bool) (y9:List Int):St := St.mk (none :: none :: some (SV.ptr (nat_lit 0) (nat_lit 0)) :: some (SV.ptr (nat_lit 1) (nat_lit 0)) :: some (SV.ptr (nat_lit 2) (nat_lit 0)) :: some (SV.ptr (nat_lit 3) (nat_lit 0)) :: some (SV.int .i64 y1) :: nn 52 ([])) [.cells [SV.bool y2,SV.arr (K.int IntKind.i64) y3 (nat_lit 8)] (nat_lit 138),.cells [SV.bool y4,SV.arr (K.int IntKind.i64) y5 (nat_lit 8)] (nat_lit 138),.cells [SV.bool y6,SV.arr (K.int IntKind.i64) y7 (nat_lit 8)] (nat_lit 138),.cells [SV.bool y8,SV.arr (K.int IntKind.i64) y9 (nat_lit 8)] (nat_lit 138)]
noncomputable abbrev rtimes_S3:St := St.mk (none :: none :: some (SV.ptr (nat_lit 0) (nat_lit 0)) :: some (SV.ptr (nat_lit 1) (nat_lit 0)) :: some (SV.ptr (nat_lit 2) (nat_lit 0)) :: some (SV.ptr (nat_lit 3) (nat_lit 0)) :: some (SV.int .i64 (0:Int)) :: some (SV.int .i64 (0:Int)) :: some (SV.int .i64 (0:Int)) :: nn 50 ([])) [.cells [SV.bool false,SV.arr (K.int IntKind.i64) [] (nat_lit 8)] (nat_lit 138),.cells [SV.bool false,SV.arr (K.int IntKind.i64) [] (nat_lit 8)] (nat_lit 138),.cells [SV.bool false,SV.arr (K.int IntKind.i64) [] (nat_lit 8)] (nat_lit 138),.cells [SV.bool false,SV.arr (K.int IntKind.i64) [] (nat_lit 8)] (nat_lit 138)]
noncomputable abbrev rtimes_S4 (y1:Bool) (y2:List Int) (y3:Bool) (y4:List Int) (y5:Bool) (y6:List Int) (y7:Bool) (y8:List Int):St := St.mk (none :: none :: some (SV.ptr (nat_lit 0) (nat_lit 0)) :: some (SV.ptr (nat_lit 1) (nat_lit 0)) :: some (SV.ptr (nat_lit 2) (nat_lit 0)) :: some (SV.ptr (nat_lit 3) (nat_lit 0)) :: nn 53 ([])) [.cells [SV.bool y1,SV.arr (K.int IntKind.i64) y2 (nat_lit 8)] (nat_lit 138),.cells [SV.bool y3,SV.arr (K.int IntKind.i64) y4 (nat_lit 8)] (nat_lit 138),.cells [SV.bool y5,SV.arr (K.int IntKind.i64) y6 (nat_lit 8)] (nat_lit 138),.cells [SV.bool y7,SV.arr (K.int IntKind.i64) y8 (nat_lit 8)] (nat_lit 138)]
noncomputable abbrev rtimes_S5:St := St.mk (none :: none :: some (SV.ptr (nat_lit 0) (nat_lit 0)) :: some (SV.ptr (nat_lit 1) (nat_lit 0)) :: some (SV.ptr (nat_lit 2) (nat_lit 0)) :: some (SV.ptr (nat_lit 3) (nat_lit 0)) :: some (SV.int .i64 (0:Int)) :: nn 52 ([])) [.cells [SV.bool false,SV.arr (K.int IntKind.i64) [] (nat_lit 8)] (nat_lit 138),.cells [SV.bool false,SV.arr (K.int IntKind.i64) [] (nat_lit 8)] (nat_lit 138),.cells [SV.bool false,SV.arr (K.int IntKind.i64) [] (nat_lit 8)] (nat_lit 138),.cells [SV.bool false,SV.arr (K.int IntKind.i64) [] (nat_lit 8)] (nat_lit 138)]
abbrev rtimes_P1:List Bool := [false,true,true,true,false,false,true,false,false,true,false,true,true]
noncomputable def M.rtimes_l0_step {α:Type} (x29:Int) (x33:List Int) (x35:List Int) (kn:Int → Int → List Int → Option α) (k1:List Int → Option α) (x30 x31:Int) (x39:List Int):Option α := if cLt (IntKind.wrap .i64 (x29 + x31)) (8:Int) = true then if (0:Int) ≤ IntKind.wrap .i64 (x29 + x31) ∧ IntKind.wrap .i64 (x29 + x31) < (8:Int) then if (0:Int) ≤ x29 ∧ x29 < (8:Int) then if (0:Int) ≤ x31 ∧ x31 < (8:Int) then if (0:Int) ≤ IntKind.wrap .i64 (x29 + x31) ∧ IntKind.wrap .i64 (x29 + x31) < (8:Int) then kn (IntKind.wrap .i64 (Int.tdiv (IntKind.wrap .i64 (IntKind.wrap .i64 (List.getD x39 (Int.toNat (IntKind.wrap .i64 (x29 + x31))) (0:Int) + IntKind.wrap .i64 (List.getD x33 (Int.toNat x29) (0:Int) * List.getD x35 (Int.toNat x31) (0:Int))) + x30)) (16777216:Int))) (IntKind.wrap .i64 (x31 + (1:Int))) (List.set x39 (Int.toNat (IntKind.wrap .i64 (x29 + x31))) (Int.tmod (IntKind.wrap .i64 (IntKind.wrap .i64 (List.getD x39 (Int.toNat (IntKind.wrap .i64 (x29 + x31))) (0:Int) + IntKind.wrap .i64 (List.getD x33 (Int.toNat x29) (0:Int) * List.getD x35 (Int.toNat x31) (0:Int))) + x30)) (16777216:Int))) else none else none else none else none else k1 x39
noncomputable def M.rtimes_l0 {α:Type} (x29:Int) (x33:List Int) (x35:List Int) (k1:List Int → Option α):Nat → Int → Int → List Int → Option α
 | 0,_,_,_ => none
 | n + 1,x30,x31,x39 => M.rtimes_l0_step x29 x33 x35 (M.rtimes_l0 x29 x33 x35 k1 n) k1 x30 x31 x39
theorem rtimes_l0_step_eq {α:Type} (x29 x30 x31:Int) (x32:Bool) (x33:List Int) (x34:Bool) (x35:List Int) (x36:Bool) (x37:List Int) (x38:Bool) (x39:List Int) (Q:Ex → St → Option α):(loopStep E (exec E look_plus noLps 400) 112 rtimes_P1 0 (codeAt E.P 112 rtimes_P1)) (rtimes_S1 x29 x30 x31 x32 x33 x34 x35 x36 x37 x38 x39) Q = M.rtimes_l0_step x29 x33 x35 (fun (x41 x42:Int) (x43:List Int) => Q .normal (rtimes_S1 x29 x41 x42 x32 x33 x34 x35 x36 x37 x38 x43)) (fun (x40:List Int) => Q (.exit 2) (rtimes_S2 x29 x32 x33 x34 x35 x36 x37 x38 x40)) x30 x31 x39 := by kernel_rfl
theorem rtimes_l0_iter {α:Type} (x29:Int) (x32:Bool) (x33:List Int) (x34:Bool) (x35:List Int) (x36:Bool) (x37:List Int) (x38:Bool) (Q:Ex → St → Option α):∀ (n:Nat) (x30 x31:Int) (x39:List Int),iter (loopStep E (exec E look_plus noLps 400) 112 rtimes_P1 0 (codeAt E.P 112 rtimes_P1)) n (rtimes_S1 x29 x30 x31 x32 x33 x34 x35 x36 x37 x38 x39) Q = M.rtimes_l0 x29 x33 x35 (fun (x40:List Int) => Q (.exit 2) (rtimes_S2 x29 x32 x33 x34 x35 x36 x37 x38 x40)) n x30 x31 x39
 | 0,_,_,_ => rfl
 | n + 1,x30,x31,x39 => (rtimes_l0_step_eq x29 x30 x31 x32 x33 x34 x35 x36 x37 x38 x39 (iterK (loopStep E (exec E look_plus noLps 400) 112 rtimes_P1 0 (codeAt E.P 112 rtimes_P1)) n Q)).trans (congrArg (fun kn => M.rtimes_l0_step x29 x33 x35 kn (fun (x40:List Int) => Q (.exit 2) (rtimes_S2 x29 x32 x33 x34 x35 x36 x37 x38 x40)) x30 x31 x39) (funext fun x30 => funext fun x31 => funext fun x39 => rtimes_l0_iter x29 x32 x33 x34 x35 x36 x37 x38 Q n x30 x31 x39))
noncomputable def rtimes_l0_go {α:Type} (ds:List D) (Q:Ex → St → Option α):Option α :=
 dI ds fun x29 ds => dI ds fun x30 ds => dI ds fun x31 ds => dB ds fun x32 ds => dL (K.int IntKind.i64) ds fun x33 ds => dB ds fun x34 ds => dL (K.int IntKind.i64) ds fun x35 ds => dB ds fun x36 ds => dL (K.int IntKind.i64) ds fun x37 ds => dB ds fun x38 ds => dL (K.int IntKind.i64) ds fun x39 ds => dE ds (M.rtimes_l0 x29 x33 x35 (fun (x40:List Int) => Q (.exit 2) (rtimes_S2 x29 x32 x33 x34 x35 x36 x37 x38 x40)) (100 + x33.length + x35.length + x37.length + x39.length) x30 x31 x39)
theorem rtimes_l0_ok {α:Type}:LoopOk E.P 112 rtimes_P1 0 (lEnt (α := α) (rtimes_S3) rtimes_l0_go) :=
 lEnt_ok E (exec_sound E E_ok (look_plus_ok) (noLps_ok _) 400) fun ds Q r h S hS => by
   unfold rtimes_l0_go at h
   obtain ⟨x29,ds,rfl,h1⟩ := dI_inv h
   obtain ⟨x30,ds,rfl,h2⟩ := dI_inv h1
   obtain ⟨x31,ds,rfl,h3⟩ := dI_inv h2
   obtain ⟨x32,ds,rfl,h4⟩ := dB_inv h3
   obtain ⟨x33,ds,rfl,h5⟩ := dL_inv h4
   obtain ⟨x34,ds,rfl,h6⟩ := dB_inv h5
   obtain ⟨x35,ds,rfl,h7⟩ := dL_inv h6
   obtain ⟨x36,ds,rfl,h8⟩ := dB_inv h7
   obtain ⟨x37,ds,rfl,h9⟩ := dL_inv h8
   obtain ⟨x38,ds,rfl,h10⟩ := dB_inv h9
   obtain ⟨x39,ds,rfl,h11⟩ := dL_inv h10
   obtain ⟨rfl,hE⟩ := dE_inv h11
   have e:fillS (rtimes_S3) [.i x29,.i x30,.i x31,.b x32,.l (K.int IntKind.i64) x33,.b x34,.l (K.int IntKind.i64) x35,.b x36,.l (K.int IntKind.i64) x37,.b x38,.l (K.int IntKind.i64) x39] = some (rtimes_S1 x29 x30 x31 x32 x33 x34 x35 x36 x37 x38 x39) := by kernel_rfl
   rw [e] at hS
   cases hS
   exact ⟨_,(rtimes_l0_iter x29 x32 x33 x34 x35 x36 x37 x38 Q _ x30 x31 x39).trans hE⟩
noncomputable def rtimes_l0_lps {α:Type}:LookL α := addLp 112 rtimes_P1 0 (lEnt (rtimes_S3) rtimes_l0_go) noLps
theorem rtimes_l0_lps_ok {α:Type}:LoopsOk E.P (rtimes_l0_lps (α := α)) := addLp_ok rtimes_l0_ok (noLps_ok _)
noncomputable def M.rtimes_l1_step {α:Type} (x46:List Int) (x48:List Int) (x50:List Int) (kn:Int → List Int → Option α) (k1:List Int → Option α) (x44:Int) (x52:List Int):Option α := if cLt x44 (8:Int) = true then if (0:Int) ≤ x44 ∧ x44 < (8:Int) then if cEq (List.getD x46 (Int.toNat x44) (0:Int)) (0:Int) = true then kn (IntKind.wrap .i64 (x44 + (1:Int))) x52 else M.rtimes_l0 x44 x46 x48 (fun (x53:List Int) ↦ kn (IntKind.wrap .i64 (x44 + (1:Int))) x53) ((100:Nat) + List.length x46 + List.length x48 + List.length x50 + List.length x52) (0:Int) (0:Int) x52 else none else k1 x52
noncomputable def M.rtimes_l1 {α:Type} (x46:List Int) (x48:List Int) (x50:List Int) (k1:List Int → Option α):Nat → Int → List Int → Option α
 | 0,_,_ => none
 | n + 1,x44,x52 => M.rtimes_l1_step x46 x48 x50 (M.rtimes_l1 x46 x48 x50 k1 n) k1 x44 x52
theorem rtimes_l1_step_eq {α:Type} (x44:Int) (x45:Bool) (x46:List Int) (x47:Bool) (x48:List Int) (x49:Bool) (x50:List Int) (x51:Bool) (x52:List Int) (Q:Ex → St → Option α):(loopStep E (exec E look_plus rtimes_l0_lps 400) 112 [false,true,false,true,true] 0 (codeAt E.P 112 [false,true,false,true,true])) (rtimes_S2 x44 x45 x46 x47 x48 x49 x50 x51 x52) Q = M.rtimes_l1_step x46 x48 x50 (fun (x55:Int) (x56:List Int) => Q .normal (rtimes_S2 x55 x45 x46 x47 x48 x49 x50 x51 x56)) (fun (x54:List Int) => Q (.exit 0) (rtimes_S4 x45 x46 x47 x48 x49 x50 x51 x54)) x44 x52 := by kernel_rfl
theorem rtimes_l1_iter {α:Type} (x45:Bool) (x46:List Int) (x47:Bool) (x48:List Int) (x49:Bool) (x50:List Int) (x51:Bool) (Q:Ex → St → Option α):∀ (n:Nat) (x44:Int) (x52:List Int),iter (loopStep E (exec E look_plus rtimes_l0_lps 400) 112 [false,true,false,true,true] 0 (codeAt E.P 112 [false,true,false,true,true])) n (rtimes_S2 x44 x45 x46 x47 x48 x49 x50 x51 x52) Q = M.rtimes_l1 x46 x48 x50 (fun (x54:List Int) => Q (.exit 0) (rtimes_S4 x45 x46 x47 x48 x49 x50 x51 x54)) n x44 x52
 | 0,_,_ => rfl
 | n + 1,x44,x52 => (rtimes_l1_step_eq x44 x45 x46 x47 x48 x49 x50 x51 x52 (iterK (loopStep E (exec E look_plus rtimes_l0_lps 400) 112 [false,true,false,true,true] 0 (codeAt E.P 112 [false,true,false,true,true])) n Q)).trans (congrArg (fun kn => M.rtimes_l1_step x46 x48 x50 kn (fun (x54:List Int) => Q (.exit 0) (rtimes_S4 x45 x46 x47 x48 x49 x50 x51 x54)) x44 x52) (funext fun x44 => funext fun x52 => rtimes_l1_iter x45 x46 x47 x48 x49 x50 x51 Q n x44 x52))
noncomputable def rtimes_l1_go {α:Type} (ds:List D) (Q:Ex → St → Option α):Option α :=
 dI ds fun x44 ds => dB ds fun x45 ds => dL (K.int IntKind.i64) ds fun x46 ds => dB ds fun x47 ds => dL (K.int IntKind.i64) ds fun x48 ds => dB ds fun x49 ds => dL (K.int IntKind.i64) ds fun x50 ds => dB ds fun x51 ds => dL (K.int IntKind.i64) ds fun x52 ds => dE ds (M.rtimes_l1 x46 x48 x50 (fun (x54:List Int) => Q (.exit 0) (rtimes_S4 x45 x46 x47 x48 x49 x50 x51 x54)) (100 + x46.length + x48.length + x50.length + x52.length) x44 x52)
theorem rtimes_l1_ok {α:Type}:LoopOk E.P 112 [false,true,false,true,true] 0 (lEnt (α := α) (rtimes_S5) rtimes_l1_go) :=
 lEnt_ok E (exec_sound E E_ok (look_plus_ok) (rtimes_l0_lps_ok) 400) fun ds Q r h S hS => by
   unfold rtimes_l1_go at h
   obtain ⟨x44,ds,rfl,h1⟩ := dI_inv h
   obtain ⟨x45,ds,rfl,h2⟩ := dB_inv h1
   obtain ⟨x46,ds,rfl,h3⟩ := dL_inv h2
   obtain ⟨x47,ds,rfl,h4⟩ := dB_inv h3
   obtain ⟨x48,ds,rfl,h5⟩ := dL_inv h4
   obtain ⟨x49,ds,rfl,h6⟩ := dB_inv h5
   obtain ⟨x50,ds,rfl,h7⟩ := dL_inv h6
   obtain ⟨x51,ds,rfl,h8⟩ := dB_inv h7
   obtain ⟨x52,ds,rfl,h9⟩ := dL_inv h8
   obtain ⟨rfl,hE⟩ := dE_inv h9
   have e:fillS (rtimes_S5) [.i x44,.b x45,.l (K.int IntKind.i64) x46,.b x47,.l (K.int IntKind.i64) x48,.b x49,.l (K.int IntKind.i64) x50,.b x51,.l (K.int IntKind.i64) x52] = some (rtimes_S2 x44 x45 x46 x47 x48 x49 x50 x51 x52) := by kernel_rfl
   rw [e] at hS
   cases hS
   exact ⟨_,(rtimes_l1_iter x45 x46 x47 x48 x49 x50 x51 Q _ x44 x52).trans hE⟩
noncomputable def rtimes_l1_lps {α:Type}:LookL α := addLp 112 [false,true,false,true,true] 0 (lEnt (rtimes_S5) rtimes_l1_go) rtimes_l0_lps
theorem rtimes_l1_lps_ok {α:Type}:LoopsOk E.P (rtimes_l1_lps (α := α)) := addLp_ok rtimes_l1_ok (rtimes_l0_lps_ok)
noncomputable def M.rtimes {α:Type} (an:Bool) (ad:List Int) (bn:Bool) (bd:List Int) (k0:Bool → List Int → Option α):Option α := M.rtimes_l1 ad bd (List.replicate (8:Nat) (0:Int)) (fun (x57:List Int) ↦ k0 (!an == bn) x57) ((100:Nat) + List.length ad + List.length bd + (8:Nat) + (8:Nat)) (0:Int) (List.replicate (8:Nat) (0:Int))
theorem rtimes_eq {α:Type} (an:Bool) (ad:List Int) (bn:Bool) (bd:List Int) (Q:SV → Hp → Option α):callI E look_plus (exec E look_plus rtimes_l1_lps 400) 112 ([SV.agg [SV.bool an,SV.arr (K.int IntKind.i64) ad (nat_lit 8)],SV.agg [SV.bool bn,SV.arr (K.int IntKind.i64) bd (nat_lit 8)]]) ([]) Q = M.rtimes an ad bn bd (fun (x58:Bool) (x59:List Int) => Q (SV.agg [SV.bool x58,SV.arr (K.int IntKind.i64) x59 (nat_lit 8)]) ([])) := by kernel_rfl
def rtimes_sp:List AS := [.val (.agg [.bool false,.arr (.int .i64) [] 8]),.val (.agg [.bool false,.arr (.int .i64) [] 8])]
theorem rtimes_l0_val {α:Type} (a b:List Int) (ha:okD a = true) (hb:okD b = true) (la:a.length = 8) (lb:b.length = 8) (i:Nat) (hi:i < 8) (k1:List Int → Option α):∀ (fuel k:Nat) (c:Int) (o:List Int),i + k ≤ 8 → 8 - k < fuel → o.length = 8 → okD o = true → 0 ≤ c → c < 16777216 →
   M.rtimes_l0 (i:Int) a b k1 fuel c (k:Int) o = k1 (o.take (i + k) ++ linL (a.getD i 0) (o.drop (i + k)) (b.drop k) c)
 | 0,k,c,o,h1,h2,_,_,_,_ => by omega
 | n + 1,k,c,o,h1,h2,lo,ho,hc0,hc1 => by
   unfold M.rtimes_l0 M.rtimes_l0_step
   have ew:IntKind.wrap .i64 ((i:Int) + (k:Int)) = ((i + k:Nat):Int) := by rw [IntWalk.i64_in _ (by omega)]; push_cast; rfl
   rw [ew,cLt_eq]
   by_cases hk:i + k < 8
   · have c1 : ((i + k : Nat) : Int) < 8 := by omega
     have c2:(0:Int) ≤ ((i + k:Nat):Int) := by omega
     have c3:(i:Int) < 8 := by omega
     have c4:(k:Int) < 8 := by omega
     have da := okD_get ha i
     have db := okD_get hb k
     have dd := okD_get ho (i + k)
     simp only [c1,c2,c3,c4,Int.natCast_nonneg,decide_true,if_true,and_self,Int.toNat_natCast]
     have hlin:linL (a.getD i 0) (o.drop (i + k)) (b.drop k) c = (o.getD (i + k) 0 + a.getD i 0 * b.getD k 0 + c) % 16777216 :: linL (a.getD i 0) (o.drop (i + k + 1)) (b.drop (k + 1)) ((o.getD (i + k) 0 + a.getD i 0 * b.getD k 0 + c) / 16777216) := by
       rw [drop_getD (by omega:i + k < o.length),drop_getD (by omega:k < b.length),linL]
     rw [hlin]
     generalize hx:a.getD i 0 = x at *
     generalize b.getD k 0 = y at *
     generalize o.getD (i + k) 0 = z at *
     have p1:x * y ≤ 16777215 * 16777215 := Int.mul_le_mul (by omega) (by omega) db.1 (by omega)
     have p0:0 ≤ x * y := Int.mul_nonneg da.1 db.1
     rw [IntWalk.i64_in (x * y) (by omega),IntWalk.i64_in (z + x * y) (by omega),IntWalk.i64_in (z + x * y + c) (by omega),Int.tdiv_eq_ediv_of_nonneg (by omega),Int.tmod_eq_emod_of_nonneg (by omega),IntWalk.i64_in ((z + x * y + c) / 16777216) (by omega),IntWalk.i64_in ((k:Int) + 1) (by omega)]
     have ho':okD (o.set (i + k) ((z + x * y + c) % 16777216)) = true := by
       rw [← List.take_append_drop (i + k + 1) (o.set (i + k) _),okD_append,take_set_succ _ (by omega),drop_set_succ,okD_append]
       exact ⟨⟨okD_take ho _,by rw [okD_cons]; exact ⟨by omega,rfl⟩⟩,okD_drop ho _⟩
     have := rtimes_l0_val a b ha hb la lb i hi k1 n (k + 1) ((z + x * y + c) / 16777216) (o.set (i + k) ((z + x * y + c) % 16777216)) (by omega) (by omega) (by simpa using lo) ho' (by omega) (by omega)
     rw [hx] at this
     push_cast at this
     rw [this,show i + (k + 1) = i + k + 1 by omega,take_set_succ _ (by omega),drop_set_succ,List.append_assoc,List.singleton_append]
   · have e : i + k = 8 := by omega
     rw [e]
     have e2:¬ ((8:Nat):Int) < 8 := by omega
     simp only [e2,decide_false,Bool.false_eq_true,if_false]
     rw [List.take_of_length_le (by omega),List.drop_of_length_le (by omega:o.length ≤ 8),linL,List.append_nil]
     · intro _ _ _ _ _; simp_all
def tmL:List Int → Nat → List Int → List Int → List Int
 | [],_,o,_ => o
 | x :: us,i,o,b => tmL us (i + 1) (o.take i ++ linL x (o.drop i) b 0) b
theorem linL_zero:∀ (xs ys:List Int),okD xs = true → xs.length ≤ ys.length → linL 0 xs ys 0 = xs
 | [],ys,_,_ => by simp [linL]
 | x :: xs,[],_,h => by simp at h
 | x :: xs,y :: ys,h,hl => by
   rw [okD_cons] at h
   rw [linL,Int.zero_mul,Int.add_zero,Int.add_zero,show x % 16777216 = x by omega,show x / 16777216 = 0 by omega,linL_zero xs ys h.2 (by simpa using hl)]
theorem tm_step {o b:List Int} (x:Int) {i:Nat} (lo:o.length = 8) (lb:b.length = 8) (ho:okD o = true) (hi:i ≤ 8):(o.take i ++ linL x (o.drop i) b 0).length = 8 ∧ okD (o.take i ++ linL x (o.drop i) b 0) = true := by
 refine ⟨?_,?_⟩
 · rw [List.length_append,linL_len _ _ _ _ (by rw [List.length_drop]; omega),List.length_take,List.length_drop]; omega
 · rw [okD_append]; exact ⟨okD_take ho i,linL_ok _ _ _ _⟩
theorem rtimes_l1_val {α:Type} (a b z:List Int) (ha:okD a = true) (hb:okD b = true) (la:a.length = 8) (lb:b.length = 8) (k1:List Int → Option α):∀ (fuel i:Nat) (o:List Int),i ≤ 8 → 8 - i < fuel → o.length = 8 → okD o = true →
   M.rtimes_l1 a b z k1 fuel (i:Int) o = k1 (tmL (a.drop i) i o b)
 | 0,i,o,h1,h2,_,_ => by omega
 | n + 1,i,o,h1,h2,lo,ho => by
   unfold M.rtimes_l1 M.rtimes_l1_step
   rw [cLt_eq]
   by_cases hi:i < 8
   · have c1 : (i : Int) < 8 := by omega
     have c2:(0:Int) ≤ (i:Int) := by omega
     simp only [c1,c2,decide_true,if_true,and_self,Int.toNat_natCast,cEq_eq]
     rw [IntWalk.i64_in ((i:Int) + 1) (by omega),drop_getD (by omega:i < a.length),tmL]
     obtain ⟨l',o'⟩ := tm_step (b := b) (a.getD i 0) lo lb ho h1
     have rc := rtimes_l1_val a b z ha hb la lb k1 n (i + 1) (o.take i ++ linL (a.getD i 0) (o.drop i) b 0) (by omega) (by omega) l' o'
     push_cast at rc
     by_cases h0:a.getD i 0 = 0
     · rw [h0] at rc ⊢
       rw [linL_zero _ _ (okD_drop ho i) (by rw [List.length_drop]; omega),List.take_append_drop] at rc ⊢
       simp only [beq_self_eq_true,if_true]
       exact rc
     · have : (a.getD i 0 == 0) = false := by simpa using h0
       simp only [this,Bool.false_eq_true,if_false]
       have inner := rtimes_l0_val a b ha hb la lb i hi (fun x => M.rtimes_l1 a b z k1 n ((i:Int) + 1) x) (100 + a.length + b.length + z.length + o.length) 0 0 o (by omega) (by omega) lo ho (by omega) (by omega)
       simp only [Int.natCast_zero,Nat.add_zero,List.drop_zero] at inner
       exact inner.trans rc
   · have : i = 8 := by omega
     subst this
     have e:¬ ((8:Nat):Int) < 8 := by omega
     simp only [e,decide_false,Bool.false_eq_true,if_false]
     rw [List.drop_of_length_le (by omega:a.length ≤ 8),tmL]
theorem tmL_ok (b:List Int) (lb:b.length = 8):∀ (us:List Int) (i:Nat) (o:List Int),us.length + i = 8 → o.length = 8 → okD o = true → (tmL us i o b).length = 8 ∧ okD (tmL us i o b) = true
 | [],i,o,_,lo,ho => ⟨lo,ho⟩
 | x :: us,i,o,h,lo,ho => by
   simp only [List.length_cons] at h
   obtain ⟨l',o'⟩ := tm_step (b := b) x lo lb ho (by omega:i ≤ 8)
   exact tmL_ok b lb us (i + 1) _ (by omega) l' o'
theorem tmL_val (b:List Int) (lb:b.length = 8):∀ (us:List Int) (i:Nat) (o:List Int),us.length + i = 8 → o.length = 8 → okD o = true → val (tmL us i o b) = (val o + 16777216 ^ i * val us * val b) % 16777216 ^ 8
 | [],i,o,_,lo,ho => by
   have := val_bound ho
   rw [lo] at this
   simp only [tmL,val,Int.mul_zero,Int.zero_mul,Int.add_zero]
   rw [Int.emod_eq_of_lt this.1 this.2]
 | x :: us,i,o,h,lo,ho => by
   simp only [List.length_cons] at h
   obtain ⟨l',o'⟩ := tm_step (b := b) x lo lb ho (by omega:i ≤ 8)
   rw [tmL,tmL_val b lb us (i + 1) _ (by omega) l' o',val_append,linL_val _ _ _ _ (by rw [List.length_drop]; omega),List.length_take,List.length_drop,lo,Nat.min_eq_left (by omega:i ≤ 8)]
   have e0:val o = val (o.take i) + 16777216 ^ i * val (o.drop i) := by
     have := val_append (o.take i) (o.drop i)
     rw [List.take_append_drop,List.length_take,lo,Nat.min_eq_left (by omega:i ≤ 8)] at this
     exact this
   have e1:(16777216:Int) ^ i * 16777216 ^ (8 - i) = 16777216 ^ 8 := by rw [← Int.pow_add]; exact congrArg (fun e:Nat => (16777216:Int) ^ e) (by omega)
   have e2 := Int.mul_ediv_add_emod (val (o.drop i) + x * val b + 0) (16777216 ^ (8 - i))
   rw [e0,pB1,val]
   generalize hM:(16777216:Int) ^ (8 - i) = M at *
   generalize hP:(16777216:Int) ^ i = P at *
   generalize hq:(val (o.drop i) + x * val b + 0) / M = q at *
   generalize hr:(val (o.drop i) + x * val b + 0) % M = r at *
   have:val (o.take i) + P * val (o.drop i) + P * (x + 16777216 * val us) * val b = val (o.take i) + P * r + 16777216 * P * val us * val b + 16777216 ^ 8 * q := by
     rw [← e1]
     grind
   rw [this,Int.add_mul_emod_self_left]
noncomputable def _root_.Go.Proofs.YtfkgmidgdpfnkaaGreat.V.tmD (a b:List Int):List Int := tmL a 0 (List.replicate 8 0) b
def _root_.Go.Proofs.YtfkgmidgdpfnkaaGreat.V.tmN (an bn:Bool):Bool := !(an == bn)
theorem rtimes_v {α:Type} (an:Bool) (a:List Int) (bn:Bool) (b:List Int) (ha:V.ok8 a = true) (hb:V.ok8 b = true) (k0:Bool → List Int → Option α):M.rtimes an a bn b k0 = k0 (V.tmN an bn) (V.tmD a b) := by
 rw [ok8_iff] at ha hb
 unfold M.rtimes V.tmN V.tmD
 have := rtimes_l1_val a b (List.replicate 8 0) ha.2 hb.2 ha.1 hb.1 (fun x => k0 (!(an == bn)) x) (100 + a.length + b.length + 8 + 8) 0 (List.replicate 8 0) (by omega) (by omega) rfl rfl
 simp only [Int.natCast_zero,List.drop_zero] at this
 exact this
noncomputable def rtimes_h {α:Type} (ds:List D) (Q:SV → Hp → Option α):Option α :=
 dB ds fun an ds => dL (K.int IntKind.i64) ds fun ad ds => dB ds fun bn ds => dL (K.int IntKind.i64) ds fun bd ds => dE ds (if V.ok8 ad = true ∧ V.ok8 bd = true then Q (.agg [.bool (V.tmN an bn),.arr (.int .i64) (V.tmD ad bd) 8]) ([]) else none)
theorem rtimes_h_ok {α:Type}:FnOk E.P 112 (fEnt (α := α) rtimes_sp rtimes_h) :=
 fEnt_ok E (look_plus_ok) (exec_sound E E_ok (look_plus_ok) (rtimes_l1_lps_ok) 400) fun ds Q r h => by
   unfold rtimes_h at h
   obtain ⟨an,ds,rfl,h1⟩ := dB_inv h
   obtain ⟨ad,ds,rfl,h2⟩ := dL_inv h1
   obtain ⟨bn,ds,rfl,h3⟩ := dB_inv h2
   obtain ⟨bd,ds,rfl,h4⟩ := dL_inv h3
   obtain ⟨rfl,hE⟩ := dE_inv h4
   split at hE
   · rename_i hg
     exact ⟨[SV.agg [SV.bool an,SV.arr (K.int IntKind.i64) ad (nat_lit 8)],SV.agg [SV.bool bn,SV.arr (K.int IntKind.i64) bd (nat_lit 8)]],[],fun vs => by kernel_rfl,(rtimes_eq an ad bn bd Q).trans ((rtimes_v an ad bn bd hg.1 hg.2 _).trans hE)⟩
   · cases hE
noncomputable def look_rtimes {α:Type}:LookF α := addFn 112 (fEnt rtimes_sp rtimes_h) look_plus
theorem look_rtimes_ok {α:Type}:LookOk E.P (look_rtimes (α := α)) := addFn_ok rtimes_h_ok (look_plus_ok)
theorem tmD_ok {a b:List Int} (ha:V.ok8 a = true) (hb:V.ok8 b = true):V.ok8 (V.tmD a b) = true := by
 rw [ok8_iff] at ha hb ⊢
 exact tmL_ok b hb.1 a 0 _ (by omega) rfl rfl
theorem tmD_val {a b:List Int} (ha:V.ok8 a = true) (hb:V.ok8 b = true) (h:val a * val b < 6277101735386680763835789423207666416102355444464034512896):val (V.tmD a b) = val a * val b := by
 rw [ok8_iff] at ha hb
 have va := val_bound ha.2
 have vb := val_bound hb.2
 have h0:0 ≤ val a * val b := Int.mul_nonneg va.1 vb.1
 unfold V.tmD
 rw [tmL_val b hb.1 a 0 _ (by omega) rfl rfl,p8]
 have e:val (List.replicate 8 (0:Int)) = 0 := by decide
 rw [e,Int.pow_zero,Int.one_mul,Int.zero_add,Int.emod_eq_of_lt h0 h]
theorem tm_val (an:Bool) {a:List Int} (bn:Bool) {b:List Int} (ha:V.ok8 a = true) (hb:V.ok8 b = true) (h:val a * val b < 6277101735386680763835789423207666416102355444464034512896):wv (V.tmN an bn) (V.tmD a b) = wv an a * wv bn b := by
 unfold wv V.tmN
 rw [tmD_val ha hb h]
 cases an <;> cases bn <;> simp [Int.mul_neg,Int.neg_mul]
end
section
open Go
set_option maxRecDepth 20000
noncomputable def M.less {α:Type} (an:Bool) (ad:List Int) (bn:Bool) (bd:List Int) (k0:Bool → Option α):Option α := if V.ok8 ad = true ∧ V.ok8 bd = true then if V.ok8 (V.plD an ad (!bn) bd) = true ∧ V.ok8 (List.replicate (8:Nat) (0:Int)) = true then if cEq (V.szD (V.plD an ad (!bn) bd) (List.replicate (8:Nat) (0:Int))) (0:Int) = true then k0 (cLt (0:Int) (0:Int)) else if V.plN an ad (!bn) bd = true then k0 (cLt (-1:Int) (0:Int)) else k0 (cLt (1:Int) (0:Int)) else none else none
theorem less_eq {α:Type} (an:Bool) (ad:List Int) (bn:Bool) (bd:List Int) (Q:SV → Hp → Option α):callI E look_rtimes (exec E look_rtimes noLps 400) 141 ([SV.agg [SV.bool an,SV.arr (K.int IntKind.i64) ad (nat_lit 8)],SV.agg [SV.bool bn,SV.arr (K.int IntKind.i64) bd (nat_lit 8)]]) ([]) Q = M.less an ad bn bd (fun (x0:Bool) => Q (SV.bool x0) ([])) := by kernel_rfl
def less_sp:List AS := [.val (.agg [.bool false,.arr (.int .i64) [] 8]),.val (.agg [.bool false,.arr (.int .i64) [] 8])]
def _root_.Go.Proofs.YtfkgmidgdpfnkaaGreat.V.two (a b:List Int):Bool := V.ok8 a && V.ok8 b && decide (val a + val b < 6277101735386680763835789423207666416102355444464034512896)
noncomputable def _root_.Go.Proofs.YtfkgmidgdpfnkaaGreat.V.ls (an:Bool) (a:List Int) (bn:Bool) (b:List Int):Bool := decide (wv an a < wv bn b)
theorem less_v {α:Type} (an:Bool) (a:List Int) (bn:Bool) (b:List Int) (h:V.two a b = true) (k0:Bool → Option α):M.less an a bn b k0 = k0 (V.ls an a bn b) := by
 unfold V.two at h
 simp only [Bool.and_eq_true,decide_eq_true_eq] at h
 obtain ⟨⟨ha,hb⟩,hs⟩ := h
 unfold M.less V.ls
 have hz:V.ok8 (List.replicate 8 0) = true := by decide
 have hd := plD_ok an (!bn) ha hb
 obtain ⟨hv,_⟩ := pl_val an (!bn) ha hb hs
 rw [if_pos ⟨ha,hb⟩,if_pos ⟨hd,hz⟩]
 have hflip:wv (!bn) b = - wv bn b := by unfold wv; cases bn <;> simp
 rw [hflip] at hv
 have vd := val_bound (ok8_iff.1 hd).2
 generalize V.plD an a (!bn) b = D at *
 generalize V.plN an a (!bn) b = N at *
 have e0:val (List.replicate 8 (0:Int)) = 0 := by decide
 unfold V.szD V.cmp
 rw [e0,cEq_eq,cLt_eq,cLt_eq,cLt_eq]
 unfold wv at hv
 by_cases hD:val D = 0
 · rw [hD] at hv
   have:wv an a - wv bn b = 0 := by unfold wv; cases N <;> simp at hv <;> omega
   have hn:¬ wv an a < wv bn b := by omega
   rw [hD]
   simp [hn]
 · have h1 : ¬ val D < 0 := by omega
   have h2:0 < val D := by omega
   simp only [h1,h2,if_true,if_false]
   cases N with
   | true =>
     have hn:wv an a < wv bn b := by unfold wv; simp at hv; omega
     simp [hn]
   | false =>
     have hn:¬ wv an a < wv bn b := by unfold wv; simp at hv; omega
     simp [hn]
noncomputable def less_h {α:Type} (ds:List D) (Q:SV → Hp → Option α):Option α :=
 dB ds fun an ds => dL (K.int IntKind.i64) ds fun ad ds => dB ds fun bn ds => dL (K.int IntKind.i64) ds fun bd ds => dE ds (if V.two ad bd = true then Q (.bool (V.ls an ad bn bd)) ([]) else none)
theorem less_h_ok {α:Type}:FnOk E.P 141 (fEnt (α := α) less_sp less_h) :=
 fEnt_ok E (look_rtimes_ok) (exec_sound E E_ok (look_rtimes_ok) (noLps_ok _) 400) fun ds Q r h => by
   unfold less_h at h
   obtain ⟨an,ds,rfl,h1⟩ := dB_inv h
   obtain ⟨ad,ds,rfl,h2⟩ := dL_inv h1
   obtain ⟨bn,ds,rfl,h3⟩ := dB_inv h2
   obtain ⟨bd,ds,rfl,h4⟩ := dL_inv h3
   obtain ⟨rfl,hE⟩ := dE_inv h4
   split at hE
   · rename_i hg
     exact ⟨[SV.agg [SV.bool an,SV.arr (K.int IntKind.i64) ad (nat_lit 8)],SV.agg [SV.bool bn,SV.arr (K.int IntKind.i64) bd (nat_lit 8)]],[],fun vs => by kernel_rfl,(less_eq an ad bn bd Q).trans ((less_v an ad bn bd hg _).trans hE)⟩
   · cases hE
noncomputable def look_less {α:Type}:LookF α := addFn 141 (fEnt less_sp less_h) look_rtimes
theorem look_less_ok {α:Type}:LookOk E.P (look_less (α := α)) := addFn_ok less_h_ok (look_rtimes_ok)
noncomputable abbrev down_S1 (y1:Int) (y2:Bool) (y3 y4 y5 y6:Int) (y7:Bool) (y8:List Int):St := St.mk (none :: some (SV.int .i64 y1) :: some (SV.ptr (nat_lit 0) (nat_lit 0)) :: nn 3 (some (SV.bool y2) :: some (SV.int .i64 y3) :: some (SV.int .i64 y4) :: some (SV.int .i64 y5) :: some (SV.int .i64 y6) :: nn 66 ([]))) [.cells [SV.bool y7,SV.arr (K.int IntKind.i64) y8 (nat_lit 8)] (nat_lit 138)]
noncomputable abbrev down_S2 (y1:Int) (y2:Bool) (y3 y4 y5:Int) (y6:Bool) (y7:List Int):St := St.mk (none :: some (SV.int .i64 y1) :: some (SV.ptr (nat_lit 0) (nat_lit 0)) :: none :: some (SV.int .i64 (0:Int)) :: some (SV.bool false) :: some (SV.bool y2) :: some (SV.int .i64 y3) :: some (SV.int .i64 y4) :: some (SV.int .i64 y5) :: nn 67 ([])) [.cells [SV.bool y6,SV.arr (K.int IntKind.i64) y7 (nat_lit 8)] (nat_lit 138)]
noncomputable abbrev down_S3 (y1:Int) (y2:Bool) (y3 y4 y5:Int) (y6:Bool) (y7:List Int):St := St.mk (none :: some (SV.int .i64 y1) :: some (SV.ptr (nat_lit 0) (nat_lit 0)) :: nn 3 (some (SV.bool y2) :: some (SV.int .i64 y3) :: some (SV.int .i64 y4) :: some (SV.int .i64 y5) :: nn 67 ([]))) [.cells [SV.bool y6,SV.arr (K.int IntKind.i64) y7 (nat_lit 8)] (nat_lit 138)]
noncomputable abbrev down_S4:St := St.mk (none :: some (SV.int .i64 (0:Int)) :: some (SV.ptr (nat_lit 0) (nat_lit 0)) :: nn 3 (some (SV.bool false) :: some (SV.int .i64 (0:Int)) :: some (SV.int .i64 (0:Int)) :: some (SV.int .i64 (0:Int)) :: some (SV.int .i64 (0:Int)) :: nn 66 ([]))) [.cells [SV.bool false,SV.arr (K.int IntKind.i64) [] (nat_lit 8)] (nat_lit 138)]
noncomputable abbrev down_S5 (y1:Bool) (y2 y3:Int):St := St.mk (nn 4 (some (SV.int .i64 (0:Int)) :: some (SV.bool false) :: some (SV.bool y1) :: some (SV.int .i64 y2) :: some (SV.int .i64 y3) :: nn 68 ([]))) []
noncomputable abbrev down_S6:St := St.mk (none :: some (SV.int .i64 (0:Int)) :: some (SV.ptr (nat_lit 0) (nat_lit 0)) :: nn 3 (some (SV.bool false) :: some (SV.int .i64 (0:Int)) :: some (SV.int .i64 (0:Int)) :: some (SV.int .i64 (0:Int)) :: nn 67 ([]))) [.cells [SV.bool false,SV.arr (K.int IntKind.i64) [] (nat_lit 8)] (nat_lit 138)]
abbrev down_P1:List Bool := [false,true,true,false,false,true,false,false,true,false,true,true,true,true,true]
abbrev down_P2:List Bool := [false,true,false,true,true,true,true,true]
noncomputable def M.down_l0_step {α:Type} (x23 x27:Int) (x30:List Int) (kn:Int → Int → Int → Option α) (k0:Int → Int → Option α) (k2:Int → Int → Option α) (x25 x26 x28:Int):Option α := if cLt (0:Int) x28 = true then if (0:Int) ≤ x27 ∧ x27 < (8:Int) then if x28 = (0:Int) then none else if cEq (Int.tmod (IntKind.wrap .i64 (Int.tdiv (List.getD x30 (Int.toNat x27) (0:Int)) x28)) (2:Int)) (1:Int) = true then if cLt (2305843009213693951:Int) x25 = true then k0 x25 (IntKind.wrap .i64 (IntKind.wrap .i64 ((2:Int) * x26) + (1:Int))) else if cLe x23 (IntKind.wrap .i64 (IntKind.wrap .i64 ((2:Int) * x26) + (1:Int))) = true then kn (IntKind.wrap .i64 (IntKind.wrap .i64 ((2:Int) * x25) + (1:Int))) (IntKind.wrap .i64 (IntKind.wrap .i64 (IntKind.wrap .i64 ((2:Int) * x26) + (1:Int)) - x23)) (IntKind.wrap .i64 (Int.tdiv x28 (2:Int))) else kn (IntKind.wrap .i64 ((2:Int) * x25)) (IntKind.wrap .i64 (IntKind.wrap .i64 ((2:Int) * x26) + (1:Int))) (IntKind.wrap .i64 (Int.tdiv x28 (2:Int))) else if cLt (2305843009213693951:Int) x25 = true then k0 x25 (IntKind.wrap .i64 ((2:Int) * x26)) else if cLe x23 (IntKind.wrap .i64 ((2:Int) * x26)) = true then kn (IntKind.wrap .i64 (IntKind.wrap .i64 ((2:Int) * x25) + (1:Int))) (IntKind.wrap .i64 (IntKind.wrap .i64 ((2:Int) * x26) - x23)) (IntKind.wrap .i64 (Int.tdiv x28 (2:Int))) else kn (IntKind.wrap .i64 ((2:Int) * x25)) (IntKind.wrap .i64 ((2:Int) * x26)) (IntKind.wrap .i64 (Int.tdiv x28 (2:Int))) else none else k2 x25 x26
noncomputable def M.down_l0 {α:Type} (x23 x27:Int) (x30:List Int) (k0:Int → Int → Option α) (k2:Int → Int → Option α):Nat → Int → Int → Int → Option α
 | 0,_,_,_ => none
 | n + 1,x25,x26,x28 => M.down_l0_step x23 x27 x30 (M.down_l0 x23 x27 x30 k0 k2 n) k0 k2 x25 x26 x28
theorem down_l0_step_eq {α:Type} (x23:Int) (x24:Bool) (x25 x26 x27 x28:Int) (x29:Bool) (x30:List Int) (Q:Ex → St → Option α):(loopStep E (exec E look_less noLps 400) 102 down_P1 0 (codeAt E.P 102 down_P1)) (down_S1 x23 x24 x25 x26 x27 x28 x29 x30) Q = M.down_l0_step x23 x27 x30 (fun (x35 x36 x37:Int) => Q .normal (down_S1 x23 x24 x35 x36 x27 x37 x29 x30)) (fun (x31 x32:Int) => Q .ret (down_S2 x23 x24 x31 x32 x27 x29 x30)) (fun (x33 x34:Int) => Q (.exit 2) (down_S3 x23 x24 x33 x34 x27 x29 x30)) x25 x26 x28 := by kernel_rfl
theorem down_l0_iter {α:Type} (x23:Int) (x24:Bool) (x27:Int) (x29:Bool) (x30:List Int) (Q:Ex → St → Option α):∀ (n:Nat) (x25 x26 x28:Int),iter (loopStep E (exec E look_less noLps 400) 102 down_P1 0 (codeAt E.P 102 down_P1)) n (down_S1 x23 x24 x25 x26 x27 x28 x29 x30) Q = M.down_l0 x23 x27 x30 (fun (x31 x32:Int) => Q .ret (down_S2 x23 x24 x31 x32 x27 x29 x30)) (fun (x33 x34:Int) => Q (.exit 2) (down_S3 x23 x24 x33 x34 x27 x29 x30)) n x25 x26 x28
 | 0,_,_,_ => rfl
 | n + 1,x25,x26,x28 => (down_l0_step_eq x23 x24 x25 x26 x27 x28 x29 x30 (iterK (loopStep E (exec E look_less noLps 400) 102 down_P1 0 (codeAt E.P 102 down_P1)) n Q)).trans (congrArg (fun kn => M.down_l0_step x23 x27 x30 kn (fun (x31 x32:Int) => Q .ret (down_S2 x23 x24 x31 x32 x27 x29 x30)) (fun (x33 x34:Int) => Q (.exit 2) (down_S3 x23 x24 x33 x34 x27 x29 x30)) x25 x26 x28) (funext fun x25 => funext fun x26 => funext fun x28 => down_l0_iter x23 x24 x27 x29 x30 Q n x25 x26 x28))
noncomputable def down_l0_go {α:Type} (ds:List D) (Q:Ex → St → Option α):Option α :=
 dI ds fun x23 ds => dB ds fun x24 ds => dI ds fun x25 ds => dI ds fun x26 ds => dI ds fun x27 ds => dI ds fun x28 ds => dB ds fun x29 ds => dL (K.int IntKind.i64) ds fun x30 ds => dE ds (M.down_l0 x23 x27 x30 (fun (x31 x32:Int) => Q .ret (down_S2 x23 x24 x31 x32 x27 x29 x30)) (fun (x33 x34:Int) => Q (.exit 2) (down_S3 x23 x24 x33 x34 x27 x29 x30)) (100 + x30.length) x25 x26 x28)
theorem down_l0_ok {α:Type}:LoopOk E.P 102 down_P1 0 (lEnt (α := α) (down_S4) down_l0_go) :=
 lEnt_ok E (exec_sound E E_ok (look_less_ok) (noLps_ok _) 400) fun ds Q r h S hS => by
   unfold down_l0_go at h
   obtain ⟨x23,ds,rfl,h1⟩ := dI_inv h
   obtain ⟨x24,ds,rfl,h2⟩ := dB_inv h1
   obtain ⟨x25,ds,rfl,h3⟩ := dI_inv h2
   obtain ⟨x26,ds,rfl,h4⟩ := dI_inv h3
   obtain ⟨x27,ds,rfl,h5⟩ := dI_inv h4
   obtain ⟨x28,ds,rfl,h6⟩ := dI_inv h5
   obtain ⟨x29,ds,rfl,h7⟩ := dB_inv h6
   obtain ⟨x30,ds,rfl,h8⟩ := dL_inv h7
   obtain ⟨rfl,hE⟩ := dE_inv h8
   have e:fillS (down_S4) [.i x23,.b x24,.i x25,.i x26,.i x27,.i x28,.b x29,.l (K.int IntKind.i64) x30] = some (down_S1 x23 x24 x25 x26 x27 x28 x29 x30) := by kernel_rfl
   rw [e] at hS
   cases hS
   exact ⟨_,(down_l0_iter x23 x24 x27 x29 x30 Q _ x25 x26 x28).trans hE⟩
noncomputable def down_l0_lps {α:Type}:LookL α := addLp 102 down_P1 0 (lEnt (down_S4) down_l0_go) noLps
theorem down_l0_lps_ok {α:Type}:LoopsOk E.P (down_l0_lps (α := α)) := addLp_ok down_l0_ok (noLps_ok _)
noncomputable def M.down_l1_step {α:Type} (x38:Int) (x44:List Int) (kn:Int → Int → Int → Option α) (k1:Int → Int → Option α) (k2:Int → Int → Option α) (x40 x41 x42:Int):Option α := if cLe (0:Int) x42 = true then if (0:Int) ≤ x42 ∧ x42 < (8:Int) then if cEq (List.getD x44 (Int.toNat x42) (0:Int)) (0:Int) = true then if cEq x40 (0:Int) = true then if cEq x41 (0:Int) = true then kn x40 x41 (IntKind.wrap .i64 (x42 - (1:Int))) else M.down_l0 x38 x42 x44 (fun (x45 x46:Int) ↦ k1 x45 x46) (fun (x47 x48:Int) ↦ kn x47 x48 (IntKind.wrap .i64 (x42 - (1:Int)))) ((100:Nat) + List.length x44) x40 x41 (8388608:Int) else M.down_l0 x38 x42 x44 (fun (x49 x50:Int) ↦ k1 x49 x50) (fun (x51 x52:Int) ↦ kn x51 x52 (IntKind.wrap .i64 (x42 - (1:Int)))) ((100:Nat) + List.length x44) x40 x41 (8388608:Int) else M.down_l0 x38 x42 x44 (fun (x53 x54:Int) ↦ k1 x53 x54) (fun (x55 x56:Int) ↦ kn x55 x56 (IntKind.wrap .i64 (x42 - (1:Int)))) ((100:Nat) + List.length x44) x40 x41 (8388608:Int) else none else k2 x40 x41
noncomputable def M.down_l1 {α:Type} (x38:Int) (x44:List Int) (k1:Int → Int → Option α) (k2:Int → Int → Option α):Nat → Int → Int → Int → Option α
 | 0,_,_,_ => none
 | n + 1,x40,x41,x42 => M.down_l1_step x38 x44 (M.down_l1 x38 x44 k1 k2 n) k1 k2 x40 x41 x42
theorem down_l1_step_eq {α:Type} (x38:Int) (x39:Bool) (x40 x41 x42:Int) (x43:Bool) (x44:List Int) (Q:Ex → St → Option α):(loopStep E (exec E look_less down_l0_lps 400) 102 down_P2 0 (codeAt E.P 102 down_P2)) (down_S3 x38 x39 x40 x41 x42 x43 x44) Q = M.down_l1_step x38 x44 (fun (x61 x62 x63:Int) => Q .normal (down_S3 x38 x39 x61 x62 x63 x43 x44)) (fun (x57 x58:Int) => Q .ret (down_S5 x39 x57 x58)) (fun (x59 x60:Int) => Q (.exit 0) (St.mk (nn 6 (some (SV.bool x39) :: some (SV.int .i64 x59) :: some (SV.int .i64 x60) :: nn 68 ([])))
 [])) x40 x41 x42 := by kernel_rfl
theorem down_l1_iter {α:Type} (x38:Int) (x39 x43:Bool) (x44:List Int) (Q:Ex → St → Option α):∀ (n:Nat) (x40 x41 x42:Int),iter (loopStep E (exec E look_less down_l0_lps 400) 102 down_P2 0 (codeAt E.P 102 down_P2)) n (down_S3 x38 x39 x40 x41 x42 x43 x44) Q = M.down_l1 x38 x44 (fun (x57 x58:Int) => Q .ret (down_S5 x39 x57 x58)) (fun (x59 x60:Int) => Q (.exit 0) (St.mk (nn 6 (some (SV.bool x39) :: some (SV.int .i64 x59) :: some (SV.int .i64 x60) :: nn 68 ([])))
 [])) n x40 x41 x42
 | 0,_,_,_ => rfl
 | n + 1,x40,x41,x42 => (down_l1_step_eq x38 x39 x40 x41 x42 x43 x44 (iterK (loopStep E (exec E look_less down_l0_lps 400) 102 down_P2 0 (codeAt E.P 102 down_P2)) n Q)).trans (congrArg (fun kn => M.down_l1_step x38 x44 kn (fun (x57 x58:Int) => Q .ret (down_S5 x39 x57 x58)) (fun (x59 x60:Int) => Q (.exit 0) (St.mk (nn 6 (some (SV.bool x39) :: some (SV.int .i64 x59) :: some (SV.int .i64 x60) :: nn 68 ([])))
 [])) x40 x41 x42) (funext fun x40 => funext fun x41 => funext fun x42 => down_l1_iter x38 x39 x43 x44 Q n x40 x41 x42))
noncomputable def down_l1_go {α:Type} (ds:List D) (Q:Ex → St → Option α):Option α :=
 dI ds fun x38 ds => dB ds fun x39 ds => dI ds fun x40 ds => dI ds fun x41 ds => dI ds fun x42 ds => dB ds fun x43 ds => dL (K.int IntKind.i64) ds fun x44 ds => dE ds (M.down_l1 x38 x44 (fun (x57 x58:Int) => Q .ret (down_S5 x39 x57 x58)) (fun (x59 x60:Int) => Q (.exit 0) (St.mk (nn 6 (some (SV.bool x39) :: some (SV.int .i64 x59) :: some (SV.int .i64 x60) :: nn 68 ([])))
 [])) (100 + x44.length) x40 x41 x42)
theorem down_l1_ok {α:Type}:LoopOk E.P 102 down_P2 0 (lEnt (α := α) (down_S6) down_l1_go) :=
 lEnt_ok E (exec_sound E E_ok (look_less_ok) (down_l0_lps_ok) 400) fun ds Q r h S hS => by
   unfold down_l1_go at h
   obtain ⟨x38,ds,rfl,h1⟩ := dI_inv h
   obtain ⟨x39,ds,rfl,h2⟩ := dB_inv h1
   obtain ⟨x40,ds,rfl,h3⟩ := dI_inv h2
   obtain ⟨x41,ds,rfl,h4⟩ := dI_inv h3
   obtain ⟨x42,ds,rfl,h5⟩ := dI_inv h4
   obtain ⟨x43,ds,rfl,h6⟩ := dB_inv h5
   obtain ⟨x44,ds,rfl,h7⟩ := dL_inv h6
   obtain ⟨rfl,hE⟩ := dE_inv h7
   have e:fillS (down_S6) [.i x38,.b x39,.i x40,.i x41,.i x42,.b x43,.l (K.int IntKind.i64) x44] = some (down_S3 x38 x39 x40 x41 x42 x43 x44) := by kernel_rfl
   rw [e] at hS
   cases hS
   exact ⟨_,(down_l1_iter x38 x39 x43 x44 Q _ x40 x41 x42).trans hE⟩
noncomputable def down_l1_lps {α:Type}:LookL α := addLp 102 down_P2 0 (lEnt (down_S6) down_l1_go) down_l0_lps
theorem down_l1_lps_ok {α:Type}:LoopsOk E.P (down_l1_lps (α := α)) := addLp_ok down_l1_ok (down_l0_lps_ok)
noncomputable def M.down {α:Type} (neg:Bool) (d:List Int) (c:Int) (k0:Int → Bool → Option α):Option α := if cLt c (0:Int) = true then M.down_l1 (IntKind.wrap .i64 ((0:Int) - c)) d (fun (x64 x65:Int) ↦ k0 (0:Int) false) (fun (x66 x67:Int) ↦ if (!neg) = true then if cLt (0:Int) x67 = true then if cLt (4611686018427387903:Int) (IntKind.wrap .i64 (x66 + (1:Int))) = true then k0 (0:Int) false else if (!neg) = true then k0 (IntKind.wrap .i64 ((0:Int) - IntKind.wrap .i64 (x66 + (1:Int)))) true else k0 (IntKind.wrap .i64 (x66 + (1:Int))) true else if cLt (4611686018427387903:Int) x66 = true then k0 (0:Int) false else if (!neg) = true then k0 (IntKind.wrap .i64 ((0:Int) - x66)) true else k0 x66 true else if cLt (4611686018427387903:Int) x66 = true then k0 (0:Int) false else if (!neg) = true then k0 (IntKind.wrap .i64 ((0:Int) - x66)) true else k0 x66 true) ((100:Nat) + List.length d) (0:Int) (0:Int) (7:Int) else M.down_l1 c d (fun (x68 x69:Int) ↦ k0 (0:Int) false) (fun (x70 x71:Int) ↦ if neg = true then if cLt (0:Int) x71 = true then if cLt (4611686018427387903:Int) (IntKind.wrap .i64 (x70 + (1:Int))) = true then k0 (0:Int) false else if neg = true then k0 (IntKind.wrap .i64 ((0:Int) - IntKind.wrap .i64 (x70 + (1:Int)))) true else k0 (IntKind.wrap .i64 (x70 + (1:Int))) true else if cLt (4611686018427387903:Int) x70 = true then k0 (0:Int) false else if neg = true then k0 (IntKind.wrap .i64 ((0:Int) - x70)) true else k0 x70 true else if cLt (4611686018427387903:Int) x70 = true then k0 (0:Int) false else if neg = true then k0 (IntKind.wrap .i64 ((0:Int) - x70)) true else k0 x70 true) ((100:Nat) + List.length d) (0:Int) (0:Int) (7:Int)
theorem down_eq {α:Type} (neg:Bool) (d:List Int) (c:Int) (Q:SV → Hp → Option α):callI E look_less (exec E look_less down_l1_lps 400) 102 ([SV.agg [SV.bool neg,SV.arr (K.int IntKind.i64) d (nat_lit 8)],SV.int .i64 c]) ([]) Q = M.down neg d c (fun (x72:Int) (x73:Bool) => Q (SV.tup [SV.int .i64 x72,SV.bool x73]) ([])) := by kernel_rfl
def down_sp:List AS := [.val (.agg [.bool false,.arr (.int .i64) [] 8]),.val (.int .i64 0)]
def bitOf:Nat → Int
 | 0 => 0
 | k + 1 => 2 ^ k
theorem bitOf0:bitOf 0 = 0 := rfl
theorem bitOfS (k:Nat):bitOf (k + 1) = 2 ^ k := rfl
theorem bitOf_half (k:Nat):Int.tdiv (2 ^ k) 2 = bitOf k := by
 cases k with
 | zero => decide
 | succ k =>
   rw [bitOfS,Int.tdiv_eq_ediv_of_nonneg (Int.le_of_lt (Int.pow_pos (by decide))),Int.pow_succ]
   omega
theorem p2 (k:Nat):(0:Int) < 2 ^ k := Int.pow_pos (by decide)
theorem p2le {k n:Nat} (h:k ≤ n):(2:Int) ^ k ≤ 2 ^ n := by
 obtain ⟨m,rfl⟩ := Nat.le.dest h
 rw [Int.pow_add]
 have := Int.mul_le_mul_of_nonneg_left (show (1:Int) ≤ 2 ^ m by have := p2 m; omega) (Int.le_of_lt (p2 k))
 omega
theorem p23:(2:Int) ^ 23 = 8388608 := by kernel_rfl
theorem down_l0_val {α:Type} (cc:Int) (j:Nat) (d:List Int) (hd:okD d = true) (hj:j < 8) (hc0:0 < cc) (hc1:cc ≤ 4611686018427387903) (k0 k2:Int → Int → Option α):∀ (m fuel:Nat) (T:Int),m ≤ 24 → m < fuel → 0 ≤ T → T / cc < 4611686018427387904 →
   (∃ q r,M.down_l0 cc (j:Int) d k0 k2 fuel (T / cc) (T % cc) (bitOf m) = k0 q r ∧ 4611686018427387904 ≤ (T * 2 ^ m + d.getD j 0 % 2 ^ m) / cc) ∨
   (M.down_l0 cc (j:Int) d k0 k2 fuel (T / cc) (T % cc) (bitOf m) = k2 ((T * 2 ^ m + d.getD j 0 % 2 ^ m) / cc) ((T * 2 ^ m + d.getD j 0 % 2 ^ m) % cc) ∧ (T * 2 ^ m + d.getD j 0 % 2 ^ m) / cc < 4611686018427387904)
 | 0,fuel,T,h1,h2,hT,hq => by
   obtain ⟨f,rfl⟩:∃ f,fuel = f + 1 := ⟨fuel - 1,by omega⟩
   right
   unfold M.down_l0 M.down_l0_step
   simp only [bitOf0,cLt_eq,Int.lt_irrefl,decide_false,Bool.false_eq_true,if_false,Int.pow_zero,Int.emod_one,Int.mul_one,Int.add_zero,true_and]
   exact hq
 | m + 1,fuel,T,h1,h2,hT,hq => by
   obtain ⟨f,rfl⟩:∃ f,fuel = f + 1 := ⟨fuel - 1,by omega⟩
   have da := okD_get hd j
   have hp := p2 m
   have hp24:(2:Int) ^ m ≤ 8388608 := Int.le_trans (p2le (show m ≤ 23 by omega)) (Int.le_of_eq p23)
   have hps:(2:Int) ^ (m + 1) = 2 * 2 ^ m := by rw [Int.pow_succ]; omega
   have hq0:0 ≤ T / cc := Int.ediv_nonneg hT (by omega)
   have hr0:0 ≤ T % cc := Int.emod_nonneg T (by omega)
   have hr1:T % cc < cc := Int.emod_lt_of_pos T hc0
   have hTe:T / cc * cc + T % cc = T := Int.ediv_mul_add_emod T cc
   generalize ha:d.getD j 0 = a at *
   -- the bit
   have hb0:0 ≤ a / 2 ^ m := Int.ediv_nonneg da.1 (by omega)
   have hble:a / 2 ^ m ≤ a := Int.ediv_le_self _ da.1
   have hbit:a % 2 ^ (m + 1) = a / 2 ^ m % 2 * 2 ^ m + a % 2 ^ m := by
     have e1:a / 2 ^ m * 2 ^ m + a % 2 ^ m = a := Int.ediv_mul_add_emod a _
     have e2:2 * (a / 2 ^ m / 2) + a / 2 ^ m % 2 = a / 2 ^ m := Int.mul_ediv_add_emod _ 2
     have hm0:0 ≤ a % 2 ^ m := Int.emod_nonneg a (by omega)
     have hm1:a % 2 ^ m < 2 ^ m := Int.emod_lt_of_pos a hp
     have e3:a = (a / 2 ^ m % 2 * 2 ^ m + a % 2 ^ m) + 2 ^ (m + 1) * (a / 2 ^ m / 2) := by
       rw [hps]; grind
     have e4:a / 2 ^ m % 2 = 0 ∨ a / 2 ^ m % 2 = 1 := by omega
     conv => lhs; rw [e3]
     rw [Int.add_mul_emod_self_left]
     apply Int.emod_eq_of_lt
     · rcases e4 with h | h <;> rw [h] <;> omega
     · rw [hps]; rcases e4 with h | h <;> rw [h] <;> omega
   generalize hβ:a / 2 ^ m % 2 = β at *
   have hβ':β = 0 ∨ β = 1 := by omega
   -- what comes next
   have hnext:T * 2 ^ (m + 1) + a % 2 ^ (m + 1) = (2 * T + β) * 2 ^ m + a % 2 ^ m := by rw [hbit,hps]; grind
   have hm0:0 ≤ a % 2 ^ m := Int.emod_nonneg a (by omega)
   rw [hnext]
   have hexit:2305843009213693951 < T / cc → 4611686018427387904 ≤ ((2 * T + β) * 2 ^ m + a % 2 ^ m) / cc := by
     intro h
     apply Int.le_ediv_of_mul_le hc0
     have g1:2305843009213693952 * cc ≤ T / cc * cc := Int.mul_le_mul_of_nonneg_right (by omega) (by omega)
     have g2:(2 * T + β) * 1 ≤ (2 * T + β) * 2 ^ m := Int.mul_le_mul_of_nonneg_left (by omega) (by omega)
     omega
   have hstep:T / cc ≤ 2305843009213693951 → (2 * T + β) / cc = (if cc ≤ 2 * (T % cc) + β then 2 * (T / cc) + 1 else 2 * (T / cc)) ∧ (2 * T + β) % cc = (if cc ≤ 2 * (T % cc) + β then 2 * (T % cc) + β - cc else 2 * (T % cc) + β) := by
     intro h
     split
     · have e : 2 * T + β = (2 * (T % cc) + β - cc) + cc * (2 * (T / cc) + 1) := by
         have:cc * (2 * (T / cc) + 1) = 2 * (T / cc * cc) + cc := by grind
         omega
       constructor
       · rw [e,Int.add_mul_ediv_left _ _ (by omega),Int.ediv_eq_zero_of_lt (by omega) (by omega)]; omega
       · rw [e,Int.add_mul_emod_self_left]; exact Int.emod_eq_of_lt (by omega) (by omega)
     · have e : 2 * T + β = (2 * (T % cc) + β) + cc * (2 * (T / cc)) := by
         have:cc * (2 * (T / cc)) = 2 * (T / cc * cc) := by grind
         omega
       constructor
       · rw [e,Int.add_mul_ediv_left _ _ (by omega),Int.ediv_eq_zero_of_lt (by omega) (by omega)]; omega
       · rw [e,Int.add_mul_emod_self_left]; exact Int.emod_eq_of_lt (by omega) (by omega)
   have ih := down_l0_val cc j d hd hj hc0 hc1 k0 k2 m f (2 * T + β) (by omega) (by omega) (by omega)
   rw [ha] at ih
   conv => enter [1,1,q,1,r]; lhs; unfold M.down_l0 M.down_l0_step
   conv => enter [2]; lhs; lhs; unfold M.down_l0 M.down_l0_step
   have hj0:(0:Int) ≤ (j:Int) ∧ (j:Int) < 8 := by omega
   have hbit0:¬ (2:Int) ^ m = 0 := by omega
   have hdig:Int.tmod (IntKind.wrap IntKind.i64 (Int.tdiv a (2 ^ m))) 2 = β := by
     rw [Int.tdiv_eq_ediv_of_nonneg da.1,IntWalk.i64_in _ (by omega),Int.tmod_eq_emod_of_nonneg hb0]; exact hβ
   have w2:IntKind.wrap .i64 (2 * (T % cc)) = 2 * (T % cc) := IntWalk.i64_in _ (by omega)
   have w3:IntKind.wrap .i64 (2 * (T % cc) + 1) = 2 * (T % cc) + 1 := IntWalk.i64_in _ (by omega)
   have w4:IntKind.wrap .i64 (Int.tdiv (2 ^ m) 2) = bitOf m := by
     rw [bitOf_half]
     apply IntWalk.i64_in
     cases m with
     | zero => rw [bitOf0]; omega
     | succ k => rw [bitOfS]; have g1 := p2 k; have g2:(2:Int) ^ k ≤ 8388608 := Int.le_trans (p2le (show k ≤ 23 by omega)) (Int.le_of_eq p23); omega
   simp only [bitOfS,cLt_eq,cLe_eq,cEq_eq,hp,hj0,hbit0,Int.toNat_natCast,ha,hdig,w2,w3,w4,decide_true,if_true,if_false,and_self]
   by_cases hbig:2305843009213693951 < T / cc
   · left
     rcases hβ' with h | h
     · exact ⟨T / cc,2 * (T % cc),by simp [h,hbig],hexit hbig⟩
     · exact ⟨T / cc,2 * (T % cc) + 1,by simp [h,hbig],hexit hbig⟩
   · obtain ⟨s1, s2⟩ := hstep (by omega)
     have w5:IntKind.wrap .i64 (2 * (T / cc)) = 2 * (T / cc) := IntWalk.i64_in _ (by omega)
     have w6:IntKind.wrap .i64 (2 * (T / cc) + 1) = 2 * (T / cc) + 1 := IntWalk.i64_in _ (by omega)
     have hq':(2 * T + β) / cc < 4611686018427387904 := by rw [s1]; split <;> omega
     have ih := ih hq'
     rw [s1,s2] at ih
     simp only [hbig,decide_false,Bool.false_eq_true,if_false,w5,w6]
     rcases hβ' with h | h
     · subst h
       simp only [Int.add_zero] at ih ⊢
       have e:((0:Int) == 1) = false := by decide
       simp only [e,Bool.false_eq_true,if_false]
       by_cases hge:cc ≤ 2 * (T % cc)
       · have w7 : IntKind.wrap .i64 (2 * (T % cc) - cc) = 2 * (T % cc) - cc := IntWalk.i64_in _ (by omega)
         simp only [hge,decide_true,if_true,w7] at ih ⊢
         exact ih
       · simp only [hge, decide_false, Bool.false_eq_true, if_false] at ih ⊢
         exact ih
     · subst h
       simp only [beq_self_eq_true,if_true]
       by_cases hge:cc ≤ 2 * (T % cc) + 1
       · have w7 : IntKind.wrap .i64 (2 * (T % cc) + 1 - cc) = 2 * (T % cc) + 1 - cc := IntWalk.i64_in _ (by omega)
         simp only [hge,decide_true,if_true,w7] at ih ⊢
         exact ih
       · simp only [hge, decide_false, Bool.false_eq_true, if_false] at ih ⊢
         exact ih
theorem p24:(2:Int) ^ 24 = 16777216 := by kernel_rfl
theorem val_drop_le {D:List Int} (h:okD D = true) (m:Nat):val (D.drop m) ≤ val D := by
 have e := val_append (D.take m) (D.drop m)
 rw [List.take_append_drop] at e
 have h1 := val_bound (okD_take h m)
 have h2 := val_bound (okD_drop h m)
 have := Int.mul_le_mul_of_nonneg_right (show (1:Int) ≤ 16777216 ^ (D.take m).length by have := pB (D.take m).length; omega) h2.1
 omega
theorem down_l1_val {α:Type} (cc:Int) (d:List Int) (hd:okD d = true) (ld:d.length = 8) (hc0:0 < cc) (hc1:cc ≤ 4611686018427387903) (k1 k2:Int → Int → Option α):∀ (m fuel:Nat),m ≤ 8 → m < fuel → val (d.drop m) / cc < 4611686018427387904 →
   (∃ q r,M.down_l1 cc d k1 k2 fuel (val (d.drop m) / cc) (val (d.drop m) % cc) ((m:Int) - 1) = k1 q r ∧ 4611686018427387904 ≤ val d / cc) ∨
   (M.down_l1 cc d k1 k2 fuel (val (d.drop m) / cc) (val (d.drop m) % cc) ((m:Int) - 1) = k2 (val d / cc) (val d % cc) ∧ val d / cc < 4611686018427387904)
 | 0,fuel,h1,h2,hq => by
   obtain ⟨f,rfl⟩:∃ f,fuel = f + 1 := ⟨fuel - 1,by omega⟩
   right
   unfold M.down_l1 M.down_l1_step
   have e:¬ (0:Int) ≤ ((0:Nat):Int) - 1 := by omega
   rw [List.drop_zero] at hq ⊢
   simp only [cLe_eq,e,decide_false,Bool.false_eq_true,if_false,true_and]
   exact hq
 | m + 1,fuel,h1,h2,hq => by
   obtain ⟨f,rfl⟩:∃ f,fuel = f + 1 := ⟨fuel - 1,by omega⟩
   have e0:(((m + 1:Nat):Int) - 1) = (m:Int) := by omega
   rw [e0]
   have dm := okD_get hd m
   have hT0 := (val_bound (okD_drop hd (m + 1))).1
   have hT'0 := (val_bound (okD_drop hd m)).1
   have hT':val (d.drop m) = val (d.drop (m + 1)) * 2 ^ 24 + d.getD m 0 % 2 ^ 24 := by
     rw [drop_getD (by omega:m < d.length),val,p24]; omega
   have hTe:val (d.drop (m + 1)) / cc * cc + val (d.drop (m + 1)) % cc = val (d.drop (m + 1)) := Int.ediv_mul_add_emod _ cc
   have ih := down_l1_val cc d hd ld hc0 hc1 k1 k2 m f (by omega) (by omega)
   have hle:val (d.drop m) / cc ≤ val d / cc := Int.ediv_le_ediv hc0 (val_drop_le hd m)
   have w1:IntKind.wrap .i64 ((m:Int) - 1) = (m:Int) - 1 := IntWalk.i64_in _ (by omega)
   -- the digit's bits
   have hR:(∃ q r,M.down_l0 cc (m:Int) d (fun x y => k1 x y) (fun x y => M.down_l1 cc d k1 k2 f x y ((m:Int) - 1)) (100 + d.length) (val (d.drop (m + 1)) / cc) (val (d.drop (m + 1)) % cc) 8388608 = k1 q r ∧ 4611686018427387904 ≤ val d / cc) ∨
       (M.down_l0 cc (m:Int) d (fun x y => k1 x y) (fun x y => M.down_l1 cc d k1 k2 f x y ((m:Int) - 1)) (100 + d.length) (val (d.drop (m + 1)) / cc) (val (d.drop (m + 1)) % cc) 8388608 = k2 (val d / cc) (val d % cc) ∧ val d / cc < 4611686018427387904) := by
     have hb:(8388608:Int) = bitOf 24 := p23.symm
     rw [hb]
     rcases down_l0_val cc m d hd (by omega) hc0 hc1 (fun x y => k1 x y) (fun x y => M.down_l1 cc d k1 k2 f x y ((m:Int) - 1)) 24 (100 + d.length) (val (d.drop (m + 1))) (by omega) (by omega) hT0 hq with ⟨q,r,g1,g2⟩ | ⟨g1,g2⟩
     · rw [← hT'] at g2
       exact .inl ⟨q,r,g1,by omega⟩
     · rw [← hT'] at g1 g2
       rw [g1]
       exact ih g2
   conv => enter [1,1,q,1,r]; lhs; unfold M.down_l1 M.down_l1_step
   conv => enter [2]; lhs; lhs; unfold M.down_l1 M.down_l1_step
   have c1:(0:Int) ≤ (m:Int) := by omega
   have c2:(m:Int) < 8 := by omega
   simp only [cLe_eq,cEq_eq,c1,c2,decide_true,if_true,and_self,Int.toNat_natCast,w1]
   by_cases z1:d.getD m 0 = 0
   · by_cases z2 : val (d.drop (m + 1)) / cc = 0
     · by_cases z3 : val (d.drop (m + 1)) % cc = 0
       · have hz : val (d.drop m) = 0 := by
           rw [z2,z3] at hTe
           rw [hT',z1,← hTe]; simp
         rw [hz] at ih
         have := ih (by rw [Int.zero_ediv]; omega)
         rw [Int.zero_ediv,Int.zero_emod] at this
         simp only [z1,z2,z3,beq_self_eq_true,if_true]
         exact this
       · have f3 : (val (d.drop (m + 1)) % cc == 0) = false := by simpa using z3
         rw [z2] at hR
         simp only [z1,z2,f3,beq_self_eq_true,if_true,Bool.false_eq_true,if_false]
         exact hR
     · have f2 : (val (d.drop (m + 1)) / cc == 0) = false := by simpa using z2
       simp only [z1,f2,beq_self_eq_true,if_true,Bool.false_eq_true,if_false]
       exact hR
   · have : (d.getD m 0 == 0) = false := by simpa using z1
     simp only [this,Bool.false_eq_true,if_false]
     exact hR
def _root_.Go.Proofs.YtfkgmidgdpfnkaaGreat.V.sm (o:Option Int):Bool := o.isSome
noncomputable def _root_.Go.Proofs.YtfkgmidgdpfnkaaGreat.V.dn (n:Bool) (d:List Int) (c:Int):Option Int := V.tl (Int.fdiv (wv n d) c)
theorem down_fin {α:Type} (N:Bool) (X cc:Int) (hX:0 ≤ X) (hc0:0 < cc) (hq:X / cc < 4611686018427387904) (k0:Int → Bool → Option α) :
   (if N = true then
       if cLt (0:Int) (X % cc) = true then
         if cLt (4611686018427387903:Int) (IntKind.wrap IntKind.i64 (X / cc + (1:Int))) = true then k0 (0:Int) false
         else
           if N = true then k0 (IntKind.wrap IntKind.i64 ((0:Int) - IntKind.wrap IntKind.i64 (X / cc + (1:Int)))) true
           else k0 (IntKind.wrap IntKind.i64 (X / cc + (1:Int))) true
       else
         if cLt (4611686018427387903:Int) (X / cc) = true then k0 (0:Int) false else if N = true then k0 (IntKind.wrap IntKind.i64 ((0:Int) - X / cc)) true else k0 (X / cc) true
     else
       if cLt (4611686018427387903:Int) (X / cc) = true then k0 (0:Int) false else if N = true then k0 (IntKind.wrap IntKind.i64 ((0:Int) - X / cc)) true else k0 (X / cc) true) =
     k0 (V.gv (V.tl ((if N then -X else X) / cc))) (V.sm (V.tl ((if N then -X else X) / cc))) := by
 have hq0:0 ≤ X / cc := Int.ediv_nonneg hX (by omega)
 have hm0:0 ≤ X % cc := Int.emod_nonneg X (by omega)
 have hm1:X % cc < cc := Int.emod_lt_of_pos X hc0
 have hd:X / cc * cc + X % cc = X := Int.ediv_mul_add_emod X cc
 have hneg:(-X) / cc = if 0 < X % cc then -(X / cc) - 1 else -(X / cc) := by
   split
   · rename_i h
     apply Int.ediv_eq_iff_of_pos hc0 |>.2
     have e:(-(X / cc) - 1) * cc = -(X / cc * cc) - cc := by grind
     constructor <;> grind
   · rename_i h
     have e:X = cc * (X / cc) := by rw [Int.mul_comm]; omega
     have:-X = cc * (-(X / cc)) := by rw [Int.mul_neg,← e]
     rw [this,Int.mul_ediv_cancel_left _ (by omega)]
 simp only [cLt_eq]
 unfold V.tl V.gv V.sm
 cases N with
 | false =>
   simp only [Bool.false_eq_true,if_false]
   have h1:¬ 4611686018427387903 < X / cc := by omega
   have h2:isG (X / cc) = false := by rw [isG_false]; omega
   simp [h1,h2]
 | true =>
   simp only [if_true]
   rw [hneg]
   by_cases c0:0 < X % cc
   · simp only [c0, decide_true, if_true]
     rw [IntWalk.i64_in (X / cc + 1) (by omega)]
     by_cases c1:4611686018427387903 < X / cc + 1
     · have h2 : isG (-(X / cc) - 1) = true := by rw [isG_iff]; omega
       simp [c1,h2]
     · have h2 : isG (-(X / cc) - 1) = false := by rw [isG_false]; omega
       rw [IntWalk.i64_in (0 - (X / cc + 1)) (by omega)]
       simp only [c1,h2,decide_false,Bool.false_eq_true,if_false,Option.getD_some,Option.isSome_some]
       rw [show (0:Int) - (X / cc + 1) = -(X / cc) - 1 by omega]
   · simp only [c0, decide_false, Bool.false_eq_true, if_false]
     have h1:¬ 4611686018427387903 < X / cc := by omega
     have h2:isG (-(X / cc)) = false := by rw [isG_false]; omega
     rw [IntWalk.i64_in (0 - X / cc) (by omega)]
     simp only [h1,h2,decide_false,Bool.false_eq_true,if_false,Option.getD_some,Option.isSome_some]
     rw [show (0:Int) - X / cc = -(X / cc) by omega]
theorem down_main {α:Type} (N:Bool) (cc:Int) (d:List Int) (hd:V.ok8 d = true) (hc0:0 < cc) (hc1:cc ≤ 4611686018427387903) (k0:Int → Bool → Option α) (k2:Int → Int → Option α)
   (hk:∀ X,0 ≤ X → X / cc < 4611686018427387904 → k2 (X / cc) (X % cc) = k0 (V.gv (V.tl ((if N then -X else X) / cc))) (V.sm (V.tl ((if N then -X else X) / cc)))) :
   M.down_l1 cc d (fun _ _ => k0 0 false) k2 (100 + d.length) 0 0 7 = k0 (V.gv (V.tl (wv N d / cc))) (V.sm (V.tl (wv N d / cc))) := by
 rw [ok8_iff] at hd
 have v := val_bound hd.2
 have e8:d.drop 8 = [] := List.drop_of_length_le (by omega)
 have h := down_l1_val cc d hd.2 hd.1 hc0 hc1 (fun _ _ => k0 0 false) k2 8 (100 + d.length) (by omega) (by omega) (by rw [e8,val,Int.zero_ediv]; omega)
 rw [e8,val,Int.zero_ediv,Int.zero_emod,show (((8:Nat):Int) - 1) = 7 by rfl] at h
 rcases h with ⟨_,_,g1,g2⟩ | ⟨g1,g2⟩
 · rw [g1]
   have hg:isG (wv N d / cc) = true := by
     rw [isG_iff]
     unfold wv
     cases N with
     | false => simp only [Bool.false_eq_true,if_false]; omega
     | true =>
       simp only [if_true]
       left
       have:(-val d) / cc ≤ -(val d / cc) := by
         have h1:(-val d) / cc * cc + (-val d) % cc = -val d := Int.ediv_mul_add_emod _ cc
         have h2:val d / cc * cc + val d % cc = val d := Int.ediv_mul_add_emod _ cc
         have h3:0 ≤ (-val d) % cc := Int.emod_nonneg _ (by omega)
         have h4:0 ≤ val d % cc := Int.emod_nonneg _ (by omega)
         by_cases hlt:(-val d) / cc ≤ -(val d / cc)
         · exact hlt
         · have : (-(val d / cc) + 1) * cc ≤ (-val d) / cc * cc := Int.mul_le_mul_of_nonneg_right (by omega) (by omega)
           have e:(-(val d / cc) + 1) * cc = -(val d / cc * cc) + cc := by grind
           omega
       omega
   unfold V.tl V.gv V.sm
   simp [hg]
 · rw [g1, hk _ v.1 g2]
   rfl
theorem down_v {α:Type} (n:Bool) (d:List Int) (c:Int) (hd:V.ok8 d = true) (h0:c ≠ 0) (hc:-4611686018427387903 ≤ c ∧ c ≤ 4611686018427387903) (k0:Int → Bool → Option α):M.down n d c k0 = k0 (V.gv (V.dn n d c)) (V.sm (V.dn n d c)) := by
 unfold M.down V.dn
 rw [cLt_eq]
 by_cases hn:c < 0
 · simp only [hn, decide_true, if_true]
   rw [IntWalk.i64_in (0 - c) (by omega)]
   have hf:Int.fdiv (wv n d) c = wv (!n) d / (0 - c) := by
     rw [← Int.neg_fdiv_neg,fdiv_pos _ _ (by omega),Int.zero_sub]
     unfold wv; cases n <;> simp
   rw [hf]
   exact down_main (!n) (0 - c) d hd (by omega) (by omega) k0 _ (fun X hX hq => down_fin (!n) X (0 - c) hX (by omega) hq k0)
 · simp only [hn, decide_false, Bool.false_eq_true, if_false]
   rw [fdiv_pos _ _ (by omega)]
   exact down_main n c d hd (by omega) (by omega) k0 _ (fun X hX hq => down_fin n X c hX (by omega) hq k0)
noncomputable def down_h {α:Type} (ds:List D) (Q:SV → Hp → Option α):Option α :=
 dB ds fun neg ds => dL (K.int IntKind.i64) ds fun d ds => dI ds fun c ds => dE ds (if V.ok8 d = true ∧ c ≠ 0 ∧ -4611686018427387903 ≤ c ∧ c ≤ 4611686018427387903 then Q (.tup [.int .i64 (V.gv (V.dn neg d c)),.bool (V.sm (V.dn neg d c))]) ([]) else none)
theorem down_h_ok {α:Type}:FnOk E.P 102 (fEnt (α := α) down_sp down_h) :=
 fEnt_ok E (look_less_ok) (exec_sound E E_ok (look_less_ok) (down_l1_lps_ok) 400) fun ds Q r h => by
   unfold down_h at h
   obtain ⟨neg,ds,rfl,h1⟩ := dB_inv h
   obtain ⟨d,ds,rfl,h2⟩ := dL_inv h1
   obtain ⟨c,ds,rfl,h3⟩ := dI_inv h2
   obtain ⟨rfl,hE⟩ := dE_inv h3
   split at hE
   · rename_i hg
     exact ⟨[SV.agg [SV.bool neg,SV.arr (K.int IntKind.i64) d (nat_lit 8)],SV.int .i64 c],[],fun vs => by kernel_rfl,(down_eq neg d c Q).trans ((down_v neg d c hg.1 hg.2.1 hg.2.2 _).trans hE)⟩
   · cases hE
noncomputable def look_down {α:Type}:LookF α := addFn 102 (fEnt down_sp down_h) look_less
theorem look_down_ok {α:Type}:LookOk E.P (look_down (α := α)) := addFn_ok down_h_ok (look_less_ok)
end
section
open Go
set_option maxRecDepth 20000
theorem anyG_cons' (x:Int) (l:List Int):V.anyG (x :: l) = (isG x || V.anyG l) := by simp [V.anyG]
noncomputable abbrev rootOf_S1 (y1 y2:Int) (y3:Bool) (y4:List Int):St := St.mk (none :: some (SV.ptr (nat_lit 0) (nat_lit 0)) :: nn 4 (some (SV.int .i64 y1) :: some (SV.int .i64 y2) :: nn 29 ([]))) [.cells [SV.bool y3,SV.arr (K.int IntKind.i64) y4 (nat_lit 8)] (nat_lit 138)]
noncomputable abbrev rootOf_S2:St := St.mk (none :: some (SV.ptr (nat_lit 0) (nat_lit 0)) :: nn 4 (some (SV.int .i64 (0:Int)) :: some (SV.int .i64 (0:Int)) :: nn 29 ([]))) [.cells [SV.bool false,SV.arr (K.int IntKind.i64) [] (nat_lit 8)] (nat_lit 138)]
abbrev rootOf_P1:List Bool := [false,true,false,true,true,true,true,true]
noncomputable def M.rootOf_l0_step {α:Type} (x6:Bool) (x7:List Int) (kn:Int → Int → Option α) (k1:Int → Option α) (x4 x5:Int):Option α := if cLt (0:Int) x5 = true then if (-9223372036854775808:Int) ≤ IntKind.wrap .i64 (x4 + x5) ∧ IntKind.wrap .i64 (x4 + x5) < (9223372036854775808:Int) then if V.ok8 (V.ofN (IntKind.wrap .i64 (x4 + x5))) = true ∧ V.ok8 (V.ofN (IntKind.wrap .i64 (x4 + x5))) = true then if V.two x7 (V.tmD (V.ofN (IntKind.wrap .i64 (x4 + x5))) (V.ofN (IntKind.wrap .i64 (x4 + x5)))) = true then if (!V.ls x6 x7 (V.tmN (decide (IntKind.wrap .i64 (x4 + x5) < (0:Int))) (decide (IntKind.wrap .i64 (x4 + x5) < (0:Int)))) (V.tmD (V.ofN (IntKind.wrap .i64 (x4 + x5))) (V.ofN (IntKind.wrap .i64 (x4 + x5))))) = true then kn (IntKind.wrap .i64 (x4 + x5)) (IntKind.wrap .i64 (Int.tdiv x5 (2:Int))) else kn x4 (IntKind.wrap .i64 (Int.tdiv x5 (2:Int))) else none else none else none else k1 x4
noncomputable def M.rootOf_l0 {α:Type} (x6:Bool) (x7:List Int) (k1:Int → Option α):Nat → Int → Int → Option α
 | 0,_,_ => none
 | n + 1,x4,x5 => M.rootOf_l0_step x6 x7 (M.rootOf_l0 x6 x7 k1 n) k1 x4 x5
theorem rootOf_l0_step_eq {α:Type} (x4 x5:Int) (x6:Bool) (x7:List Int) (Q:Ex → St → Option α):(loopStep E (exec E look_down noLps 400) 129 rootOf_P1 0 (codeAt E.P 129 rootOf_P1)) (rootOf_S1 x4 x5 x6 x7) Q = M.rootOf_l0_step x6 x7 (fun (x9 x10:Int) => Q .normal (rootOf_S1 x9 x10 x6 x7)) (fun (x8:Int) => Q (.exit 0) (St.mk (nn 6 (some (SV.int .i64 x8) :: nn 30 ([]))) [])) x4 x5 := by kernel_rfl
theorem rootOf_l0_iter {α:Type} (x6:Bool) (x7:List Int) (Q:Ex → St → Option α):∀ (n:Nat) (x4 x5:Int),iter (loopStep E (exec E look_down noLps 400) 129 rootOf_P1 0 (codeAt E.P 129 rootOf_P1)) n (rootOf_S1 x4 x5 x6 x7) Q = M.rootOf_l0 x6 x7 (fun (x8:Int) => Q (.exit 0) (St.mk (nn 6 (some (SV.int .i64 x8) :: nn 30 ([]))) [])) n x4 x5
 | 0,_,_ => rfl
 | n + 1,x4,x5 => (rootOf_l0_step_eq x4 x5 x6 x7 (iterK (loopStep E (exec E look_down noLps 400) 129 rootOf_P1 0 (codeAt E.P 129 rootOf_P1)) n Q)).trans (congrArg (fun kn => M.rootOf_l0_step x6 x7 kn (fun (x8:Int) => Q (.exit 0) (St.mk (nn 6 (some (SV.int .i64 x8) :: nn 30 ([]))) [])) x4 x5) (funext fun x4 => funext fun x5 => rootOf_l0_iter x6 x7 Q n x4 x5))
noncomputable def rootOf_l0_go {α:Type} (ds:List D) (Q:Ex → St → Option α):Option α :=
 dI ds fun x4 ds => dI ds fun x5 ds => dB ds fun x6 ds => dL (K.int IntKind.i64) ds fun x7 ds => dE ds (M.rootOf_l0 x6 x7 (fun (x8:Int) => Q (.exit 0) (St.mk (nn 6 (some (SV.int .i64 x8) :: nn 30 ([]))) [])) (100 + x7.length) x4 x5)
theorem rootOf_l0_ok {α:Type}:LoopOk E.P 129 rootOf_P1 0 (lEnt (α := α) (rootOf_S2) rootOf_l0_go) :=
 lEnt_ok E (exec_sound E E_ok (look_down_ok) (noLps_ok _) 400) fun ds Q r h S hS => by
   unfold rootOf_l0_go at h
   obtain ⟨x4,ds,rfl,h1⟩ := dI_inv h
   obtain ⟨x5,ds,rfl,h2⟩ := dI_inv h1
   obtain ⟨x6,ds,rfl,h3⟩ := dB_inv h2
   obtain ⟨x7,ds,rfl,h4⟩ := dL_inv h3
   obtain ⟨rfl,hE⟩ := dE_inv h4
   have e:fillS (rootOf_S2) [.i x4,.i x5,.b x6,.l (K.int IntKind.i64) x7] = some (rootOf_S1 x4 x5 x6 x7) := by kernel_rfl
   rw [e] at hS
   cases hS
   exact ⟨_,(rootOf_l0_iter x6 x7 Q _ x4 x5).trans hE⟩
noncomputable def rootOf_l0_lps {α:Type}:LookL α := addLp 129 rootOf_P1 0 (lEnt (rootOf_S2) rootOf_l0_go) noLps
theorem rootOf_l0_lps_ok {α:Type}:LoopsOk E.P (rootOf_l0_lps (α := α)) := addLp_ok rootOf_l0_ok (noLps_ok _)
noncomputable def M.rootOf {α:Type} (neg:Bool) (d:List Int) (k0:Int → Bool → Option α):Option α := if V.ok8 (V.ofN (4611686018427387904:Int)) = true ∧ V.ok8 (V.ofN (4611686018427387904:Int)) = true then if V.two d (V.tmD (V.ofN (4611686018427387904:Int)) (V.ofN (4611686018427387904:Int))) = true then if (!V.ls neg d (V.tmN (decide ((4611686018427387904:Int) < (0:Int))) (decide ((4611686018427387904:Int) < (0:Int)))) (V.tmD (V.ofN (4611686018427387904:Int)) (V.ofN (4611686018427387904:Int)))) = true then k0 (0:Int) false else M.rootOf_l0 neg d (fun (x11:Int) ↦ k0 x11 true) ((100:Nat) + List.length d) (0:Int) (2305843009213693952:Int) else none else none
theorem rootOf_eq {α:Type} (neg:Bool) (d:List Int) (Q:SV → Hp → Option α):callI E look_down (exec E look_down rootOf_l0_lps 400) 129 ([SV.agg [SV.bool neg,SV.arr (K.int IntKind.i64) d (nat_lit 8)]]) ([]) Q = M.rootOf neg d (fun (x12:Int) (x13:Bool) => Q (SV.tup [SV.int .i64 x12,SV.bool x13]) ([])) := by kernel_rfl
def rootOf_sp:List AS := [.val (.agg [.bool false,.arr (.int .i64) [] 8])]
theorem ofN_prod {x y:Int} (hx:isG x = false) (hy:isG y = false):val (V.ofN x) * val (V.ofN y) ≤ 21267647932558653966460912964485513216 ∧ V.ok8 (V.tmD (V.ofN x) (V.ofN y)) = true ∧ val (V.tmD (V.ofN x) (V.ofN y)) ≤ 21267647932558653966460912964485513216 ∧
   wv (V.tmN (decide (x < 0)) (decide (y < 0))) (V.tmD (V.ofN x) (V.ofN y)) = x * y := by
 rw [isG_false] at hx hy
 have ex := ofN_val (n := x) (by omega)
 have ey := ofN_val (n := y) (by omega)
 have bx:0 ≤ val (V.ofN x) ∧ val (V.ofN x) ≤ 4611686018427387903 := by rw [ex]; split <;> omega
 have bY:0 ≤ val (V.ofN y) ∧ val (V.ofN y) ≤ 4611686018427387903 := by rw [ey]; split <;> omega
 have hp:val (V.ofN x) * val (V.ofN y) ≤ 4611686018427387903 * 4611686018427387903 := Int.mul_le_mul bx.2 bY.2 bY.1 (by omega)
 have ok := tmD_ok (ofN_ok x) (ofN_ok y)
 have hv := tmD_val (ofN_ok x) (ofN_ok y) (by omega)
 refine ⟨by omega,ok,by rw [hv]; omega,?_⟩
 rw [tm_val _ _ (ofN_ok x) (ofN_ok y) (by omega)]
 unfold wv
 rw [ex,ey]
 by_cases h1:x < 0 <;> by_cases h2:y < 0 <;> simp [h1,h2]
theorem sq_ls {d:List Int} {t:Int} (hd:V.ok8 d = true) (h0:0 ≤ t) (h1:t ≤ 4611686018427387904) (hs:val d < 1569275433846670190958947355801916604025588861116008628224) :
   V.two d (V.tmD (V.ofN t) (V.ofN t)) = true ∧ V.ls false d (V.tmN (decide (t < 0)) (decide (t < 0))) (V.tmD (V.ofN t) (V.ofN t)) = decide (val d < t * t) := by
 have ex := ofN_val (n := t) (by omega)
 rw [if_neg (by omega)] at ex
 have hp:t * t ≤ 4611686018427387904 * 4611686018427387904 := Int.mul_le_mul h1 h1 h0 (by omega)
 have ok := tmD_ok (ofN_ok t) (ofN_ok t)
 have hv := tmD_val (ofN_ok t) (ofN_ok t) (by rw [ex]; omega)
 rw [ex] at hv
 have hn:¬ t < 0 := by omega
 refine ⟨?_,?_⟩
 · unfold V.two
   rw [hd,ok,hv]
   simp only [Bool.and_self,Bool.true_and,decide_eq_true_eq]
   omega
 · unfold V.ls wv V.tmN
   simp [hn,hv]
theorem rootOf_l0_val {α:Type} (d:List Int) (hd:V.ok8 d = true) (hs:val d < 1569275433846670190958947355801916604025588861116008628224) (k1:Int → Option α):∀ (m fuel:Nat) (r:Int),m ≤ 62 → m < fuel → 0 ≤ r → r + 2 ^ m ≤ 4611686018427387904 → r * r ≤ val d → val d < (r + 2 ^ m) * (r + 2 ^ m) →
   M.rootOf_l0 false d k1 fuel r (bitOf m) = k1 (V.isq (val d))
 | 0,fuel,r,h1,h2,hr,hb,l1,l2 => by
   obtain ⟨f,rfl⟩:∃ f,fuel = f + 1 := ⟨fuel - 1,by omega⟩
   unfold M.rootOf_l0 M.rootOf_l0_step
   rw [bitOf0,cLt_eq]
   simp only [Int.lt_irrefl,decide_false,Bool.false_eq_true,if_false]
   rw [isq_eq ⟨hr,l1,by simpa using l2⟩]
 | m + 1,fuel,r,h1,h2,hr,hb,l1,l2 => by
   obtain ⟨f,rfl⟩:∃ f,fuel = f + 1 := ⟨fuel - 1,by omega⟩
   have hp := p2 m
   have hps:(2:Int) ^ (m + 1) = 2 * 2 ^ m := by rw [Int.pow_succ]; omega
   rw [hps] at hb l2
   obtain ⟨s1,s2⟩ := sq_ls (t := r + 2 ^ m) hd (by omega) (by omega) hs
   unfold M.rootOf_l0 M.rootOf_l0_step
   rw [bitOfS,cLt_eq,IntWalk.i64_in (r + 2 ^ m) (by omega),bitOf_half]
   have w:IntKind.wrap .i64 (bitOf m) = bitOf m := by
     apply IntWalk.i64_in
     cases m with
     | zero => rw [bitOf0]; omega
     | succ k =>
       rw [bitOfS]
       have g1 := p2 k
       have g2:(2:Int) ^ (k + 1) = 2 * 2 ^ k := by rw [Int.pow_succ]; omega
       omega
   have hrng:(-9223372036854775808:Int) ≤ r + 2 ^ m ∧ r + 2 ^ m < 9223372036854775808 := by omega
   simp only [hp,decide_true,if_true,hrng,and_self,ofN_ok,s1,s2,w]
   by_cases hlt:val d < (r + 2 ^ m) * (r + 2 ^ m)
   · simp only [hlt, decide_true, Bool.not_true, Bool.false_eq_true, if_false]
     exact rootOf_l0_val d hd hs k1 m f r (by omega) (by omega) hr (by omega) l1 hlt
   · simp only [hlt, decide_false, Bool.not_false, if_true]
     exact rootOf_l0_val d hd hs k1 m f (r + 2 ^ m) (by omega) (by omega) (by omega) (by omega) (by omega) (by
       rw [show r + 2 ^ m + 2 ^ m = r + 2 * 2 ^ m by omega]; exact l2)
theorem p62:(2:Int) ^ 62 = 4611686018427387904 := by kernel_rfl
theorem p61:(2305843009213693952:Int) = bitOf 62 := by kernel_rfl
theorem isq_big {x:Int} (h0:0 ≤ x):(4611686018427387903 < V.isq x) ↔ ¬ x < 4611686018427387904 * 4611686018427387904 := by
 have hex:∀ n:Nat,∃ r:Int,0 ≤ r ∧ r * r ≤ (n:Int) ∧ (n:Int) < (r + 1) * (r + 1) := by
   intro n
   induction n with
   | zero => exact ⟨0,by decide,by decide,by decide⟩
   | succ n ih =>
     obtain ⟨r,h0,h1,h2⟩ := ih
     by_cases h:((n + 1:Nat):Int) < (r + 1) * (r + 1)
     · exact ⟨r,h0,by push_cast; omega,h⟩
     · refine ⟨r + 1, by omega, by omega, ?_⟩
       have e:(r + 1 + 1) * (r + 1 + 1) = (r + 1) * (r + 1) + 2 * r + 3 := by grind
       push_cast at h ⊢
       omega
 obtain ⟨n,rfl⟩ := Int.eq_ofNat_of_zero_le h0
 obtain ⟨r,hr⟩ := hex n
 rw [isq_eq hr]
 constructor
 · intro h
   have:4611686018427387904 * 4611686018427387904 ≤ r * r := Int.mul_le_mul (by omega) (by omega) (by omega) (by omega)
   omega
 · intro h
   by_cases hlt:4611686018427387903 < r
   · exact hlt
   · have : (r + 1) * (r + 1) ≤ 4611686018427387904 * 4611686018427387904 := Int.mul_le_mul (by omega) (by omega) (by omega) (by omega)
     omega
theorem rootOf_v {α:Type} (d:List Int) (hd:V.ok8 d = true) (hs:val d < 1569275433846670190958947355801916604025588861116008628224) (k0:Int → Bool → Option α):M.rootOf false d k0 = k0 (V.gv (V.mRt (val d))) (V.sm (V.mRt (val d))) := by
 unfold M.rootOf V.mRt
 have v := val_bound (ok8_iff.1 hd).2
 obtain ⟨s1,s2⟩ := sq_ls (t := 4611686018427387904) hd (by omega) (by omega) hs
 have big := isq_big v.1
 rw [if_pos s1,s2]
 by_cases h:val d < 4611686018427387904 * 4611686018427387904
 · have hb : ¬ 4611686018427387903 < V.isq (val d) := fun hc => (big.1 hc) h
   simp only [h,decide_true,Bool.not_true,Bool.false_eq_true,if_false,hb]
   rw [p61,rootOf_l0_val d hd hs _ 62 (100 + d.length) 0 (by omega) (by omega) (by omega) (by rw [p62]; omega) (by omega) (by rw [p62]; simpa using h)]
   rfl
 · have hb : 4611686018427387903 < V.isq (val d) := big.2 h
   simp only [h,decide_false,Bool.not_false,if_true,hb]
   rfl
def _root_.Go.Proofs.YtfkgmidgdpfnkaaGreat.V.vl (d:List Int):Int := val d
theorem rootOf_g {α:Type} (n:Bool) (d:List Int) (h:n = false ∧ V.ok8 d = true ∧ V.vl d < 1569275433846670190958947355801916604025588861116008628224) (k0:Int → Bool → Option α):M.rootOf n d k0 = k0 (V.gv (V.mRt (V.vl d))) (V.sm (V.mRt (V.vl d))) := by
 rw [h.1]; exact rootOf_v d h.2.1 h.2.2 k0
noncomputable def rootOf_h {α:Type} (ds:List D) (Q:SV → Hp → Option α):Option α :=
 dB ds fun neg ds => dL (K.int IntKind.i64) ds fun d ds => dE ds (if neg = false ∧ V.ok8 d = true ∧ V.vl d < 1569275433846670190958947355801916604025588861116008628224 then Q (.tup [.int .i64 (V.gv (V.mRt (V.vl d))),.bool (V.sm (V.mRt (V.vl d)))]) ([]) else none)
theorem rootOf_h_ok {α:Type}:FnOk E.P 129 (fEnt (α := α) rootOf_sp rootOf_h) :=
 fEnt_ok E (look_down_ok) (exec_sound E E_ok (look_down_ok) (rootOf_l0_lps_ok) 400) fun ds Q r h => by
   unfold rootOf_h at h
   obtain ⟨neg,ds,rfl,h1⟩ := dB_inv h
   obtain ⟨d,ds,rfl,h2⟩ := dL_inv h1
   obtain ⟨rfl,hE⟩ := dE_inv h2
   split at hE
   · rename_i hg
     exact ⟨[SV.agg [SV.bool neg,SV.arr (K.int IntKind.i64) d (nat_lit 8)]],[],fun vs => by kernel_rfl,(rootOf_eq neg d Q).trans ((rootOf_g neg d hg _).trans hE)⟩
   · cases hE
noncomputable def look_rootOf {α:Type}:LookF α := addFn 129 (fEnt rootOf_sp rootOf_h) look_down
theorem look_rootOf_ok {α:Type}:LookOk E.P (look_rootOf (α := α)) := addFn_ok rootOf_h_ok (look_down_ok)
noncomputable abbrev rsum_S1 (y1:Value) (y2:List Int) (y3:Value) (y4:List Int) (y5:Int) (y6:Bool) (y7:List Int) (y8:Bool) (y9:List Int):St := St.mk (some (SV.ros y1 (K.int IntKind.i64) y2) :: some (SV.ros y3 (K.int IntKind.i64) y4) :: none :: none :: some (SV.ptr (nat_lit 0) (nat_lit 0)) :: some (SV.ptr (nat_lit 1) (nat_lit 0)) :: some (SV.int .i64 y5) :: nn 20 ([])) [.cells [SV.bool y6,SV.arr (K.int IntKind.i64) y7 (nat_lit 8)] (nat_lit 138),.cells [SV.bool y8,SV.arr (K.int IntKind.i64) y9 (nat_lit 8)] (nat_lit 138)]
noncomputable abbrev rsum_S2 (y1:Bool) (y2:List Int) (y3:Bool) (y4:List Int):St := St.mk (nn 4 (some (SV.ptr (nat_lit 0) (nat_lit 0)) :: some (SV.ptr (nat_lit 1) (nat_lit 0)) :: nn 21 ([]))) [.cells [SV.bool y1,SV.arr (K.int IntKind.i64) y2 (nat_lit 8)] (nat_lit 138),.cells [SV.bool y3,SV.arr (K.int IntKind.i64) y4 (nat_lit 8)] (nat_lit 138)]
noncomputable abbrev rsum_S3:St := St.mk (some (SV.ros undef (K.int IntKind.i64) []) :: some (SV.ros undef (K.int IntKind.i64) []) :: none :: none :: some (SV.ptr (nat_lit 0) (nat_lit 0)) :: some (SV.ptr (nat_lit 1) (nat_lit 0)) :: some (SV.int .i64 (0:Int)) :: nn 20 ([])) [.cells [SV.bool false,SV.arr (K.int IntKind.i64) [] (nat_lit 8)] (nat_lit 138),.cells [SV.bool false,SV.arr (K.int IntKind.i64) [] (nat_lit 8)] (nat_lit 138)]
noncomputable def M.rsum_l0_step {α:Type} (x26:List Int) (x28:List Int) (kn:Int → Bool → List Int → Option α) (k1:Bool → List Int → Option α) (x29:Int) (x32:Bool) (x33:List Int):Option α := if cLt x29 (↑(List.length x26):Int) = true then if (0:Int) ≤ x29 ∧ x29 < (↑(List.length x26):Int) then if (-9223372036854775808:Int) ≤ List.getD x26 (Int.toNat x29) (0:Int) ∧ List.getD x26 (Int.toNat x29) (0:Int) < (9223372036854775808:Int) then if (0:Int) ≤ x29 ∧ x29 < (↑(List.length x28):Int) then if (-9223372036854775808:Int) ≤ List.getD x28 (Int.toNat x29) (0:Int) ∧ List.getD x28 (Int.toNat x29) (0:Int) < (9223372036854775808:Int) then if V.ok8 (V.ofN (List.getD x26 (Int.toNat x29) (0:Int))) = true ∧ V.ok8 (V.ofN (List.getD x28 (Int.toNat x29) (0:Int))) = true then if V.ok8 x33 = true ∧ V.ok8 (V.tmD (V.ofN (List.getD x26 (Int.toNat x29) (0:Int))) (V.ofN (List.getD x28 (Int.toNat x29) (0:Int)))) = true then kn (IntKind.wrap .i64 (x29 + (1:Int))) (V.plN x32 x33 (V.tmN (decide (List.getD x26 (Int.toNat x29) (0:Int) < (0:Int))) (decide (List.getD x28 (Int.toNat x29) (0:Int) < (0:Int)))) (V.tmD (V.ofN (List.getD x26 (Int.toNat x29) (0:Int))) (V.ofN (List.getD x28 (Int.toNat x29) (0:Int))))) (V.plD x32 x33 (V.tmN (decide (List.getD x26 (Int.toNat x29) (0:Int) < (0:Int))) (decide (List.getD x28 (Int.toNat x29) (0:Int) < (0:Int)))) (V.tmD (V.ofN (List.getD x26 (Int.toNat x29) (0:Int))) (V.ofN (List.getD x28 (Int.toNat x29) (0:Int))))) else none else none else none else none else none else none else k1 x32 x33
noncomputable def M.rsum_l0 {α:Type} (x26:List Int) (x28:List Int) (k1:Bool → List Int → Option α):Nat → Int → Bool → List Int → Option α
 | 0,_,_,_ => none
 | n + 1,x29,x32,x33 => M.rsum_l0_step x26 x28 (M.rsum_l0 x26 x28 k1 n) k1 x29 x32 x33
theorem rsum_l0_step_eq {α:Type} (x25:Value) (x26:List Int) (x27:Value) (x28:List Int) (x29:Int) (x30:Bool) (x31:List Int) (x32:Bool) (x33:List Int) (Q:Ex → St → Option α):(loopStep E (exec E look_rootOf noLps 400) 103 [false,true,false,true,true] 0 (codeAt E.P 103 [false,true,false,true,true])) (rsum_S1 x25 x26 x27 x28 x29 x30 x31 x32 x33) Q = M.rsum_l0_step x26 x28 (fun (x36:Int) (x37:Bool) (x38:List Int) => Q .normal (rsum_S1 x25 x26 x27 x28 x36 x30 x31 x37 x38)) (fun (x34:Bool) (x35:List Int) => Q (.exit 0) (rsum_S2 x30 x31 x34 x35)) x29 x32 x33 := by kernel_rfl
theorem rsum_l0_iter {α:Type} (x25:Value) (x26:List Int) (x27:Value) (x28:List Int) (x30:Bool) (x31:List Int) (Q:Ex → St → Option α):∀ (n:Nat) (x29:Int) (x32:Bool) (x33:List Int),iter (loopStep E (exec E look_rootOf noLps 400) 103 [false,true,false,true,true] 0 (codeAt E.P 103 [false,true,false,true,true])) n (rsum_S1 x25 x26 x27 x28 x29 x30 x31 x32 x33) Q = M.rsum_l0 x26 x28 (fun (x34:Bool) (x35:List Int) => Q (.exit 0) (rsum_S2 x30 x31 x34 x35)) n x29 x32 x33
 | 0,_,_,_ => rfl
 | n + 1,x29,x32,x33 => (rsum_l0_step_eq x25 x26 x27 x28 x29 x30 x31 x32 x33 (iterK (loopStep E (exec E look_rootOf noLps 400) 103 [false,true,false,true,true] 0 (codeAt E.P 103 [false,true,false,true,true])) n Q)).trans (congrArg (fun kn => M.rsum_l0_step x26 x28 kn (fun (x34:Bool) (x35:List Int) => Q (.exit 0) (rsum_S2 x30 x31 x34 x35)) x29 x32 x33) (funext fun x29 => funext fun x32 => funext fun x33 => rsum_l0_iter x25 x26 x27 x28 x30 x31 Q n x29 x32 x33))
noncomputable def rsum_l0_go {α:Type} (ds:List D) (Q:Ex → St → Option α):Option α :=
 dV ds fun x25 ds => dL (K.int IntKind.i64) ds fun x26 ds => dV ds fun x27 ds => dL (K.int IntKind.i64) ds fun x28 ds => dI ds fun x29 ds => dB ds fun x30 ds => dL (K.int IntKind.i64) ds fun x31 ds => dB ds fun x32 ds => dL (K.int IntKind.i64) ds fun x33 ds => dE ds (M.rsum_l0 x26 x28 (fun (x34:Bool) (x35:List Int) => Q (.exit 0) (rsum_S2 x30 x31 x34 x35)) (100 + x26.length + x28.length + x31.length + x33.length) x29 x32 x33)
theorem rsum_l0_ok {α:Type}:LoopOk E.P 103 [false,true,false,true,true] 0 (lEnt (α := α) (rsum_S3) rsum_l0_go) :=
 lEnt_ok E (exec_sound E E_ok (look_rootOf_ok) (noLps_ok _) 400) fun ds Q r h S hS => by
   unfold rsum_l0_go at h
   obtain ⟨x25,ds,rfl,h1⟩ := dV_inv h
   obtain ⟨x26,ds,rfl,h2⟩ := dL_inv h1
   obtain ⟨x27,ds,rfl,h3⟩ := dV_inv h2
   obtain ⟨x28,ds,rfl,h4⟩ := dL_inv h3
   obtain ⟨x29,ds,rfl,h5⟩ := dI_inv h4
   obtain ⟨x30,ds,rfl,h6⟩ := dB_inv h5
   obtain ⟨x31,ds,rfl,h7⟩ := dL_inv h6
   obtain ⟨x32,ds,rfl,h8⟩ := dB_inv h7
   obtain ⟨x33,ds,rfl,h9⟩ := dL_inv h8
   obtain ⟨rfl,hE⟩ := dE_inv h9
   have e:fillS (rsum_S3) [.v x25,.l (K.int IntKind.i64) x26,.v x27,.l (K.int IntKind.i64) x28,.i x29,.b x30,.l (K.int IntKind.i64) x31,.b x32,.l (K.int IntKind.i64) x33] = some (rsum_S1 x25 x26 x27 x28 x29 x30 x31 x32 x33) := by kernel_rfl
   rw [e] at hS
   cases hS
   exact ⟨_,(rsum_l0_iter x25 x26 x27 x28 x30 x31 Q _ x29 x32 x33).trans hE⟩
noncomputable def rsum_l0_lps {α:Type}:LookL α := addLp 103 [false,true,false,true,true] 0 (lEnt (rsum_S3) rsum_l0_go) noLps
theorem rsum_l0_lps_ok {α:Type}:LoopsOk E.P (rsum_l0_lps (α := α)) := addLp_ok rsum_l0_ok (noLps_ok _)
noncomputable def M.rsum {α:Type} (a:List Int) (b:List Int) (k0:Bool → List Int → Option α):Option α := M.rsum_l0 a b (fun (x41:Bool) (x42:List Int) ↦ k0 x41 x42) ((100:Nat) + List.length a + List.length b + (8:Nat) + (8:Nat)) (0:Int) false (List.replicate (8:Nat) (0:Int))
theorem rsum_eq {α:Type} (a:List Int) (b:List Int) (v39:Value) (v40:Value) (Q:SV → Hp → Option α):callI E look_rootOf (exec E look_rootOf rsum_l0_lps 400) 103 ([SV.ros v39 (K.int IntKind.i64) a,SV.ros v40 (K.int IntKind.i64) b]) ([]) Q = M.rsum a b (fun (x43:Bool) (x44:List Int) => Q (SV.agg [SV.bool x43,SV.arr (K.int IntKind.i64) x44 (nat_lit 8)]) ([])) := by kernel_rfl
def rsum_sp:List AS := [.ro (.int .i64),.ro (.int .i64)]
noncomputable def smF:List Int → List Int → Bool → List Int → Bool × List Int
 | x :: a,y :: b,n,D => smF a b (V.plN n D (V.tmN (decide (x < 0)) (decide (y < 0))) (V.tmD (V.ofN x) (V.ofN y))) (V.plD n D (V.tmN (decide (x < 0)) (decide (y < 0))) (V.tmD (V.ofN x) (V.ofN y)))
 | _,_,n,D => (n,D)
theorem smF_val:∀ (a b:List Int) (n:Bool) (D:List Int) (K:Nat),V.anyG a = false → V.anyG b = false → V.ok8 D = true → val D ≤ 21267647932558653966460912964485513216 * (K:Int) → K + a.length ≤ 16 →
   V.ok8 (smF a b n D).2 = true ∧ wv (smF a b n D).1 (smF a b n D).2 = wv n D + V.dotZ a b ∧ val (smF a b n D).2 ≤ 21267647932558653966460912964485513216 * ((K + a.length:Nat):Int)
 | [],b,n,D,K,_,_,hD,hv,hK => by simp [smF,V.dotZ,hD]; exact hv
 | x :: a,[],n,D,K,_,_,hD,hv,hK => by simp [smF,V.dotZ,hD]; omega
 | x :: a,y :: b,n,D,K,ha,hb,hD,hv,hK => by
   rw [anyG_cons',Bool.or_eq_false_iff] at ha hb
   obtain ⟨p1,p2,p3,p4⟩ := ofN_prod ha.1 hb.1
   simp only [List.length_cons] at hK ⊢
   obtain ⟨q1,q2⟩ := pl_val n (V.tmN (decide (x < 0)) (decide (y < 0))) hD p2 (by omega)
   have ok := plD_ok n (V.tmN (decide (x < 0)) (decide (y < 0))) hD p2
   obtain ⟨r1,r2,r3⟩ := smF_val a b _ _ (K + 1) ha.2 hb.2 ok (by push_cast; omega) (by omega)
   rw [smF]
   refine ⟨r1,?_,?_⟩
   · rw [r2, q1, p4]
     simp only [V.dotZ,List.zipWith_cons_cons,List.sum_cons]
     omega
   · rw [show K + (a.length + 1) = K + 1 + a.length by omega]; exact r3
theorem smF_sq:∀ (a:List Int) (D:List Int),(smF a a false D).1 = false
 | [],D => rfl
 | x :: a,D => by
   rw [smF]
   have:V.plN false D (V.tmN (decide (x < 0)) (decide (x < 0))) (V.tmD (V.ofN x) (V.ofN x)) = false := by unfold V.plN V.tmN; simp
   rw [this]
   exact smF_sq a _
theorem smF_drop (a b:List Int) (i:Nat) (h1:i < a.length) (h2:i < b.length) (n:Bool) (D:List Int) :
   smF (a.drop i) (b.drop i) n D = smF (a.drop (i + 1)) (b.drop (i + 1)) (V.plN n D (V.tmN (decide (a.getD i 0 < 0)) (decide (b.getD i 0 < 0))) (V.tmD (V.ofN (a.getD i 0)) (V.ofN (b.getD i 0)))) (V.plD n D (V.tmN (decide (a.getD i 0 < 0)) (decide (b.getD i 0 < 0))) (V.tmD (V.ofN (a.getD i 0)) (V.ofN (b.getD i 0)))) := by
 rw [drop_getD h1,drop_getD h2,smF]
theorem anyG_getG {l:List Int} (h:V.anyG l = false) (i:Nat):isG (l.getD i 0) = false := by
 unfold V.anyG at h
 by_cases hi:i < l.length
 · have := List.any_eq_false.1 h (l[i]) (List.getElem_mem hi)
   simpa [List.getD_eq_getElem?_getD,hi] using this
 · have e : l.getD i 0 = 0 := by simp [List.getD_eq_getElem?_getD, hi]
   rw [e]; decide
theorem rsum_l0_val {α:Type} (a b:List Int) (hl:a.length < 9223372036854775808) (hab:a.length = b.length) (ha:V.anyG a = false) (hb:V.anyG b = false) (k1:Bool → List Int → Option α):∀ (fuel i:Nat) (n:Bool) (D:List Int),i ≤ a.length → a.length - i < fuel → V.ok8 D = true →
   M.rsum_l0 a b k1 fuel (i:Int) n D = k1 (smF (a.drop i) (b.drop i) n D).1 (smF (a.drop i) (b.drop i) n D).2
 | 0,i,n,D,h1,h2,_ => by omega
 | f + 1,i,n,D,h1,h2,hD => by
   unfold M.rsum_l0 M.rsum_l0_step
   rw [cLt_eq]
   by_cases hi:i < a.length
   · have ga := anyG_getG ha i
     have gb := anyG_getG hb i
     have ra := (isG_false _).1 ga
     have rb := (isG_false _).1 gb
     obtain ⟨p1,p2,p3,p4⟩ := ofN_prod ga gb
     have c1:(i:Int) < (a.length:Int) := by omega
     have c2:(i:Int) < (b.length:Int) := by omega
     rw [smF_drop a b i hi (by omega)]
     simp only [Int.toNat_natCast]
     have r1:(-9223372036854775808:Int) ≤ a.getD i 0 ∧ a.getD i 0 < 9223372036854775808 := by omega
     have r2:(-9223372036854775808:Int) ≤ b.getD i 0 ∧ b.getD i 0 < 9223372036854775808 := by omega
     simp only [c1,c2,r1,r2,Int.natCast_nonneg,decide_true,if_true,and_self,ofN_ok,hD,p2]
     rw [IntWalk.i64_in ((i:Int) + 1) (by omega)]
     have := rsum_l0_val a b hl hab ha hb k1 f (i + 1) (V.plN n D (V.tmN (decide (a.getD i 0 < 0)) (decide (b.getD i 0 < 0))) (V.tmD (V.ofN (a.getD i 0)) (V.ofN (b.getD i 0)))) (V.plD n D (V.tmN (decide (a.getD i 0 < 0)) (decide (b.getD i 0 < 0))) (V.tmD (V.ofN (a.getD i 0)) (V.ofN (b.getD i 0)))) (by omega) (by omega) (plD_ok n (V.tmN (decide (a.getD i 0 < 0)) (decide (b.getD i 0 < 0))) hD p2)
     push_cast at this
     exact this
   · have : i = a.length := by omega
     subst this
     simp [smF]
noncomputable def _root_.Go.Proofs.YtfkgmidgdpfnkaaGreat.V.smN (a b:List Int):Bool := (smF a b false (List.replicate 8 0)).1
noncomputable def _root_.Go.Proofs.YtfkgmidgdpfnkaaGreat.V.smD (a b:List Int):List Int := (smF a b false (List.replicate 8 0)).2
theorem rsum_v {α:Type} (a b:List Int) (hl:a.length < 9223372036854775808) (hab:a.length = b.length) (ha:V.anyG a = false) (hb:V.anyG b = false) (k0:Bool → List Int → Option α):M.rsum a b k0 = k0 (V.smN a b) (V.smD a b) := by
 unfold M.rsum V.smN V.smD
 have := rsum_l0_val a b hl hab ha hb (fun x y => k0 x y) (100 + a.length + b.length + 8 + 8) 0 false (List.replicate 8 0) (by omega) (by omega) (by decide)
 simp only [Int.natCast_zero,List.drop_zero] at this
 exact this
noncomputable def rsum_h {α:Type} (ds:List D) (Q:SV → Hp → Option α):Option α :=
 dL (K.int IntKind.i64) ds fun a ds => dL (K.int IntKind.i64) ds fun b ds => dE ds (if (a.length < 9223372036854775808 ∧ a.length = b.length) ∧ V.anyG a = false ∧ V.anyG b = false then Q (.agg [.bool (V.smN a b),.arr (.int .i64) (V.smD a b) 8]) ([]) else none)
theorem rsum_h_ok {α:Type}:FnOk E.P 103 (fEnt (α := α) rsum_sp rsum_h) :=
 fEntR_ok E (look_rootOf_ok) (exec_sound E E_ok (look_rootOf_ok) (rsum_l0_lps_ok) 400) fun ds Q r h => by
   unfold rsum_h at h
   obtain ⟨a,ds,rfl,h1⟩ := dL_inv h
   obtain ⟨b,ds,rfl,h2⟩ := dL_inv h1
   obtain ⟨rfl,hE⟩ := dE_inv h2
   split at hE
   · rename_i hg
     exact ⟨_,_,hE,fun vs => ⟨_,_,by kernel_rfl,(rsum_eq a b (vs.headD undef) (vs.tail.headD undef) _).trans (rsum_v a b hg.1.1 hg.1.2 hg.2.1 hg.2.2 _)⟩⟩
   · cases hE
noncomputable def look_rsum {α:Type}:LookF α := addFn 103 (fEnt rsum_sp rsum_h) look_rootOf
theorem look_rsum_ok {α:Type}:LookOk E.P (look_rsum (α := α)) := addFn_ok rsum_h_ok (look_rootOf_ok)
end
section
open Go
set_option maxRecDepth 20000
theorem tells_none (bad:Bool) (n:Int):V.tells_r0 bad n false = V.gv none ∧ V.tells_r1 bad n false = V.gn none bad := by
 unfold V.tells_r0 V.tells_r1 V.gv V.gn; simp
theorem tells_tl (bad:Bool) (n:Int):V.tells_r0 bad n true = V.gv (V.tl n) ∧ V.tells_r1 bad n true = V.gn (V.tl n) bad := by
 unfold V.tells_r0 V.tells_r1 V.gv V.gn V.tl
 simp only [cLt_eq]
 by_cases h1:n < -4611686018427387903
 · have : isG n = true := by rw [isG_iff]; omega
   simp [h1,this]
 · by_cases h2 : 4611686018427387903 < n
   · have : isG n = true := by rw [isG_iff]; omega
     simp [h1,h2,this]
   · have : isG n = false := by rw [isG_false]; omega
     simp [h1,h2,this]
theorem tells_o (bad:Bool) {o:Option Int} (h:∀ n,o = some n → isG n = false):V.tells_r0 bad (V.gv o) (V.sm o) = V.gv o ∧ V.tells_r1 bad (V.gv o) (V.sm o) = V.gn o bad := by
 cases o with
 | none => exact tells_none bad _
 | some n =>
   have := tells_tl bad n
   unfold V.tl at this
   rw [h n rfl] at this
   exact this
theorem tl_G {n m:Int} (h:V.tl n = some m):isG m = false := by
 unfold V.tl at h
 cases hg:isG n <;> simp_all
theorem mRt_G {x m:Int} (h:V.mRt x = some m):isG m = false := by
 unfold V.mRt at h
 split at h
 · cases h
 · cases h
   have:0 ≤ V.isq x := by
     unfold V.isq
     split
     · rename_i he; exact (Classical.choose_spec he).1
     · omega
   rw [isG_false]; omega
theorem aG2 (a b:Int):V.anyG [a,b] = (isG a || isG b) := by simp [V.anyG]
theorem aG3 (a b c:Int):V.anyG [a,b,c] = (isG a || isG b || isG c) := by simp [V.anyG,Bool.or_assoc]
noncomputable def M.radd {α:Type} (bad:Bool) (a:Int) (b:Int) (k0:Int → Bool → Option α):Option α := if V.anyG [a,b] = true then k0 (V.tells_r0 bad (0:Int) false) (V.tells_r1 bad (0:Int) false) else k0 (V.tells_r0 bad (IntKind.wrap .i64 (a + b)) true) (V.tells_r1 bad (IntKind.wrap .i64 (a + b)) true)
theorem radd_eq {α:Type} (bad:Bool) (a:Int) (b:Int) (Q:SV → Hp → Option α):callI E look_rsum (exec E look_rsum noLps 400) 37 ([SV.ptr (nat_lit 0) (nat_lit 0),SV.int .i64 a,SV.int .i64 b]) ([.cells [SV.bool bad] (nat_lit 29)]) Q = M.radd bad a b (fun (x0:Int) (x1:Bool) => Q (SV.int .i64 x0) ([.cells [SV.bool x1] (nat_lit 29)])) := by kernel_rfl
def radd_sp:List AS := [.ptr 29 [.bool false],.val (.int .i64 0),.val (.int .i64 0)]
theorem radd_v {α:Type} (bad:Bool) (a b:Int) (k0:Int → Bool → Option α):M.radd bad a b k0 = k0 (V.gv (V.mAdd a b)) (V.gn (V.mAdd a b) bad) := by
 unfold M.radd V.mAdd
 rw [aG2]
 cases h:(isG a || isG b) with
 | true => simp only [if_true]; rw [(tells_none bad 0).1,(tells_none bad 0).2]
 | false =>
   simp only [Bool.false_eq_true,if_false]
   simp only [Bool.or_eq_false_iff,isG_false] at h
   rw [IntWalk.i64_in _ (by omega),(tells_tl bad _).1,(tells_tl bad _).2]
noncomputable def radd_h {α:Type} (ds:List D) (Q:SV → Hp → Option α):Option α :=
 dB ds fun bad ds => dI ds fun a ds => dI ds fun b ds => dE ds (Q (.int .i64 (V.gv (V.mAdd a b))) ([.cells [.bool (V.gn (V.mAdd a b) bad)] 29]))
theorem radd_h_ok {α:Type}:FnOk E.P 37 (fEnt (α := α) radd_sp radd_h) :=
 fEnt_ok E (look_rsum_ok) (exec_sound E E_ok (look_rsum_ok) (noLps_ok _) 400) fun ds Q r h => by
   unfold radd_h at h
   obtain ⟨bad,ds,rfl,h1⟩ := dB_inv h
   obtain ⟨a,ds,rfl,h2⟩ := dI_inv h1
   obtain ⟨b,ds,rfl,h3⟩ := dI_inv h2
   obtain ⟨rfl,hE⟩ := dE_inv h3
   exact ⟨[SV.ptr (nat_lit 0) (nat_lit 0),SV.int .i64 a,SV.int .i64 b],[.cells [SV.bool bad] (nat_lit 29)],fun vs => by kernel_rfl,(radd_eq bad a b Q).trans ((radd_v bad a b _).trans hE)⟩
noncomputable def look_radd {α:Type}:LookF α := addFn 37 (fEnt radd_sp radd_h) look_rsum
theorem look_radd_ok {α:Type}:LookOk E.P (look_radd (α := α)) := addFn_ok radd_h_ok (look_rsum_ok)
noncomputable def M.rsub {α:Type} (bad:Bool) (a:Int) (b:Int) (k0:Int → Bool → Option α):Option α := if V.anyG [a,b] = true then k0 (V.tells_r0 bad (0:Int) false) (V.tells_r1 bad (0:Int) false) else k0 (V.tells_r0 bad (IntKind.wrap .i64 (a - b)) true) (V.tells_r1 bad (IntKind.wrap .i64 (a - b)) true)
theorem rsub_eq {α:Type} (bad:Bool) (a:Int) (b:Int) (Q:SV → Hp → Option α):callI E look_radd (exec E look_radd noLps 400) 44 ([SV.ptr (nat_lit 0) (nat_lit 0),SV.int .i64 a,SV.int .i64 b]) ([.cells [SV.bool bad] (nat_lit 29)]) Q = M.rsub bad a b (fun (x2:Int) (x3:Bool) => Q (SV.int .i64 x2) ([.cells [SV.bool x3] (nat_lit 29)])) := by kernel_rfl
def rsub_sp:List AS := [.ptr 29 [.bool false],.val (.int .i64 0),.val (.int .i64 0)]
theorem rsub_v {α:Type} (bad:Bool) (a b:Int) (k0:Int → Bool → Option α):M.rsub bad a b k0 = k0 (V.gv (V.mSub a b)) (V.gn (V.mSub a b) bad) := by
 unfold M.rsub V.mSub
 rw [aG2]
 cases h:(isG a || isG b) with
 | true => simp only [if_true]; rw [(tells_none bad 0).1,(tells_none bad 0).2]
 | false =>
   simp only [Bool.false_eq_true,if_false]
   simp only [Bool.or_eq_false_iff,isG_false] at h
   rw [IntWalk.i64_in _ (by omega),(tells_tl bad _).1,(tells_tl bad _).2]
noncomputable def rsub_h {α:Type} (ds:List D) (Q:SV → Hp → Option α):Option α :=
 dB ds fun bad ds => dI ds fun a ds => dI ds fun b ds => dE ds (Q (.int .i64 (V.gv (V.mSub a b))) ([.cells [.bool (V.gn (V.mSub a b) bad)] 29]))
theorem rsub_h_ok {α:Type}:FnOk E.P 44 (fEnt (α := α) rsub_sp rsub_h) :=
 fEnt_ok E (look_radd_ok) (exec_sound E E_ok (look_radd_ok) (noLps_ok _) 400) fun ds Q r h => by
   unfold rsub_h at h
   obtain ⟨bad,ds,rfl,h1⟩ := dB_inv h
   obtain ⟨a,ds,rfl,h2⟩ := dI_inv h1
   obtain ⟨b,ds,rfl,h3⟩ := dI_inv h2
   obtain ⟨rfl,hE⟩ := dE_inv h3
   exact ⟨[SV.ptr (nat_lit 0) (nat_lit 0),SV.int .i64 a,SV.int .i64 b],[.cells [SV.bool bad] (nat_lit 29)],fun vs => by kernel_rfl,(rsub_eq bad a b Q).trans ((rsub_v bad a b _).trans hE)⟩
noncomputable def look_rsub {α:Type}:LookF α := addFn 44 (fEnt rsub_sp rsub_h) look_radd
theorem look_rsub_ok {α:Type}:LookOk E.P (look_rsub (α := α)) := addFn_ok rsub_h_ok (look_radd_ok)
noncomputable def M.rratio {α:Type} (bad:Bool) (a:Int) (b:Int) (c:Int) (k0:Int → Bool → Option α):Option α := if V.anyG [a,b,c] = true then k0 (V.tells_r0 bad (0:Int) false) (V.tells_r1 bad (0:Int) false) else if cEq c (0:Int) = true then k0 (V.tells_r0 bad (0:Int) false) (V.tells_r1 bad (0:Int) false) else if (-9223372036854775808:Int) ≤ a ∧ a < (9223372036854775808:Int) then if (-9223372036854775808:Int) ≤ b ∧ b < (9223372036854775808:Int) then if V.ok8 (V.ofN a) = true ∧ V.ok8 (V.ofN b) = true then if V.ok8 (V.tmD (V.ofN a) (V.ofN b)) = true ∧ ¬c = (0:Int) ∧ (-4611686018427387903:Int) ≤ c ∧ c ≤ (4611686018427387903:Int) then k0 (V.tells_r0 bad (V.gv (V.dn (V.tmN (decide (a < (0:Int))) (decide (b < (0:Int)))) (V.tmD (V.ofN a) (V.ofN b)) c)) (V.sm (V.dn (V.tmN (decide (a < (0:Int))) (decide (b < (0:Int)))) (V.tmD (V.ofN a) (V.ofN b)) c))) (V.tells_r1 bad (V.gv (V.dn (V.tmN (decide (a < (0:Int))) (decide (b < (0:Int)))) (V.tmD (V.ofN a) (V.ofN b)) c)) (V.sm (V.dn (V.tmN (decide (a < (0:Int))) (decide (b < (0:Int)))) (V.tmD (V.ofN a) (V.ofN b)) c))) else none else none else none else none
theorem rratio_eq {α:Type} (bad:Bool) (a:Int) (b:Int) (c:Int) (Q:SV → Hp → Option α):callI E look_rsub (exec E look_rsub noLps 400) 83 ([SV.ptr (nat_lit 0) (nat_lit 0),SV.int .i64 a,SV.int .i64 b,SV.int .i64 c]) ([.cells [SV.bool bad] (nat_lit 29)]) Q = M.rratio bad a b c (fun (x4:Int) (x5:Bool) => Q (SV.int .i64 x4) ([.cells [SV.bool x5] (nat_lit 29)])) := by kernel_rfl
def rratio_sp:List AS := [.ptr 29 [.bool false],.val (.int .i64 0),.val (.int .i64 0),.val (.int .i64 0)]
def _root_.Go.Proofs.YtfkgmidgdpfnkaaGreat.V.rRatio (a b c:Int):Option Int := if c == 0 || isG a || isG b || isG c then none else V.tl (Int.fdiv (a * b) c)
theorem rratio_v {α:Type} (bad:Bool) (a b c:Int) (k0:Int → Bool → Option α):M.rratio bad a b c k0 = k0 (V.gv (V.rRatio a b c)) (V.gn (V.rRatio a b c) bad) := by
 unfold M.rratio V.rRatio
 rw [aG3,cEq_eq]
 cases hG:(isG a || isG b || isG c) with
 | true =>
   have:(c == 0 || isG a || isG b || isG c) = true := by rw [Bool.or_assoc (c == 0),Bool.or_assoc (c == 0),hG,Bool.or_true]
   rw [this]
   simp only [if_true]
   rw [(tells_none bad 0).1,(tells_none bad 0).2]
 | false =>
   have h2:(c == 0 || isG a || isG b || isG c) = (c == 0) := by rw [Bool.or_assoc (c == 0),Bool.or_assoc (c == 0),hG,Bool.or_false]
   rw [h2]
   simp only [Bool.or_eq_false_iff] at hG
   obtain ⟨⟨ga,gb⟩,gc⟩ := hG
   cases h0:(c == 0) with
   | true =>
     simp only [if_true,Bool.false_eq_true,if_false]
     rw [(tells_none bad 0).1,(tells_none bad 0).2]
   | false =>
     simp only [Bool.false_eq_true,if_false]
     have hc0:¬ c = 0 := by simpa using h0
     obtain ⟨p1,p2,p3,p4⟩ := ofN_prod ga gb
     have ra := (isG_false a).1 ga
     have rb := (isG_false b).1 gb
     have rc := (isG_false c).1 gc
     rw [if_pos (by omega),if_pos (by omega),if_pos ⟨ofN_ok a,ofN_ok b⟩,if_pos ⟨p2,hc0,rc.1,rc.2⟩]
     unfold V.dn
     rw [p4]
     obtain ⟨t1,t2⟩ := tells_o bad (o := V.tl (Int.fdiv (a * b) c)) (fun n h => tl_G h)
     rw [t1,t2]
noncomputable def rratio_h {α:Type} (ds:List D) (Q:SV → Hp → Option α):Option α :=
 dB ds fun bad ds => dI ds fun a ds => dI ds fun b ds => dI ds fun c ds => dE ds (Q (.int .i64 (V.gv (V.rRatio a b c))) ([.cells [.bool (V.gn (V.rRatio a b c) bad)] 29]))
theorem rratio_h_ok {α:Type}:FnOk E.P 83 (fEnt (α := α) rratio_sp rratio_h) :=
 fEnt_ok E (look_rsub_ok) (exec_sound E E_ok (look_rsub_ok) (noLps_ok _) 400) fun ds Q r h => by
   unfold rratio_h at h
   obtain ⟨bad,ds,rfl,h1⟩ := dB_inv h
   obtain ⟨a,ds,rfl,h2⟩ := dI_inv h1
   obtain ⟨b,ds,rfl,h3⟩ := dI_inv h2
   obtain ⟨c,ds,rfl,h4⟩ := dI_inv h3
   obtain ⟨rfl,hE⟩ := dE_inv h4
   exact ⟨[SV.ptr (nat_lit 0) (nat_lit 0),SV.int .i64 a,SV.int .i64 b,SV.int .i64 c],[.cells [SV.bool bad] (nat_lit 29)],fun vs => by kernel_rfl,(rratio_eq bad a b c Q).trans ((rratio_v bad a b c _).trans hE)⟩
noncomputable def look_rratio {α:Type}:LookF α := addFn 83 (fEnt rratio_sp rratio_h) look_rsub
theorem look_rratio_ok {α:Type}:LookOk E.P (look_rratio (α := α)) := addFn_ok rratio_h_ok (look_rsub_ok)
noncomputable def M.rmul {α:Type} (bad:Bool) (a:Int) (b:Int) (k0:Int → Bool → Option α):Option α := k0 (V.gv (V.rRatio a b (4294967296:Int))) (V.gn (V.rRatio a b (4294967296:Int)) bad)
theorem rmul_eq {α:Type} (bad:Bool) (a:Int) (b:Int) (Q:SV → Hp → Option α):callI E look_rratio (exec E look_rratio noLps 400) 40 ([SV.ptr (nat_lit 0) (nat_lit 0),SV.int .i64 a,SV.int .i64 b]) ([.cells [SV.bool bad] (nat_lit 29)]) Q = M.rmul bad a b (fun (x6:Int) (x7:Bool) => Q (SV.int .i64 x6) ([.cells [SV.bool x7] (nat_lit 29)])) := by kernel_rfl
def rmul_sp:List AS := [.ptr 29 [.bool false],.val (.int .i64 0),.val (.int .i64 0)]
noncomputable def _root_.Go.Proofs.YtfkgmidgdpfnkaaGreat.V.rmul_r0 (bad:Bool) (a:Int) (b:Int):Int := V.gv (V.rRatio a b (4294967296:Int))
noncomputable def _root_.Go.Proofs.YtfkgmidgdpfnkaaGreat.V.rmul_r1 (bad:Bool) (a:Int) (b:Int):Bool := V.gn (V.rRatio a b (4294967296:Int)) bad
theorem rmul_val {α:Type} (bad:Bool) (a:Int) (b:Int) (k0:Int → Bool → Option α):M.rmul bad a b k0 = k0 (V.rmul_r0 bad a b) (V.rmul_r1 bad a b) := by
 unfold M.rmul V.rmul_r0 V.rmul_r1
 repeat' first | rfl | (split <;> rename_i h <;> first | simp only [if_pos h] | simp only [if_neg h] | skip)
noncomputable def rmul_c {α:Type} (ds:List D) (Q:SV → Hp → Option α):Option α :=
 dB ds fun bad ds => dI ds fun a ds => dI ds fun b ds => dE ds (Q (SV.int .i64 (V.rmul_r0 bad a b)) ([.cells [SV.bool (V.rmul_r1 bad a b)] (nat_lit 29)]))
theorem rmul_c_ok {α:Type}:FnOk E.P 40 (fEnt (α := α) rmul_sp rmul_c) :=
 fEnt_ok E (look_rratio_ok) (exec_sound E E_ok (look_rratio_ok) (noLps_ok _) 400) fun ds Q r h => by
   unfold rmul_c at h
   obtain ⟨bad,ds,rfl,h1⟩ := dB_inv h
   obtain ⟨a,ds,rfl,h2⟩ := dI_inv h1
   obtain ⟨b,ds,rfl,h3⟩ := dI_inv h2
   obtain ⟨rfl,hE⟩ := dE_inv h3
   exact ⟨[SV.ptr (nat_lit 0) (nat_lit 0),SV.int .i64 a,SV.int .i64 b],[.cells [SV.bool bad] (nat_lit 29)],fun vs => by kernel_rfl,(rmul_eq bad a b Q).trans ((rmul_val bad a b (fun (x6:Int) (x7:Bool) => Q (SV.int .i64 x6) ([.cells [SV.bool x7] (nat_lit 29)]))).trans hE)⟩
noncomputable def look_rmul {α:Type}:LookF α := addFn 40 (fEnt rmul_sp rmul_c) look_rratio
theorem look_rmul_ok {α:Type}:LookOk E.P (look_rmul (α := α)) := addFn_ok rmul_c_ok (look_rratio_ok)
noncomputable def M.rdiv {α:Type} (bad:Bool) (a:Int) (b:Int) (k0:Int → Bool → Option α):Option α := k0 (V.gv (V.rRatio a (4294967296:Int) b)) (V.gn (V.rRatio a (4294967296:Int) b) bad)
theorem rdiv_eq {α:Type} (bad:Bool) (a:Int) (b:Int) (Q:SV → Hp → Option α):callI E look_rmul (exec E look_rmul noLps 400) 43 ([SV.ptr (nat_lit 0) (nat_lit 0),SV.int .i64 a,SV.int .i64 b]) ([.cells [SV.bool bad] (nat_lit 29)]) Q = M.rdiv bad a b (fun (x8:Int) (x9:Bool) => Q (SV.int .i64 x8) ([.cells [SV.bool x9] (nat_lit 29)])) := by kernel_rfl
def rdiv_sp:List AS := [.ptr 29 [.bool false],.val (.int .i64 0),.val (.int .i64 0)]
noncomputable def _root_.Go.Proofs.YtfkgmidgdpfnkaaGreat.V.rdiv_r0 (bad:Bool) (a:Int) (b:Int):Int := V.gv (V.rRatio a (4294967296:Int) b)
noncomputable def _root_.Go.Proofs.YtfkgmidgdpfnkaaGreat.V.rdiv_r1 (bad:Bool) (a:Int) (b:Int):Bool := V.gn (V.rRatio a (4294967296:Int) b) bad
theorem rdiv_val {α:Type} (bad:Bool) (a:Int) (b:Int) (k0:Int → Bool → Option α):M.rdiv bad a b k0 = k0 (V.rdiv_r0 bad a b) (V.rdiv_r1 bad a b) := by
 unfold M.rdiv V.rdiv_r0 V.rdiv_r1
 repeat' first | rfl | (split <;> rename_i h <;> first | simp only [if_pos h] | simp only [if_neg h] | skip)
noncomputable def rdiv_c {α:Type} (ds:List D) (Q:SV → Hp → Option α):Option α :=
 dB ds fun bad ds => dI ds fun a ds => dI ds fun b ds => dE ds (Q (SV.int .i64 (V.rdiv_r0 bad a b)) ([.cells [SV.bool (V.rdiv_r1 bad a b)] (nat_lit 29)]))
theorem rdiv_c_ok {α:Type}:FnOk E.P 43 (fEnt (α := α) rdiv_sp rdiv_c) :=
 fEnt_ok E (look_rmul_ok) (exec_sound E E_ok (look_rmul_ok) (noLps_ok _) 400) fun ds Q r h => by
   unfold rdiv_c at h
   obtain ⟨bad,ds,rfl,h1⟩ := dB_inv h
   obtain ⟨a,ds,rfl,h2⟩ := dI_inv h1
   obtain ⟨b,ds,rfl,h3⟩ := dI_inv h2
   obtain ⟨rfl,hE⟩ := dE_inv h3
   exact ⟨[SV.ptr (nat_lit 0) (nat_lit 0),SV.int .i64 a,SV.int .i64 b],[.cells [SV.bool bad] (nat_lit 29)],fun vs => by kernel_rfl,(rdiv_eq bad a b Q).trans ((rdiv_val bad a b (fun (x8:Int) (x9:Bool) => Q (SV.int .i64 x8) ([.cells [SV.bool x9] (nat_lit 29)]))).trans hE)⟩
noncomputable def look_rdiv {α:Type}:LookF α := addFn 43 (fEnt rdiv_sp rdiv_c) look_rmul
theorem look_rdiv_ok {α:Type}:LookOk E.P (look_rdiv (α := α)) := addFn_ok rdiv_c_ok (look_rmul_ok)
end
section
open Go
set_option maxRecDepth 20000
noncomputable def M.rdot {α:Type} (bad:Bool) (a:List Int) (b:List Int) (k0:Int → Bool → Option α):Option α := if (!cEq (↑(List.length a):Int) (↑(List.length b):Int)) = true then k0 (V.tells_r0 bad (0:Int) false) (V.tells_r1 bad (0:Int) false) else if cLt (8:Int) (↑(List.length a):Int) = true then k0 (V.tells_r0 bad (0:Int) false) (V.tells_r1 bad (0:Int) false) else if List.length a < (9223372036854775808:Nat) then if List.length b < (9223372036854775808:Nat) then if V.anyG a = true then k0 (V.tells_r0 bad (0:Int) false) (V.tells_r1 bad (0:Int) false) else if V.anyG b = true then k0 (V.tells_r0 bad (0:Int) false) (V.tells_r1 bad (0:Int) false) else if (List.length a < (9223372036854775808:Nat) ∧ List.length a = List.length b) ∧ V.anyG a = false ∧ V.anyG b = false then if V.ok8 (V.smD a b) = true ∧ ¬(4294967296:Int) = (0:Int) ∧ (-4611686018427387903:Int) ≤ (4294967296:Int) ∧ (4294967296:Int) ≤ (4611686018427387903:Int) then k0 (V.tells_r0 bad (V.gv (V.dn (V.smN a b) (V.smD a b) (4294967296:Int))) (V.sm (V.dn (V.smN a b) (V.smD a b) (4294967296:Int)))) (V.tells_r1 bad (V.gv (V.dn (V.smN a b) (V.smD a b) (4294967296:Int))) (V.sm (V.dn (V.smN a b) (V.smD a b) (4294967296:Int)))) else none else none else none else none
theorem rdot_eq {α:Type} (bad:Bool) (a:List Int) (b:List Int) (v0:Value) (v1:Value) (Q:SV → Hp → Option α):callI E look_rdiv (exec E look_rdiv noLps 400) 70 ([SV.ptr (nat_lit 0) (nat_lit 0),SV.ros v0 (K.int IntKind.i64) a,SV.ros v1 (K.int IntKind.i64) b]) ([.cells [SV.bool bad] (nat_lit 29)]) Q = M.rdot bad a b (fun (x2:Int) (x3:Bool) => Q (SV.int .i64 x2) ([.cells [SV.bool x3] (nat_lit 29)])) := by kernel_rfl
def rdot_sp:List AS := [.ptr 29 [.bool false],.ro (.int .i64),.ro (.int .i64)]
theorem sm_facts {a b:List Int} (hl:a.length ≤ 8) (ha:V.anyG a = false) (hb:V.anyG b = false):V.ok8 (V.smD a b) = true ∧ wv (V.smN a b) (V.smD a b) = V.dotZ a b ∧ val (V.smD a b) ≤ 170141183460469231731687303715884105728 := by
 obtain ⟨h1,h2,h3⟩ := smF_val a b false (List.replicate 8 0) 0 ha hb (by decide) (by decide) (by omega)
 refine ⟨h1,?_,?_⟩
 · unfold V.smN V.smD
   rw [h2]
   have:wv false (List.replicate 8 (0:Int)) = 0 := by decide
   omega
 · unfold V.smD
   omega
theorem rdot_v {α:Type} (bad:Bool) (a b:List Int) (k0:Int → Bool → Option α):M.rdot bad a b k0 = k0 (V.gv (V.mDot a b)) (V.gn (V.mDot a b) bad) := by
 unfold M.rdot V.mDot
 rw [cEq_eq,cLt_eq]
 have none1 := (tells_none bad 0).1
 have none2 := (tells_none bad 0).2
 by_cases h1:a.length = b.length
 · have e1 : ((a.length : Int) == (b.length : Int)) = true := by simp [h1]
   have e2:(a.length != b.length) = false := by simp [h1]
   rw [e1,e2]
   by_cases h2:8 < a.length
   · have : (8 : Int) < (a.length : Int) := by omega
     simp only [h2,this,decide_true,if_true,Bool.not_true,Bool.false_eq_true,if_false,Bool.false_or,Bool.true_or,none1,none2]
   · have : ¬ (8 : Int) < (a.length : Int) := by omega
     have l1:a.length < 9223372036854775808 := by omega
     have l2:b.length < 9223372036854775808 := by omega
     simp only [this,h2,l1,l2,if_true,decide_false,Bool.not_true,Bool.false_or,Bool.false_eq_true,if_false]
     cases ga:V.anyG a with
     | true => simp only [if_true,Bool.true_or,none1,none2]
     | false => cases gb:V.anyG b with
       | true => simp only [if_true,Bool.or_true,Bool.false_eq_true,if_false,none1,none2]
       | false =>
         obtain ⟨s1,s2,s3⟩ := sm_facts (by omega) ga gb
         simp only [Bool.false_eq_true,if_false,Bool.or_self]
         rw [if_pos ⟨⟨trivial,h1⟩,trivial,trivial⟩,if_pos ⟨s1,by decide,by decide,by decide⟩]
         unfold V.dn
         rw [s2,fdiv_pos _ _ (by decide)]
         obtain ⟨t1,t2⟩ := tells_o bad (o := V.tl (V.dotZ a b / 4294967296)) (fun n h => tl_G h)
         rw [t1,t2]
 · have e1 : ((a.length : Int) == (b.length : Int)) = false := by
     simp only [beq_eq_false_iff_ne,ne_eq]; omega
   have e2:(a.length != b.length) = true := by simp [h1]
   rw [e1,e2]
   simp only [Bool.not_false,if_true,Bool.true_or,none1,none2]
noncomputable def rdot_h {α:Type} (ds:List D) (Q:SV → Hp → Option α):Option α :=
 dB ds fun bad ds => dL (K.int IntKind.i64) ds fun a ds => dL (K.int IntKind.i64) ds fun b ds => dE ds (Q (.int .i64 (V.gv (V.mDot a b))) ([.cells [.bool (V.gn (V.mDot a b) bad)] 29]))
theorem rdot_h_ok {α:Type}:FnOk E.P 70 (fEnt (α := α) rdot_sp rdot_h) :=
 fEntR_ok E (look_rdiv_ok) (exec_sound E E_ok (look_rdiv_ok) (noLps_ok _) 400) fun ds Q r h => by
   unfold rdot_h at h
   obtain ⟨bad,ds,rfl,h1⟩ := dB_inv h
   obtain ⟨a,ds,rfl,h2⟩ := dL_inv h1
   obtain ⟨b,ds,rfl,h3⟩ := dL_inv h2
   obtain ⟨rfl,hE⟩ := dE_inv h3
   exact ⟨_,_,hE,fun vs => ⟨_,_,by kernel_rfl,(rdot_eq bad a b (vs.tail.headD undef) (vs.tail.tail.headD undef) _).trans (rdot_v bad a b _)⟩⟩
noncomputable def look_rdot {α:Type}:LookF α := addFn 70 (fEnt rdot_sp rdot_h) look_rdiv
theorem look_rdot_ok {α:Type}:LookOk E.P (look_rdot (α := α)) := addFn_ok rdot_h_ok (look_rdiv_ok)
noncomputable def M.rnorm {α:Type} (bad:Bool) (l:List Int) (k0:Int → Bool → Option α):Option α := if cLt (8:Int) (↑(List.length l):Int) = true then k0 (V.tells_r0 bad (0:Int) false) (V.tells_r1 bad (0:Int) false) else if List.length l < (9223372036854775808:Nat) then if V.anyG l = true then k0 (V.tells_r0 bad (0:Int) false) (V.tells_r1 bad (0:Int) false) else if (List.length l < (9223372036854775808:Nat) ∧ List.length l = List.length l) ∧ V.anyG l = false ∧ V.anyG l = false then if V.smN l l = false ∧ V.ok8 (V.smD l l) = true ∧ V.vl (V.smD l l) < (1569275433846670190958947355801916604025588861116008628224:Int) then k0 (V.tells_r0 bad (V.gv (V.mRt (V.vl (V.smD l l)))) (V.sm (V.mRt (V.vl (V.smD l l))))) (V.tells_r1 bad (V.gv (V.mRt (V.vl (V.smD l l)))) (V.sm (V.mRt (V.vl (V.smD l l))))) else none else none else none
theorem rnorm_eq {α:Type} (bad:Bool) (l:List Int) (v4:Value) (Q:SV → Hp → Option α):callI E look_rdot (exec E look_rdot noLps 400) 94 ([SV.ptr (nat_lit 0) (nat_lit 0),SV.ros v4 (K.int IntKind.i64) l]) ([.cells [SV.bool bad] (nat_lit 29)]) Q = M.rnorm bad l (fun (x5:Int) (x6:Bool) => Q (SV.int .i64 x5) ([.cells [SV.bool x6] (nat_lit 29)])) := by kernel_rfl
def rnorm_sp:List AS := [.ptr 29 [.bool false],.ro (.int .i64)]
theorem rnorm_v {α:Type} (bad:Bool) (l:List Int) (k0:Int → Bool → Option α):M.rnorm bad l k0 = k0 (V.gv (V.mNorm l)) (V.gn (V.mNorm l) bad) := by
 unfold M.rnorm V.mNorm
 rw [cLt_eq]
 have none1 := (tells_none bad 0).1
 have none2 := (tells_none bad 0).2
 by_cases h2:8 < l.length
 · have : (8 : Int) < (l.length : Int) := by omega
   simp only [h2,this,decide_true,if_true,Bool.true_or,none1,none2]
 · have : ¬ (8 : Int) < (l.length : Int) := by omega
   have l1:l.length < 9223372036854775808 := by omega
   simp only [this,h2,l1,if_true,decide_false,Bool.false_or,Bool.false_eq_true,if_false]
   cases ga:V.anyG l with
   | true => simp only [if_true,none1,none2]
   | false =>
     obtain ⟨s1,s2,s3⟩ := sm_facts (a := l) (b := l) (by omega) ga ga
     have hN:V.smN l l = false := smF_sq l _
     have hv:V.vl (V.smD l l) = V.dotZ l l := by
       rw [hN] at s2
       unfold wv at s2
       simpa [V.vl] using s2
     have s3':V.vl (V.smD l l) ≤ 170141183460469231731687303715884105728 := s3
     simp only [Bool.false_eq_true,if_false,and_self,if_true]
     rw [if_pos ⟨hN,s1,by omega⟩,hv]
     obtain ⟨t1,t2⟩ := tells_o bad (o := V.mRt (V.dotZ l l)) (fun n h => mRt_G h)
     rw [t1,t2]
noncomputable def rnorm_h {α:Type} (ds:List D) (Q:SV → Hp → Option α):Option α :=
 dB ds fun bad ds => dL (K.int IntKind.i64) ds fun l ds => dE ds (Q (.int .i64 (V.gv (V.mNorm l))) ([.cells [.bool (V.gn (V.mNorm l) bad)] 29]))
theorem rnorm_h_ok {α:Type}:FnOk E.P 94 (fEnt (α := α) rnorm_sp rnorm_h) :=
 fEntR_ok E (look_rdot_ok) (exec_sound E E_ok (look_rdot_ok) (noLps_ok _) 400) fun ds Q r h => by
   unfold rnorm_h at h
   obtain ⟨bad,ds,rfl,h1⟩ := dB_inv h
   obtain ⟨l,ds,rfl,h2⟩ := dL_inv h1
   obtain ⟨rfl,hE⟩ := dE_inv h2
   exact ⟨_,_,hE,fun vs => ⟨_,_,by kernel_rfl,(rnorm_eq bad l (vs.tail.headD undef) _).trans (rnorm_v bad l _)⟩⟩
noncomputable def look_rnorm {α:Type}:LookF α := addFn 94 (fEnt rnorm_sp rnorm_h) look_rdot
theorem look_rnorm_ok {α:Type}:LookOk E.P (look_rnorm (α := α)) := addFn_ok rnorm_h_ok (look_rdot_ok)
end
section
open Go
def Gd (n:Int):Prop := -4611686018427387903 ≤ n ∧ n ≤ 4611686018427387903
instance (n:Int):Decidable (Gd n) := inferInstanceAs (Decidable (_ ∧ _))
theorem qFtl {a c:Int} (ha:-4611686018427387903 ≤ a ∧ a ≤ 4611686018427387903) (hc:0 < c):V.qF (a * 4294967296) c = V.tl (a * 4294967296 / c) := by
 unfold V.qF
 have h1:a * 4294967296 / c * c + a * 4294967296 % c = a * 4294967296 := Int.ediv_mul_add_emod _ c
 have h2:0 ≤ a * 4294967296 % c := Int.emod_nonneg _ (by omega)
 have h3:a * 4294967296 % c < c := Int.emod_lt_of_pos _ hc
 have:(a * 4294967296 / c == -18446744073709551616 && a * 4294967296 % c != 0) = false := by
   by_cases h:a * 4294967296 / c = -18446744073709551616
   · rw [h] at h1
     have:a * 4294967296 % c = 0 := by omega
     simp [this]
   · have : (a * 4294967296 / c == -18446744073709551616) = false := by simpa using h
     simp [this]
 rw [this]
 simp
theorem mDivF (a b:Int):V.mDiv a b = if b == 0 || isG a || isG b then none else V.tl (Int.fdiv (a * 4294967296) b) := by
 unfold V.mDiv V.mRatio
 have e:isG 4294967296 = false := by decide
 rw [e,Bool.or_false]
 cases hG:(b == 0 || isG a || isG b) with
 | true => simp
 | false =>
   simp only [Bool.false_eq_true,if_false]
   simp only [Bool.or_eq_false_iff] at hG
   have ha := (isG_false a).1 hG.1.2
   have h0:¬ b = 0 := by simpa using hG.1.1
   by_cases hb:b < 0
   · simp only [hb, if_true]
     rw [← Int.neg_mul,qFtl (by omega) (by omega),← Int.neg_fdiv_neg,fdiv_pos _ _ (by omega),Int.neg_mul]
   · simp only [hb, if_false]
     rw [qFtl ha (by omega),fdiv_pos _ _ (by omega)]
end
section
open Go
set_option maxRecDepth 20000
theorem mMul_rR (a b:Int):V.mMul a b = V.rRatio a b 4294967296 := by
 unfold V.mMul V.rRatio
 have e1:isG 4294967296 = false := by decide
 have e2:((4294967296:Int) == 0) = false := by decide
 rw [e1,e2,Bool.or_false,Bool.false_or,fdiv_pos _ _ (by decide)]
theorem mDiv_rR (a b:Int):V.mDiv a b = V.rRatio a 4294967296 b := by
 rw [mDivF]
 unfold V.rRatio
 have e1:isG 4294967296 = false := by decide
 rw [e1,Bool.or_false]
noncomputable def M.rmul2 {α:Type} (bad:Bool) (a:Int) (b:Int) (k0:Int → Bool → Option α):Option α := k0 (V.rmul_r0 bad a b) (V.rmul_r1 bad a b)
theorem rmul2_eq {α:Type} (bad:Bool) (a:Int) (b:Int) (Q:SV → Hp → Option α):callI E look_rnorm (exec E look_rnorm noLps 400) 40 ([SV.ptr (nat_lit 0) (nat_lit 0),SV.int .i64 a,SV.int .i64 b]) ([.cells [SV.bool bad] (nat_lit 29)]) Q = M.rmul2 bad a b (fun (x0:Int) (x1:Bool) => Q (SV.int .i64 x0) ([.cells [SV.bool x1] (nat_lit 29)])) := by kernel_rfl
def rmul2_sp:List AS := [.ptr 29 [.bool false],.val (.int .i64 0),.val (.int .i64 0)]
theorem rmul2_v {α:Type} (bad:Bool) (a b:Int) (k0:Int → Bool → Option α):M.rmul2 bad a b k0 = k0 (V.gv (V.mMul a b)) (V.gn (V.mMul a b) bad) := by
 rw [mMul_rR]; rfl
noncomputable def rmul2_h {α:Type} (ds:List D) (Q:SV → Hp → Option α):Option α :=
 dB ds fun bad ds => dI ds fun a ds => dI ds fun b ds => dE ds (Q (.int .i64 (V.gv (V.mMul a b))) ([.cells [.bool (V.gn (V.mMul a b) bad)] 29]))
theorem rmul2_h_ok {α:Type}:FnOk E.P 40 (fEnt (α := α) rmul2_sp rmul2_h) :=
 fEnt_ok E (look_rnorm_ok) (exec_sound E E_ok (look_rnorm_ok) (noLps_ok _) 400) fun ds Q r h => by
   unfold rmul2_h at h
   obtain ⟨bad,ds,rfl,h1⟩ := dB_inv h
   obtain ⟨a,ds,rfl,h2⟩ := dI_inv h1
   obtain ⟨b,ds,rfl,h3⟩ := dI_inv h2
   obtain ⟨rfl,hE⟩ := dE_inv h3
   exact ⟨[SV.ptr (nat_lit 0) (nat_lit 0),SV.int .i64 a,SV.int .i64 b],[.cells [SV.bool bad] (nat_lit 29)],fun vs => by kernel_rfl,(rmul2_eq bad a b Q).trans ((rmul2_v bad a b _).trans hE)⟩
noncomputable def look_rmul2 {α:Type}:LookF α := addFn 40 (fEnt rmul2_sp rmul2_h) look_rnorm
theorem look_rmul2_ok {α:Type}:LookOk E.P (look_rmul2 (α := α)) := addFn_ok rmul2_h_ok (look_rnorm_ok)
noncomputable def M.rdiv2 {α:Type} (bad:Bool) (a:Int) (b:Int) (k0:Int → Bool → Option α):Option α := k0 (V.rdiv_r0 bad a b) (V.rdiv_r1 bad a b)
theorem rdiv2_eq {α:Type} (bad:Bool) (a:Int) (b:Int) (Q:SV → Hp → Option α):callI E look_rmul2 (exec E look_rmul2 noLps 400) 43 ([SV.ptr (nat_lit 0) (nat_lit 0),SV.int .i64 a,SV.int .i64 b]) ([.cells [SV.bool bad] (nat_lit 29)]) Q = M.rdiv2 bad a b (fun (x2:Int) (x3:Bool) => Q (SV.int .i64 x2) ([.cells [SV.bool x3] (nat_lit 29)])) := by kernel_rfl
def rdiv2_sp:List AS := [.ptr 29 [.bool false],.val (.int .i64 0),.val (.int .i64 0)]
theorem rdiv2_v {α:Type} (bad:Bool) (a b:Int) (k0:Int → Bool → Option α):M.rdiv2 bad a b k0 = k0 (V.gv (V.mDiv a b)) (V.gn (V.mDiv a b) bad) := by
 rw [mDiv_rR]; rfl
noncomputable def rdiv2_h {α:Type} (ds:List D) (Q:SV → Hp → Option α):Option α :=
 dB ds fun bad ds => dI ds fun a ds => dI ds fun b ds => dE ds (Q (.int .i64 (V.gv (V.mDiv a b))) ([.cells [.bool (V.gn (V.mDiv a b) bad)] 29]))
theorem rdiv2_h_ok {α:Type}:FnOk E.P 43 (fEnt (α := α) rdiv2_sp rdiv2_h) :=
 fEnt_ok E (look_rmul2_ok) (exec_sound E E_ok (look_rmul2_ok) (noLps_ok _) 400) fun ds Q r h => by
   unfold rdiv2_h at h
   obtain ⟨bad,ds,rfl,h1⟩ := dB_inv h
   obtain ⟨a,ds,rfl,h2⟩ := dI_inv h1
   obtain ⟨b,ds,rfl,h3⟩ := dI_inv h2
   obtain ⟨rfl,hE⟩ := dE_inv h3
   exact ⟨[SV.ptr (nat_lit 0) (nat_lit 0),SV.int .i64 a,SV.int .i64 b],[.cells [SV.bool bad] (nat_lit 29)],fun vs => by kernel_rfl,(rdiv2_eq bad a b Q).trans ((rdiv2_v bad a b _).trans hE)⟩
noncomputable def look_rdiv2 {α:Type}:LookF α := addFn 43 (fEnt rdiv2_sp rdiv2_h) look_rmul2
theorem look_rdiv2_ok {α:Type}:LookOk E.P (look_rdiv2 (α := α)) := addFn_ok rdiv2_h_ok (look_rmul2_ok)
end
section
open Go
set_option maxRecDepth 20000
noncomputable def M.dvadd {α:Type} (bad:Bool) (ax:Int) (ay:Int) (az:Int) (bx:Int) (b_y:Int) (bz:Int) (k0:Int → Int → Int → Bool → Option α):Option α := if bad = true then if (!!V.gn (V.mAdd az bz) (V.gn (V.mAdd ay b_y) (V.gn (V.mAdd ax bx) false))) = true then k0 (0:Int) (0:Int) (0:Int) true else k0 (V.gv (V.mAdd ax bx)) (V.gv (V.mAdd ay b_y)) (V.gv (V.mAdd az bz)) true else if (!!V.gn (V.mAdd az bz) (V.gn (V.mAdd ay b_y) (V.gn (V.mAdd ax bx) false))) = true then k0 (0:Int) (0:Int) (0:Int) (V.gn (V.mAdd az bz) (V.gn (V.mAdd ay b_y) (V.gn (V.mAdd ax bx) false))) else k0 (V.gv (V.mAdd ax bx)) (V.gv (V.mAdd ay b_y)) (V.gv (V.mAdd az bz)) (V.gn (V.mAdd az bz) (V.gn (V.mAdd ay b_y) (V.gn (V.mAdd ax bx) false)))
theorem dvadd_eq {α:Type} (bad:Bool) (ax:Int) (ay:Int) (az:Int) (bx:Int) (b_y:Int) (bz:Int) (Q:SV → Hp → Option α):callI E look_rdiv2 (exec E look_rdiv2 noLps 400) 73 ([SV.ptr (nat_lit 0) (nat_lit 0),SV.agg [SV.int .i64 ax,SV.int .i64 ay,SV.int .i64 az],SV.agg [SV.int .i64 bx,SV.int .i64 b_y,SV.int .i64 bz]]) ([.cells [SV.bool bad] (nat_lit 29)]) Q = M.dvadd bad ax ay az bx b_y bz (fun (x0 x1 x2:Int) (x3:Bool) => Q (SV.agg [SV.int .i64 x0,SV.int .i64 x1,SV.int .i64 x2]) ([.cells [SV.bool x3] (nat_lit 29)])) := by kernel_rfl
def dvadd_sp:List AS := [.ptr 29 [.bool false],.val (.agg [.int .i64 0,.int .i64 0,.int .i64 0]),.val (.agg [.int .i64 0,.int .i64 0,.int .i64 0])]
theorem dvadd_v {α:Type} (bad:Bool) (ax:Int) (ay:Int) (az:Int) (bx:Int) (b_y:Int) (bz:Int) (k0:Int → Int → Int → Bool → Option α):M.dvadd bad ax ay az bx b_y bz k0 = k0 (V.x3 (V.tAdd (ax,ay,az) (bx,b_y,bz))) (V.y3 (V.tAdd (ax,ay,az) (bx,b_y,bz))) (V.z3 (V.tAdd (ax,ay,az) (bx,b_y,bz))) (V.on (V.tAdd (ax,ay,az) (bx,b_y,bz)) bad) := by
 unfold M.dvadd V.tAdd V.t3
 generalize V.mAdd ax bx = o0
 generalize V.mAdd ay b_y = o1
 generalize V.mAdd az bz = o2
 cases bad <;> cases o0 <;> cases o1 <;> cases o2 <;> rfl
noncomputable def dvadd_h {α:Type} (ds:List D) (Q:SV → Hp → Option α):Option α :=
 dB ds fun bad ds => dI ds fun ax ds => dI ds fun ay ds => dI ds fun az ds => dI ds fun bx ds => dI ds fun b_y ds => dI ds fun bz ds => dE ds (Q (.agg [.int .i64 (V.x3 (V.tAdd (ax,ay,az) (bx,b_y,bz))),.int .i64 (V.y3 (V.tAdd (ax,ay,az) (bx,b_y,bz))),.int .i64 (V.z3 (V.tAdd (ax,ay,az) (bx,b_y,bz)))]) ([.cells [.bool (V.on (V.tAdd (ax,ay,az) (bx,b_y,bz)) bad)] 29]))
theorem dvadd_h_ok {α:Type}:FnOk E.P 73 (fEnt (α := α) dvadd_sp dvadd_h) :=
 fEnt_ok E (look_rdiv2_ok) (exec_sound E E_ok (look_rdiv2_ok) (noLps_ok _) 400) fun ds Q r h => by
   unfold dvadd_h at h
   obtain ⟨bad,ds,rfl,h1⟩ := dB_inv h
   obtain ⟨ax,ds,rfl,h2⟩ := dI_inv h1
   obtain ⟨ay,ds,rfl,h3⟩ := dI_inv h2
   obtain ⟨az,ds,rfl,h4⟩ := dI_inv h3
   obtain ⟨bx,ds,rfl,h5⟩ := dI_inv h4
   obtain ⟨b_y,ds,rfl,h6⟩ := dI_inv h5
   obtain ⟨bz,ds,rfl,h7⟩ := dI_inv h6
   obtain ⟨rfl,hE⟩ := dE_inv h7
   exact ⟨[SV.ptr (nat_lit 0) (nat_lit 0),SV.agg [SV.int .i64 ax,SV.int .i64 ay,SV.int .i64 az],SV.agg [SV.int .i64 bx,SV.int .i64 b_y,SV.int .i64 bz]],[.cells [SV.bool bad] (nat_lit 29)],fun vs => by kernel_rfl,(dvadd_eq bad ax ay az bx b_y bz Q).trans ((dvadd_v bad ax ay az bx b_y bz _).trans hE)⟩
noncomputable def look_dvadd {α:Type}:LookF α := addFn 73 (fEnt dvadd_sp dvadd_h) look_rdiv2
theorem look_dvadd_ok {α:Type}:LookOk E.P (look_dvadd (α := α)) := addFn_ok dvadd_h_ok (look_rdiv2_ok)
noncomputable def M.dvsub {α:Type} (bad:Bool) (ax:Int) (ay:Int) (az:Int) (bx:Int) (b_y:Int) (bz:Int) (k0:Int → Int → Int → Bool → Option α):Option α := if bad = true then if (!!V.gn (V.mSub az bz) (V.gn (V.mSub ay b_y) (V.gn (V.mSub ax bx) false))) = true then k0 (0:Int) (0:Int) (0:Int) true else k0 (V.gv (V.mSub ax bx)) (V.gv (V.mSub ay b_y)) (V.gv (V.mSub az bz)) true else if (!!V.gn (V.mSub az bz) (V.gn (V.mSub ay b_y) (V.gn (V.mSub ax bx) false))) = true then k0 (0:Int) (0:Int) (0:Int) (V.gn (V.mSub az bz) (V.gn (V.mSub ay b_y) (V.gn (V.mSub ax bx) false))) else k0 (V.gv (V.mSub ax bx)) (V.gv (V.mSub ay b_y)) (V.gv (V.mSub az bz)) (V.gn (V.mSub az bz) (V.gn (V.mSub ay b_y) (V.gn (V.mSub ax bx) false)))
theorem dvsub_eq {α:Type} (bad:Bool) (ax:Int) (ay:Int) (az:Int) (bx:Int) (b_y:Int) (bz:Int) (Q:SV → Hp → Option α):callI E look_dvadd (exec E look_dvadd noLps 400) 32 ([SV.ptr (nat_lit 0) (nat_lit 0),SV.agg [SV.int .i64 ax,SV.int .i64 ay,SV.int .i64 az],SV.agg [SV.int .i64 bx,SV.int .i64 b_y,SV.int .i64 bz]]) ([.cells [SV.bool bad] (nat_lit 29)]) Q = M.dvsub bad ax ay az bx b_y bz (fun (x4 x5 x6:Int) (x7:Bool) => Q (SV.agg [SV.int .i64 x4,SV.int .i64 x5,SV.int .i64 x6]) ([.cells [SV.bool x7] (nat_lit 29)])) := by kernel_rfl
def dvsub_sp:List AS := [.ptr 29 [.bool false],.val (.agg [.int .i64 0,.int .i64 0,.int .i64 0]),.val (.agg [.int .i64 0,.int .i64 0,.int .i64 0])]
theorem dvsub_v {α:Type} (bad:Bool) (ax:Int) (ay:Int) (az:Int) (bx:Int) (b_y:Int) (bz:Int) (k0:Int → Int → Int → Bool → Option α):M.dvsub bad ax ay az bx b_y bz k0 = k0 (V.x3 (V.tSub (ax,ay,az) (bx,b_y,bz))) (V.y3 (V.tSub (ax,ay,az) (bx,b_y,bz))) (V.z3 (V.tSub (ax,ay,az) (bx,b_y,bz))) (V.on (V.tSub (ax,ay,az) (bx,b_y,bz)) bad) := by
 unfold M.dvsub V.tSub V.t3
 generalize V.mSub ax bx = o0
 generalize V.mSub ay b_y = o1
 generalize V.mSub az bz = o2
 cases bad <;> cases o0 <;> cases o1 <;> cases o2 <;> rfl
noncomputable def dvsub_h {α:Type} (ds:List D) (Q:SV → Hp → Option α):Option α :=
 dB ds fun bad ds => dI ds fun ax ds => dI ds fun ay ds => dI ds fun az ds => dI ds fun bx ds => dI ds fun b_y ds => dI ds fun bz ds => dE ds (Q (.agg [.int .i64 (V.x3 (V.tSub (ax,ay,az) (bx,b_y,bz))),.int .i64 (V.y3 (V.tSub (ax,ay,az) (bx,b_y,bz))),.int .i64 (V.z3 (V.tSub (ax,ay,az) (bx,b_y,bz)))]) ([.cells [.bool (V.on (V.tSub (ax,ay,az) (bx,b_y,bz)) bad)] 29]))
theorem dvsub_h_ok {α:Type}:FnOk E.P 32 (fEnt (α := α) dvsub_sp dvsub_h) :=
 fEnt_ok E (look_dvadd_ok) (exec_sound E E_ok (look_dvadd_ok) (noLps_ok _) 400) fun ds Q r h => by
   unfold dvsub_h at h
   obtain ⟨bad,ds,rfl,h1⟩ := dB_inv h
   obtain ⟨ax,ds,rfl,h2⟩ := dI_inv h1
   obtain ⟨ay,ds,rfl,h3⟩ := dI_inv h2
   obtain ⟨az,ds,rfl,h4⟩ := dI_inv h3
   obtain ⟨bx,ds,rfl,h5⟩ := dI_inv h4
   obtain ⟨b_y,ds,rfl,h6⟩ := dI_inv h5
   obtain ⟨bz,ds,rfl,h7⟩ := dI_inv h6
   obtain ⟨rfl,hE⟩ := dE_inv h7
   exact ⟨[SV.ptr (nat_lit 0) (nat_lit 0),SV.agg [SV.int .i64 ax,SV.int .i64 ay,SV.int .i64 az],SV.agg [SV.int .i64 bx,SV.int .i64 b_y,SV.int .i64 bz]],[.cells [SV.bool bad] (nat_lit 29)],fun vs => by kernel_rfl,(dvsub_eq bad ax ay az bx b_y bz Q).trans ((dvsub_v bad ax ay az bx b_y bz _).trans hE)⟩
noncomputable def look_dvsub {α:Type}:LookF α := addFn 32 (fEnt dvsub_sp dvsub_h) look_dvadd
theorem look_dvsub_ok {α:Type}:LookOk E.P (look_dvsub (α := α)) := addFn_ok dvsub_h_ok (look_dvadd_ok)
noncomputable def M.dvscale {α:Type} (bad:Bool) (ax:Int) (ay:Int) (az:Int) (n:Int) (k0:Int → Int → Int → Bool → Option α):Option α := if bad = true then if (!!V.gn (V.mMul az n) (V.gn (V.mMul ay n) (V.gn (V.mMul ax n) false))) = true then k0 (0:Int) (0:Int) (0:Int) true else k0 (V.gv (V.mMul ax n)) (V.gv (V.mMul ay n)) (V.gv (V.mMul az n)) true else if (!!V.gn (V.mMul az n) (V.gn (V.mMul ay n) (V.gn (V.mMul ax n) false))) = true then k0 (0:Int) (0:Int) (0:Int) (V.gn (V.mMul az n) (V.gn (V.mMul ay n) (V.gn (V.mMul ax n) false))) else k0 (V.gv (V.mMul ax n)) (V.gv (V.mMul ay n)) (V.gv (V.mMul az n)) (V.gn (V.mMul az n) (V.gn (V.mMul ay n) (V.gn (V.mMul ax n) false)))
theorem dvscale_eq {α:Type} (bad:Bool) (ax:Int) (ay:Int) (az:Int) (n:Int) (Q:SV → Hp → Option α):callI E look_dvsub (exec E look_dvsub noLps 400) 25 ([SV.ptr (nat_lit 0) (nat_lit 0),SV.agg [SV.int .i64 ax,SV.int .i64 ay,SV.int .i64 az],SV.int .i64 n]) ([.cells [SV.bool bad] (nat_lit 29)]) Q = M.dvscale bad ax ay az n (fun (x8 x9 x10:Int) (x11:Bool) => Q (SV.agg [SV.int .i64 x8,SV.int .i64 x9,SV.int .i64 x10]) ([.cells [SV.bool x11] (nat_lit 29)])) := by kernel_rfl
def dvscale_sp:List AS := [.ptr 29 [.bool false],.val (.agg [.int .i64 0,.int .i64 0,.int .i64 0]),.val (.int .i64 0)]
theorem dvscale_v {α:Type} (bad:Bool) (ax:Int) (ay:Int) (az:Int) (n:Int) (k0:Int → Int → Int → Bool → Option α):M.dvscale bad ax ay az n k0 = k0 (V.x3 (V.tScale (ax,ay,az) n)) (V.y3 (V.tScale (ax,ay,az) n)) (V.z3 (V.tScale (ax,ay,az) n)) (V.on (V.tScale (ax,ay,az) n) bad) := by
 unfold M.dvscale V.tScale V.t3
 generalize V.mMul ax n = o0
 generalize V.mMul ay n = o1
 generalize V.mMul az n = o2
 cases bad <;> cases o0 <;> cases o1 <;> cases o2 <;> rfl
noncomputable def dvscale_h {α:Type} (ds:List D) (Q:SV → Hp → Option α):Option α :=
 dB ds fun bad ds => dI ds fun ax ds => dI ds fun ay ds => dI ds fun az ds => dI ds fun n ds => dE ds (Q (.agg [.int .i64 (V.x3 (V.tScale (ax,ay,az) n)),.int .i64 (V.y3 (V.tScale (ax,ay,az) n)),.int .i64 (V.z3 (V.tScale (ax,ay,az) n))]) ([.cells [.bool (V.on (V.tScale (ax,ay,az) n) bad)] 29]))
theorem dvscale_h_ok {α:Type}:FnOk E.P 25 (fEnt (α := α) dvscale_sp dvscale_h) :=
 fEnt_ok E (look_dvsub_ok) (exec_sound E E_ok (look_dvsub_ok) (noLps_ok _) 400) fun ds Q r h => by
   unfold dvscale_h at h
   obtain ⟨bad,ds,rfl,h1⟩ := dB_inv h
   obtain ⟨ax,ds,rfl,h2⟩ := dI_inv h1
   obtain ⟨ay,ds,rfl,h3⟩ := dI_inv h2
   obtain ⟨az,ds,rfl,h4⟩ := dI_inv h3
   obtain ⟨n,ds,rfl,h5⟩ := dI_inv h4
   obtain ⟨rfl,hE⟩ := dE_inv h5
   exact ⟨[SV.ptr (nat_lit 0) (nat_lit 0),SV.agg [SV.int .i64 ax,SV.int .i64 ay,SV.int .i64 az],SV.int .i64 n],[.cells [SV.bool bad] (nat_lit 29)],fun vs => by kernel_rfl,(dvscale_eq bad ax ay az n Q).trans ((dvscale_v bad ax ay az n _).trans hE)⟩
noncomputable def look_dvscale {α:Type}:LookF α := addFn 25 (fEnt dvscale_sp dvscale_h) look_dvsub
theorem look_dvscale_ok {α:Type}:LookOk E.P (look_dvscale (α := α)) := addFn_ok dvscale_h_ok (look_dvsub_ok)
noncomputable def M.dvdot {α:Type} (bad:Bool) (ax:Int) (ay:Int) (az:Int) (bx:Int) (b_y:Int) (bz:Int) (k0:Int → Bool → Option α):Option α := if bad = true then k0 (V.gv (V.mDot [ax,ay,az] [bx,b_y,bz])) true else k0 (V.gv (V.mDot [ax,ay,az] [bx,b_y,bz])) (V.gn (V.mDot [ax,ay,az] [bx,b_y,bz]) false)
theorem dvdot_eq {α:Type} (bad:Bool) (ax:Int) (ay:Int) (az:Int) (bx:Int) (b_y:Int) (bz:Int) (Q:SV → Hp → Option α):callI E look_dvscale (exec E look_dvscale noLps 400) 31 ([SV.ptr (nat_lit 0) (nat_lit 0),SV.agg [SV.int .i64 ax,SV.int .i64 ay,SV.int .i64 az],SV.agg [SV.int .i64 bx,SV.int .i64 b_y,SV.int .i64 bz]]) ([.cells [SV.bool bad] (nat_lit 29)]) Q = M.dvdot bad ax ay az bx b_y bz (fun (x12:Int) (x13:Bool) => Q (SV.int .i64 x12) ([.cells [SV.bool x13] (nat_lit 29)])) := by kernel_rfl
def dvdot_sp:List AS := [.ptr 29 [.bool false],.val (.agg [.int .i64 0,.int .i64 0,.int .i64 0]),.val (.agg [.int .i64 0,.int .i64 0,.int .i64 0])]
theorem dvdot_v {α:Type} (bad:Bool) (ax:Int) (ay:Int) (az:Int) (bx:Int) (b_y:Int) (bz:Int) (k0:Int → Bool → Option α):M.dvdot bad ax ay az bx b_y bz k0 = k0 (V.gv (V.tDot (ax,ay,az) (bx,b_y,bz))) (V.gn (V.tDot (ax,ay,az) (bx,b_y,bz)) bad) := by
 unfold M.dvdot V.tDot
 generalize V.mDot [ax,ay,az] [bx,b_y,bz] = o0
 cases bad <;> cases o0 <;> rfl
noncomputable def dvdot_h {α:Type} (ds:List D) (Q:SV → Hp → Option α):Option α :=
 dB ds fun bad ds => dI ds fun ax ds => dI ds fun ay ds => dI ds fun az ds => dI ds fun bx ds => dI ds fun b_y ds => dI ds fun bz ds => dE ds (Q (.int .i64 (V.gv (V.tDot (ax,ay,az) (bx,b_y,bz)))) ([.cells [.bool (V.gn (V.tDot (ax,ay,az) (bx,b_y,bz)) bad)] 29]))
theorem dvdot_h_ok {α:Type}:FnOk E.P 31 (fEnt (α := α) dvdot_sp dvdot_h) :=
 fEnt_ok E (look_dvscale_ok) (exec_sound E E_ok (look_dvscale_ok) (noLps_ok _) 400) fun ds Q r h => by
   unfold dvdot_h at h
   obtain ⟨bad,ds,rfl,h1⟩ := dB_inv h
   obtain ⟨ax,ds,rfl,h2⟩ := dI_inv h1
   obtain ⟨ay,ds,rfl,h3⟩ := dI_inv h2
   obtain ⟨az,ds,rfl,h4⟩ := dI_inv h3
   obtain ⟨bx,ds,rfl,h5⟩ := dI_inv h4
   obtain ⟨b_y,ds,rfl,h6⟩ := dI_inv h5
   obtain ⟨bz,ds,rfl,h7⟩ := dI_inv h6
   obtain ⟨rfl,hE⟩ := dE_inv h7
   exact ⟨[SV.ptr (nat_lit 0) (nat_lit 0),SV.agg [SV.int .i64 ax,SV.int .i64 ay,SV.int .i64 az],SV.agg [SV.int .i64 bx,SV.int .i64 b_y,SV.int .i64 bz]],[.cells [SV.bool bad] (nat_lit 29)],fun vs => by kernel_rfl,(dvdot_eq bad ax ay az bx b_y bz Q).trans ((dvdot_v bad ax ay az bx b_y bz _).trans hE)⟩
noncomputable def look_dvdot {α:Type}:LookF α := addFn 31 (fEnt dvdot_sp dvdot_h) look_dvscale
theorem look_dvdot_ok {α:Type}:LookOk E.P (look_dvdot (α := α)) := addFn_ok dvdot_h_ok (look_dvscale_ok)
noncomputable def M.dvcross {α:Type} (bad:Bool) (ax:Int) (ay:Int) (az:Int) (bx:Int) (b_y:Int) (bz:Int) (k0:Int → Int → Int → Bool → Option α):Option α := if bad = true then if (!!V.gn (V.mDot [ax,ay] [b_y,V.gv (V.mSub (0:Int) bx)]) (V.gn (V.mSub (0:Int) bx) (V.gn (V.mDot [az,ax] [bx,V.gv (V.mSub (0:Int) bz)]) (V.gn (V.mSub (0:Int) bz) (V.gn (V.mDot [ay,az] [bz,V.gv (V.mSub (0:Int) b_y)]) (V.gn (V.mSub (0:Int) b_y) false)))))) = true then k0 (0:Int) (0:Int) (0:Int) true else k0 (V.gv (V.mDot [ay,az] [bz,V.gv (V.mSub (0:Int) b_y)])) (V.gv (V.mDot [az,ax] [bx,V.gv (V.mSub (0:Int) bz)])) (V.gv (V.mDot [ax,ay] [b_y,V.gv (V.mSub (0:Int) bx)])) true else if (!!V.gn (V.mDot [ax,ay] [b_y,V.gv (V.mSub (0:Int) bx)]) (V.gn (V.mSub (0:Int) bx) (V.gn (V.mDot [az,ax] [bx,V.gv (V.mSub (0:Int) bz)]) (V.gn (V.mSub (0:Int) bz) (V.gn (V.mDot [ay,az] [bz,V.gv (V.mSub (0:Int) b_y)]) (V.gn (V.mSub (0:Int) b_y) false)))))) = true then k0 (0:Int) (0:Int) (0:Int) (V.gn (V.mDot [ax,ay] [b_y,V.gv (V.mSub (0:Int) bx)]) (V.gn (V.mSub (0:Int) bx) (V.gn (V.mDot [az,ax] [bx,V.gv (V.mSub (0:Int) bz)]) (V.gn (V.mSub (0:Int) bz) (V.gn (V.mDot [ay,az] [bz,V.gv (V.mSub (0:Int) b_y)]) (V.gn (V.mSub (0:Int) b_y) false)))))) else k0 (V.gv (V.mDot [ay,az] [bz,V.gv (V.mSub (0:Int) b_y)])) (V.gv (V.mDot [az,ax] [bx,V.gv (V.mSub (0:Int) bz)])) (V.gv (V.mDot [ax,ay] [b_y,V.gv (V.mSub (0:Int) bx)])) (V.gn (V.mDot [ax,ay] [b_y,V.gv (V.mSub (0:Int) bx)]) (V.gn (V.mSub (0:Int) bx) (V.gn (V.mDot [az,ax] [bx,V.gv (V.mSub (0:Int) bz)]) (V.gn (V.mSub (0:Int) bz) (V.gn (V.mDot [ay,az] [bz,V.gv (V.mSub (0:Int) b_y)]) (V.gn (V.mSub (0:Int) b_y) false))))))
theorem dvcross_eq {α:Type} (bad:Bool) (ax:Int) (ay:Int) (az:Int) (bx:Int) (b_y:Int) (bz:Int) (Q:SV → Hp → Option α):callI E look_dvdot (exec E look_dvdot noLps 400) 74 ([SV.ptr (nat_lit 0) (nat_lit 0),SV.agg [SV.int .i64 ax,SV.int .i64 ay,SV.int .i64 az],SV.agg [SV.int .i64 bx,SV.int .i64 b_y,SV.int .i64 bz]]) ([.cells [SV.bool bad] (nat_lit 29)]) Q = M.dvcross bad ax ay az bx b_y bz (fun (x14 x15 x16:Int) (x17:Bool) => Q (SV.agg [SV.int .i64 x14,SV.int .i64 x15,SV.int .i64 x16]) ([.cells [SV.bool x17] (nat_lit 29)])) := by kernel_rfl
def dvcross_sp:List AS := [.ptr 29 [.bool false],.val (.agg [.int .i64 0,.int .i64 0,.int .i64 0]),.val (.agg [.int .i64 0,.int .i64 0,.int .i64 0])]
theorem dvcross_v {α:Type} (bad:Bool) (ax:Int) (ay:Int) (az:Int) (bx:Int) (b_y:Int) (bz:Int) (k0:Int → Int → Int → Bool → Option α):M.dvcross bad ax ay az bx b_y bz k0 = k0 (V.x3 (V.tCross (ax,ay,az) (bx,b_y,bz))) (V.y3 (V.tCross (ax,ay,az) (bx,b_y,bz))) (V.z3 (V.tCross (ax,ay,az) (bx,b_y,bz))) (V.on (V.tCross (ax,ay,az) (bx,b_y,bz)) bad) := by
 unfold M.dvcross V.tCross V.t3
 generalize V.mDot [ax,ay] [b_y,V.gv (V.mSub 0 bx)] = o3
 generalize V.mDot [az,ax] [bx,V.gv (V.mSub 0 bz)] = o4
 generalize V.mDot [ay,az] [bz,V.gv (V.mSub 0 b_y)] = o5
 generalize V.mSub 0 bx = o0
 generalize V.mSub 0 b_y = o1
 generalize V.mSub 0 bz = o2
 cases bad <;> cases o0 <;> cases o1 <;> cases o2 <;> cases o3 <;> cases o4 <;> cases o5 <;> rfl
noncomputable def dvcross_h {α:Type} (ds:List D) (Q:SV → Hp → Option α):Option α :=
 dB ds fun bad ds => dI ds fun ax ds => dI ds fun ay ds => dI ds fun az ds => dI ds fun bx ds => dI ds fun b_y ds => dI ds fun bz ds => dE ds (Q (.agg [.int .i64 (V.x3 (V.tCross (ax,ay,az) (bx,b_y,bz))),.int .i64 (V.y3 (V.tCross (ax,ay,az) (bx,b_y,bz))),.int .i64 (V.z3 (V.tCross (ax,ay,az) (bx,b_y,bz)))]) ([.cells [.bool (V.on (V.tCross (ax,ay,az) (bx,b_y,bz)) bad)] 29]))
theorem dvcross_h_ok {α:Type}:FnOk E.P 74 (fEnt (α := α) dvcross_sp dvcross_h) :=
 fEnt_ok E (look_dvdot_ok) (exec_sound E E_ok (look_dvdot_ok) (noLps_ok _) 400) fun ds Q r h => by
   unfold dvcross_h at h
   obtain ⟨bad,ds,rfl,h1⟩ := dB_inv h
   obtain ⟨ax,ds,rfl,h2⟩ := dI_inv h1
   obtain ⟨ay,ds,rfl,h3⟩ := dI_inv h2
   obtain ⟨az,ds,rfl,h4⟩ := dI_inv h3
   obtain ⟨bx,ds,rfl,h5⟩ := dI_inv h4
   obtain ⟨b_y,ds,rfl,h6⟩ := dI_inv h5
   obtain ⟨bz,ds,rfl,h7⟩ := dI_inv h6
   obtain ⟨rfl,hE⟩ := dE_inv h7
   exact ⟨[SV.ptr (nat_lit 0) (nat_lit 0),SV.agg [SV.int .i64 ax,SV.int .i64 ay,SV.int .i64 az],SV.agg [SV.int .i64 bx,SV.int .i64 b_y,SV.int .i64 bz]],[.cells [SV.bool bad] (nat_lit 29)],fun vs => by kernel_rfl,(dvcross_eq bad ax ay az bx b_y bz Q).trans ((dvcross_v bad ax ay az bx b_y bz _).trans hE)⟩
noncomputable def look_dvcross {α:Type}:LookF α := addFn 74 (fEnt dvcross_sp dvcross_h) look_dvdot
theorem look_dvcross_ok {α:Type}:LookOk E.P (look_dvcross (α := α)) := addFn_ok dvcross_h_ok (look_dvdot_ok)
noncomputable def M.dvlen {α:Type} (bad:Bool) (ax:Int) (ay:Int) (az:Int) (k0:Int → Bool → Option α):Option α := if bad = true then k0 (V.gv (V.mNorm [ax,ay,az])) true else k0 (V.gv (V.mNorm [ax,ay,az])) (V.gn (V.mNorm [ax,ay,az]) false)
theorem dvlen_eq {α:Type} (bad:Bool) (ax:Int) (ay:Int) (az:Int) (Q:SV → Hp → Option α):callI E look_dvcross (exec E look_dvcross noLps 400) 127 ([SV.ptr (nat_lit 0) (nat_lit 0),SV.agg [SV.int .i64 ax,SV.int .i64 ay,SV.int .i64 az]]) ([.cells [SV.bool bad] (nat_lit 29)]) Q = M.dvlen bad ax ay az (fun (x18:Int) (x19:Bool) => Q (SV.int .i64 x18) ([.cells [SV.bool x19] (nat_lit 29)])) := by kernel_rfl
def dvlen_sp:List AS := [.ptr 29 [.bool false],.val (.agg [.int .i64 0,.int .i64 0,.int .i64 0])]
theorem dvlen_v {α:Type} (bad:Bool) (ax:Int) (ay:Int) (az:Int) (k0:Int → Bool → Option α):M.dvlen bad ax ay az k0 = k0 (V.gv (V.tLen (ax,ay,az))) (V.gn (V.tLen (ax,ay,az)) bad) := by
 unfold M.dvlen V.tLen
 generalize V.mNorm [ax,ay,az] = o0
 cases bad <;> cases o0 <;> rfl
noncomputable def dvlen_h {α:Type} (ds:List D) (Q:SV → Hp → Option α):Option α :=
 dB ds fun bad ds => dI ds fun ax ds => dI ds fun ay ds => dI ds fun az ds => dE ds (Q (.int .i64 (V.gv (V.tLen (ax,ay,az)))) ([.cells [.bool (V.gn (V.tLen (ax,ay,az)) bad)] 29]))
theorem dvlen_h_ok {α:Type}:FnOk E.P 127 (fEnt (α := α) dvlen_sp dvlen_h) :=
 fEnt_ok E (look_dvcross_ok) (exec_sound E E_ok (look_dvcross_ok) (noLps_ok _) 400) fun ds Q r h => by
   unfold dvlen_h at h
   obtain ⟨bad,ds,rfl,h1⟩ := dB_inv h
   obtain ⟨ax,ds,rfl,h2⟩ := dI_inv h1
   obtain ⟨ay,ds,rfl,h3⟩ := dI_inv h2
   obtain ⟨az,ds,rfl,h4⟩ := dI_inv h3
   obtain ⟨rfl,hE⟩ := dE_inv h4
   exact ⟨[SV.ptr (nat_lit 0) (nat_lit 0),SV.agg [SV.int .i64 ax,SV.int .i64 ay,SV.int .i64 az]],[.cells [SV.bool bad] (nat_lit 29)],fun vs => by kernel_rfl,(dvlen_eq bad ax ay az Q).trans ((dvlen_v bad ax ay az _).trans hE)⟩
noncomputable def look_dvlen {α:Type}:LookF α := addFn 127 (fEnt dvlen_sp dvlen_h) look_dvcross
theorem look_dvlen_ok {α:Type}:LookOk E.P (look_dvlen (α := α)) := addFn_ok dvlen_h_ok (look_dvcross_ok)
noncomputable def M.dvunit {α:Type} (bad:Bool) (ax:Int) (ay:Int) (az:Int) (k0:Int → Int → Int → Bool → Option α):Option α := if bad = true then if (!!V.gn (V.mDiv az (V.gv (V.mNorm [ax,ay,az]))) (V.gn (V.mDiv ay (V.gv (V.mNorm [ax,ay,az]))) (V.gn (V.mDiv ax (V.gv (V.mNorm [ax,ay,az]))) (V.gn (V.mNorm [ax,ay,az]) false)))) = true then k0 (0:Int) (0:Int) (0:Int) true else k0 (V.gv (V.mDiv ax (V.gv (V.mNorm [ax,ay,az])))) (V.gv (V.mDiv ay (V.gv (V.mNorm [ax,ay,az])))) (V.gv (V.mDiv az (V.gv (V.mNorm [ax,ay,az])))) true else if (!!V.gn (V.mDiv az (V.gv (V.mNorm [ax,ay,az]))) (V.gn (V.mDiv ay (V.gv (V.mNorm [ax,ay,az]))) (V.gn (V.mDiv ax (V.gv (V.mNorm [ax,ay,az]))) (V.gn (V.mNorm [ax,ay,az]) false)))) = true then k0 (0:Int) (0:Int) (0:Int) (V.gn (V.mDiv az (V.gv (V.mNorm [ax,ay,az]))) (V.gn (V.mDiv ay (V.gv (V.mNorm [ax,ay,az]))) (V.gn (V.mDiv ax (V.gv (V.mNorm [ax,ay,az]))) (V.gn (V.mNorm [ax,ay,az]) false)))) else k0 (V.gv (V.mDiv ax (V.gv (V.mNorm [ax,ay,az])))) (V.gv (V.mDiv ay (V.gv (V.mNorm [ax,ay,az])))) (V.gv (V.mDiv az (V.gv (V.mNorm [ax,ay,az])))) (V.gn (V.mDiv az (V.gv (V.mNorm [ax,ay,az]))) (V.gn (V.mDiv ay (V.gv (V.mNorm [ax,ay,az]))) (V.gn (V.mDiv ax (V.gv (V.mNorm [ax,ay,az]))) (V.gn (V.mNorm [ax,ay,az]) false))))
theorem dvunit_eq {α:Type} (bad:Bool) (ax:Int) (ay:Int) (az:Int) (Q:SV → Hp → Option α):callI E look_dvlen (exec E look_dvlen noLps 400) 50 ([SV.ptr (nat_lit 0) (nat_lit 0),SV.agg [SV.int .i64 ax,SV.int .i64 ay,SV.int .i64 az]]) ([.cells [SV.bool bad] (nat_lit 29)]) Q = M.dvunit bad ax ay az (fun (x20 x21 x22:Int) (x23:Bool) => Q (SV.agg [SV.int .i64 x20,SV.int .i64 x21,SV.int .i64 x22]) ([.cells [SV.bool x23] (nat_lit 29)])) := by kernel_rfl
def dvunit_sp:List AS := [.ptr 29 [.bool false],.val (.agg [.int .i64 0,.int .i64 0,.int .i64 0])]
theorem dvunit_v {α:Type} (bad:Bool) (ax:Int) (ay:Int) (az:Int) (k0:Int → Int → Int → Bool → Option α):M.dvunit bad ax ay az k0 = k0 (V.x3 (V.tUnit (ax,ay,az))) (V.y3 (V.tUnit (ax,ay,az))) (V.z3 (V.tUnit (ax,ay,az))) (V.on (V.tUnit (ax,ay,az)) bad) := by
 unfold M.dvunit V.tUnit V.t3 V.tLen
 generalize V.mDiv ax (V.gv (V.mNorm [ax,ay,az])) = o0
 generalize V.mDiv ay (V.gv (V.mNorm [ax,ay,az])) = o1
 generalize V.mDiv az (V.gv (V.mNorm [ax,ay,az])) = o2
 generalize V.mNorm [ax,ay,az] = o3
 cases bad <;> cases o0 <;> cases o1 <;> cases o2 <;> cases o3 <;> rfl
noncomputable def dvunit_h {α:Type} (ds:List D) (Q:SV → Hp → Option α):Option α :=
 dB ds fun bad ds => dI ds fun ax ds => dI ds fun ay ds => dI ds fun az ds => dE ds (Q (.agg [.int .i64 (V.x3 (V.tUnit (ax,ay,az))),.int .i64 (V.y3 (V.tUnit (ax,ay,az))),.int .i64 (V.z3 (V.tUnit (ax,ay,az)))]) ([.cells [.bool (V.on (V.tUnit (ax,ay,az)) bad)] 29]))
theorem dvunit_h_ok {α:Type}:FnOk E.P 50 (fEnt (α := α) dvunit_sp dvunit_h) :=
 fEnt_ok E (look_dvlen_ok) (exec_sound E E_ok (look_dvlen_ok) (noLps_ok _) 400) fun ds Q r h => by
   unfold dvunit_h at h
   obtain ⟨bad,ds,rfl,h1⟩ := dB_inv h
   obtain ⟨ax,ds,rfl,h2⟩ := dI_inv h1
   obtain ⟨ay,ds,rfl,h3⟩ := dI_inv h2
   obtain ⟨az,ds,rfl,h4⟩ := dI_inv h3
   obtain ⟨rfl,hE⟩ := dE_inv h4
   exact ⟨[SV.ptr (nat_lit 0) (nat_lit 0),SV.agg [SV.int .i64 ax,SV.int .i64 ay,SV.int .i64 az]],[.cells [SV.bool bad] (nat_lit 29)],fun vs => by kernel_rfl,(dvunit_eq bad ax ay az Q).trans ((dvunit_v bad ax ay az _).trans hE)⟩
noncomputable def look_dvunit {α:Type}:LookF α := addFn 50 (fEnt dvunit_sp dvunit_h) look_dvlen
theorem look_dvunit_ok {α:Type}:LookOk E.P (look_dvunit (α := α)) := addFn_ok dvunit_h_ok (look_dvlen_ok)
noncomputable def M.dvturn {α:Type} (bad:Bool) (m0:Int) (m1:Int) (m2:Int) (m3:Int) (m4:Int) (m5:Int) (m6:Int) (m7:Int) (m8:Int) (ax:Int) (ay:Int) (az:Int) (k0:Int → Int → Int → Bool → Option α):Option α := if bad = true then if (!!V.gn (V.tDot (m6,m7,m8) (ax,ay,az)) (V.gn (V.tDot (m3,m4,m5) (ax,ay,az)) (V.gn (V.tDot (m0,m1,m2) (ax,ay,az)) false))) = true then k0 (0:Int) (0:Int) (0:Int) true else k0 (V.gv (V.tDot (m0,m1,m2) (ax,ay,az))) (V.gv (V.tDot (m3,m4,m5) (ax,ay,az))) (V.gv (V.tDot (m6,m7,m8) (ax,ay,az))) true else if (!!V.gn (V.tDot (m6,m7,m8) (ax,ay,az)) (V.gn (V.tDot (m3,m4,m5) (ax,ay,az)) (V.gn (V.tDot (m0,m1,m2) (ax,ay,az)) false))) = true then k0 (0:Int) (0:Int) (0:Int) (V.gn (V.tDot (m6,m7,m8) (ax,ay,az)) (V.gn (V.tDot (m3,m4,m5) (ax,ay,az)) (V.gn (V.tDot (m0,m1,m2) (ax,ay,az)) false))) else k0 (V.gv (V.tDot (m0,m1,m2) (ax,ay,az))) (V.gv (V.tDot (m3,m4,m5) (ax,ay,az))) (V.gv (V.tDot (m6,m7,m8) (ax,ay,az))) (V.gn (V.tDot (m6,m7,m8) (ax,ay,az)) (V.gn (V.tDot (m3,m4,m5) (ax,ay,az)) (V.gn (V.tDot (m0,m1,m2) (ax,ay,az)) false)))
theorem dvturn_eq {α:Type} (bad:Bool) (m0:Int) (m1:Int) (m2:Int) (m3:Int) (m4:Int) (m5:Int) (m6:Int) (m7:Int) (m8:Int) (ax:Int) (ay:Int) (az:Int) (Q:SV → Hp → Option α):callI E look_dvunit (exec E look_dvunit noLps 400) 106 ([SV.ptr (nat_lit 0) (nat_lit 0),SV.agg [SV.int .i64 m0,SV.int .i64 m1,SV.int .i64 m2,SV.int .i64 m3,SV.int .i64 m4,SV.int .i64 m5,SV.int .i64 m6,SV.int .i64 m7,SV.int .i64 m8],SV.agg [SV.int .i64 ax,SV.int .i64 ay,SV.int .i64 az]]) ([.cells [SV.bool bad] (nat_lit 29)]) Q = M.dvturn bad m0 m1 m2 m3 m4 m5 m6 m7 m8 ax ay az (fun (x24 x25 x26:Int) (x27:Bool) => Q (SV.agg [SV.int .i64 x24,SV.int .i64 x25,SV.int .i64 x26]) ([.cells [SV.bool x27] (nat_lit 29)])) := by kernel_rfl
def dvturn_sp:List AS := [.ptr 29 [.bool false],.val (.agg [.int .i64 0,.int .i64 0,.int .i64 0,.int .i64 0,.int .i64 0,.int .i64 0,.int .i64 0,.int .i64 0,.int .i64 0]),.val (.agg [.int .i64 0,.int .i64 0,.int .i64 0])]
theorem dvturn_v {α:Type} (bad:Bool) (m0:Int) (m1:Int) (m2:Int) (m3:Int) (m4:Int) (m5:Int) (m6:Int) (m7:Int) (m8:Int) (ax:Int) (ay:Int) (az:Int) (k0:Int → Int → Int → Bool → Option α):M.dvturn bad m0 m1 m2 m3 m4 m5 m6 m7 m8 ax ay az k0 = k0 (V.x3 (V.tTurn ((m0,m1,m2),(m3,m4,m5),(m6,m7,m8)) (ax,ay,az))) (V.y3 (V.tTurn ((m0,m1,m2),(m3,m4,m5),(m6,m7,m8)) (ax,ay,az))) (V.z3 (V.tTurn ((m0,m1,m2),(m3,m4,m5),(m6,m7,m8)) (ax,ay,az))) (V.on (V.tTurn ((m0,m1,m2),(m3,m4,m5),(m6,m7,m8)) (ax,ay,az)) bad) := by
 unfold M.dvturn V.tTurn V.t3
 generalize V.tDot (m0,m1,m2) (ax,ay,az) = o0
 generalize V.tDot (m3,m4,m5) (ax,ay,az) = o1
 generalize V.tDot (m6,m7,m8) (ax,ay,az) = o2
 cases bad <;> cases o0 <;> cases o1 <;> cases o2 <;> rfl
noncomputable def dvturn_h {α:Type} (ds:List D) (Q:SV → Hp → Option α):Option α :=
 dB ds fun bad ds => dI ds fun m0 ds => dI ds fun m1 ds => dI ds fun m2 ds => dI ds fun m3 ds => dI ds fun m4 ds => dI ds fun m5 ds => dI ds fun m6 ds => dI ds fun m7 ds => dI ds fun m8 ds => dI ds fun ax ds => dI ds fun ay ds => dI ds fun az ds => dE ds (Q (.agg [.int .i64 (V.x3 (V.tTurn ((m0,m1,m2),(m3,m4,m5),(m6,m7,m8)) (ax,ay,az))),.int .i64 (V.y3 (V.tTurn ((m0,m1,m2),(m3,m4,m5),(m6,m7,m8)) (ax,ay,az))),.int .i64 (V.z3 (V.tTurn ((m0,m1,m2),(m3,m4,m5),(m6,m7,m8)) (ax,ay,az)))]) ([.cells [.bool (V.on (V.tTurn ((m0,m1,m2),(m3,m4,m5),(m6,m7,m8)) (ax,ay,az)) bad)] 29]))
theorem dvturn_h_ok {α:Type}:FnOk E.P 106 (fEnt (α := α) dvturn_sp dvturn_h) :=
 fEnt_ok E (look_dvunit_ok) (exec_sound E E_ok (look_dvunit_ok) (noLps_ok _) 400) fun ds Q r h => by
   unfold dvturn_h at h
   obtain ⟨bad,ds,rfl,h1⟩ := dB_inv h
   obtain ⟨m0,ds,rfl,h2⟩ := dI_inv h1
   obtain ⟨m1,ds,rfl,h3⟩ := dI_inv h2
   obtain ⟨m2,ds,rfl,h4⟩ := dI_inv h3
   obtain ⟨m3,ds,rfl,h5⟩ := dI_inv h4
   obtain ⟨m4,ds,rfl,h6⟩ := dI_inv h5
   obtain ⟨m5,ds,rfl,h7⟩ := dI_inv h6
   obtain ⟨m6,ds,rfl,h8⟩ := dI_inv h7
   obtain ⟨m7,ds,rfl,h9⟩ := dI_inv h8
   obtain ⟨m8,ds,rfl,h10⟩ := dI_inv h9
   obtain ⟨ax,ds,rfl,h11⟩ := dI_inv h10
   obtain ⟨ay,ds,rfl,h12⟩ := dI_inv h11
   obtain ⟨az,ds,rfl,h13⟩ := dI_inv h12
   obtain ⟨rfl,hE⟩ := dE_inv h13
   exact ⟨[SV.ptr (nat_lit 0) (nat_lit 0),SV.agg [SV.int .i64 m0,SV.int .i64 m1,SV.int .i64 m2,SV.int .i64 m3,SV.int .i64 m4,SV.int .i64 m5,SV.int .i64 m6,SV.int .i64 m7,SV.int .i64 m8],SV.agg [SV.int .i64 ax,SV.int .i64 ay,SV.int .i64 az]],[.cells [SV.bool bad] (nat_lit 29)],fun vs => by kernel_rfl,(dvturn_eq bad m0 m1 m2 m3 m4 m5 m6 m7 m8 ax ay az Q).trans ((dvturn_v bad m0 m1 m2 m3 m4 m5 m6 m7 m8 ax ay az _).trans hE)⟩
noncomputable def look_dvturn {α:Type}:LookF α := addFn 106 (fEnt dvturn_sp dvturn_h) look_dvunit
theorem look_dvturn_ok {α:Type}:LookOk E.P (look_dvturn (α := α)) := addFn_ok dvturn_h_ok (look_dvunit_ok)
noncomputable def M.dvback {α:Type} (bad:Bool) (m0:Int) (m1:Int) (m2:Int) (m3:Int) (m4:Int) (m5:Int) (m6:Int) (m7:Int) (m8:Int) (ax:Int) (ay:Int) (az:Int) (k0:Int → Int → Int → Bool → Option α):Option α := k0 (V.x3 (V.tTurn ((m0,m3,m6),(m1,m4,m7),m2,m5,m8) (ax,ay,az))) (V.y3 (V.tTurn ((m0,m3,m6),(m1,m4,m7),m2,m5,m8) (ax,ay,az))) (V.z3 (V.tTurn ((m0,m3,m6),(m1,m4,m7),m2,m5,m8) (ax,ay,az))) (V.on (V.tTurn ((m0,m3,m6),(m1,m4,m7),m2,m5,m8) (ax,ay,az)) bad)
theorem dvback_eq {α:Type} (bad:Bool) (m0:Int) (m1:Int) (m2:Int) (m3:Int) (m4:Int) (m5:Int) (m6:Int) (m7:Int) (m8:Int) (ax:Int) (ay:Int) (az:Int) (Q:SV → Hp → Option α):callI E look_dvturn (exec E look_dvturn noLps 400) 105 ([SV.ptr (nat_lit 0) (nat_lit 0),SV.agg [SV.int .i64 m0,SV.int .i64 m1,SV.int .i64 m2,SV.int .i64 m3,SV.int .i64 m4,SV.int .i64 m5,SV.int .i64 m6,SV.int .i64 m7,SV.int .i64 m8],SV.agg [SV.int .i64 ax,SV.int .i64 ay,SV.int .i64 az]]) ([.cells [SV.bool bad] (nat_lit 29)]) Q = M.dvback bad m0 m1 m2 m3 m4 m5 m6 m7 m8 ax ay az (fun (x28 x29 x30:Int) (x31:Bool) => Q (SV.agg [SV.int .i64 x28,SV.int .i64 x29,SV.int .i64 x30]) ([.cells [SV.bool x31] (nat_lit 29)])) := by kernel_rfl
def dvback_sp:List AS := [.ptr 29 [.bool false],.val (.agg [.int .i64 0,.int .i64 0,.int .i64 0,.int .i64 0,.int .i64 0,.int .i64 0,.int .i64 0,.int .i64 0,.int .i64 0]),.val (.agg [.int .i64 0,.int .i64 0,.int .i64 0])]
theorem dvback_v {α:Type} (bad:Bool) (m0:Int) (m1:Int) (m2:Int) (m3:Int) (m4:Int) (m5:Int) (m6:Int) (m7:Int) (m8:Int) (ax:Int) (ay:Int) (az:Int) (k0:Int → Int → Int → Bool → Option α):M.dvback bad m0 m1 m2 m3 m4 m5 m6 m7 m8 ax ay az k0 = k0 (V.x3 (V.tBack ((m0,m1,m2),(m3,m4,m5),(m6,m7,m8)) (ax,ay,az))) (V.y3 (V.tBack ((m0,m1,m2),(m3,m4,m5),(m6,m7,m8)) (ax,ay,az))) (V.z3 (V.tBack ((m0,m1,m2),(m3,m4,m5),(m6,m7,m8)) (ax,ay,az))) (V.on (V.tBack ((m0,m1,m2),(m3,m4,m5),(m6,m7,m8)) (ax,ay,az)) bad) := by
 rfl
noncomputable def dvback_h {α:Type} (ds:List D) (Q:SV → Hp → Option α):Option α :=
 dB ds fun bad ds => dI ds fun m0 ds => dI ds fun m1 ds => dI ds fun m2 ds => dI ds fun m3 ds => dI ds fun m4 ds => dI ds fun m5 ds => dI ds fun m6 ds => dI ds fun m7 ds => dI ds fun m8 ds => dI ds fun ax ds => dI ds fun ay ds => dI ds fun az ds => dE ds (Q (.agg [.int .i64 (V.x3 (V.tBack ((m0,m1,m2),(m3,m4,m5),(m6,m7,m8)) (ax,ay,az))),.int .i64 (V.y3 (V.tBack ((m0,m1,m2),(m3,m4,m5),(m6,m7,m8)) (ax,ay,az))),.int .i64 (V.z3 (V.tBack ((m0,m1,m2),(m3,m4,m5),(m6,m7,m8)) (ax,ay,az)))]) ([.cells [.bool (V.on (V.tBack ((m0,m1,m2),(m3,m4,m5),(m6,m7,m8)) (ax,ay,az)) bad)] 29]))
theorem dvback_h_ok {α:Type}:FnOk E.P 105 (fEnt (α := α) dvback_sp dvback_h) :=
 fEnt_ok E (look_dvturn_ok) (exec_sound E E_ok (look_dvturn_ok) (noLps_ok _) 400) fun ds Q r h => by
   unfold dvback_h at h
   obtain ⟨bad,ds,rfl,h1⟩ := dB_inv h
   obtain ⟨m0,ds,rfl,h2⟩ := dI_inv h1
   obtain ⟨m1,ds,rfl,h3⟩ := dI_inv h2
   obtain ⟨m2,ds,rfl,h4⟩ := dI_inv h3
   obtain ⟨m3,ds,rfl,h5⟩ := dI_inv h4
   obtain ⟨m4,ds,rfl,h6⟩ := dI_inv h5
   obtain ⟨m5,ds,rfl,h7⟩ := dI_inv h6
   obtain ⟨m6,ds,rfl,h8⟩ := dI_inv h7
   obtain ⟨m7,ds,rfl,h9⟩ := dI_inv h8
   obtain ⟨m8,ds,rfl,h10⟩ := dI_inv h9
   obtain ⟨ax,ds,rfl,h11⟩ := dI_inv h10
   obtain ⟨ay,ds,rfl,h12⟩ := dI_inv h11
   obtain ⟨az,ds,rfl,h13⟩ := dI_inv h12
   obtain ⟨rfl,hE⟩ := dE_inv h13
   exact ⟨[SV.ptr (nat_lit 0) (nat_lit 0),SV.agg [SV.int .i64 m0,SV.int .i64 m1,SV.int .i64 m2,SV.int .i64 m3,SV.int .i64 m4,SV.int .i64 m5,SV.int .i64 m6,SV.int .i64 m7,SV.int .i64 m8],SV.agg [SV.int .i64 ax,SV.int .i64 ay,SV.int .i64 az]],[.cells [SV.bool bad] (nat_lit 29)],fun vs => by kernel_rfl,(dvback_eq bad m0 m1 m2 m3 m4 m5 m6 m7 m8 ax ay az Q).trans ((dvback_v bad m0 m1 m2 m3 m4 m5 m6 m7 m8 ax ay az _).trans hE)⟩
noncomputable def look_dvback {α:Type}:LookF α := addFn 105 (fEnt dvback_sp dvback_h) look_dvturn
theorem look_dvback_ok {α:Type}:LookOk E.P (look_dvback (α := α)) := addFn_ok dvback_h_ok (look_dvturn_ok)
end
section
open Go
set_option maxRecDepth 20000
noncomputable def M.dvwhole {α:Type} (bad:Bool) (qw:Int) (qx:Int) (qy:Int) (qz:Int) (k0:Int → Int → Int → Int → Bool → Option α):Option α := if cLt (V.gv (V.mNorm [qw,qx,qy,qz])) (2147483648:Int) = true then k0 (0:Int) (0:Int) (0:Int) (0:Int) true else if bad = true then if (!!V.gn (V.mDiv qz (V.gv (V.mNorm [qw,qx,qy,qz]))) (V.gn (V.mDiv qy (V.gv (V.mNorm [qw,qx,qy,qz]))) (V.gn (V.mDiv qx (V.gv (V.mNorm [qw,qx,qy,qz]))) (V.gn (V.mDiv qw (V.gv (V.mNorm [qw,qx,qy,qz]))) (V.gn (V.mNorm [qw,qx,qy,qz]) false))))) = true then k0 (0:Int) (0:Int) (0:Int) (0:Int) true else k0 (V.gv (V.mDiv qw (V.gv (V.mNorm [qw,qx,qy,qz])))) (V.gv (V.mDiv qx (V.gv (V.mNorm [qw,qx,qy,qz])))) (V.gv (V.mDiv qy (V.gv (V.mNorm [qw,qx,qy,qz])))) (V.gv (V.mDiv qz (V.gv (V.mNorm [qw,qx,qy,qz])))) true else if (!!V.gn (V.mDiv qz (V.gv (V.mNorm [qw,qx,qy,qz]))) (V.gn (V.mDiv qy (V.gv (V.mNorm [qw,qx,qy,qz]))) (V.gn (V.mDiv qx (V.gv (V.mNorm [qw,qx,qy,qz]))) (V.gn (V.mDiv qw (V.gv (V.mNorm [qw,qx,qy,qz]))) (V.gn (V.mNorm [qw,qx,qy,qz]) false))))) = true then k0 (0:Int) (0:Int) (0:Int) (0:Int) (V.gn (V.mDiv qz (V.gv (V.mNorm [qw,qx,qy,qz]))) (V.gn (V.mDiv qy (V.gv (V.mNorm [qw,qx,qy,qz]))) (V.gn (V.mDiv qx (V.gv (V.mNorm [qw,qx,qy,qz]))) (V.gn (V.mDiv qw (V.gv (V.mNorm [qw,qx,qy,qz]))) (V.gn (V.mNorm [qw,qx,qy,qz]) false))))) else k0 (V.gv (V.mDiv qw (V.gv (V.mNorm [qw,qx,qy,qz])))) (V.gv (V.mDiv qx (V.gv (V.mNorm [qw,qx,qy,qz])))) (V.gv (V.mDiv qy (V.gv (V.mNorm [qw,qx,qy,qz])))) (V.gv (V.mDiv qz (V.gv (V.mNorm [qw,qx,qy,qz])))) (V.gn (V.mDiv qz (V.gv (V.mNorm [qw,qx,qy,qz]))) (V.gn (V.mDiv qy (V.gv (V.mNorm [qw,qx,qy,qz]))) (V.gn (V.mDiv qx (V.gv (V.mNorm [qw,qx,qy,qz]))) (V.gn (V.mDiv qw (V.gv (V.mNorm [qw,qx,qy,qz]))) (V.gn (V.mNorm [qw,qx,qy,qz]) false)))))
theorem dvwhole_eq {α:Type} (bad:Bool) (qw:Int) (qx:Int) (qy:Int) (qz:Int) (Q:SV → Hp → Option α):callI E look_dvback (exec E look_dvback noLps 400) 124 ([SV.ptr (nat_lit 0) (nat_lit 0),SV.agg [SV.int .i64 qw,SV.int .i64 qx,SV.int .i64 qy,SV.int .i64 qz]]) ([.cells [SV.bool bad] (nat_lit 29)]) Q = M.dvwhole bad qw qx qy qz (fun (x0 x1 x2 x3:Int) (x4:Bool) => Q (SV.agg [SV.int .i64 x0,SV.int .i64 x1,SV.int .i64 x2,SV.int .i64 x3]) ([.cells [SV.bool x4] (nat_lit 29)])) := by kernel_rfl
def dvwhole_sp:List AS := [.ptr 29 [.bool false],.val (.agg [.int .i64 0,.int .i64 0,.int .i64 0,.int .i64 0])]
theorem dvwhole_v {α:Type} (bad:Bool) (qw:Int) (qx:Int) (qy:Int) (qz:Int) (k0:Int → Int → Int → Int → Bool → Option α):M.dvwhole bad qw qx qy qz k0 = k0 (V.w4 (V.tWhole (qw,qx,qy,qz))) (V.x4 (V.tWhole (qw,qx,qy,qz))) (V.y4 (V.tWhole (qw,qx,qy,qz))) (V.z4 (V.tWhole (qw,qx,qy,qz))) (V.on (V.tWhole (qw,qx,qy,qz)) bad) := by
 unfold M.dvwhole V.tWhole V.t4 V.tLen4
 simp only [cLt_eq]
 generalize V.mDiv qw (V.gv (V.mNorm [qw,qx,qy,qz])) = o0
 generalize V.mDiv qx (V.gv (V.mNorm [qw,qx,qy,qz])) = o1
 generalize V.mDiv qy (V.gv (V.mNorm [qw,qx,qy,qz])) = o2
 generalize V.mDiv qz (V.gv (V.mNorm [qw,qx,qy,qz])) = o3
 generalize V.mNorm [qw,qx,qy,qz] = o4
 by_cases h:V.gv o4 < 2147483648
 · simp only [h, decide_true, if_true, true_or]
   cases bad <;> rfl
 · simp only [h, decide_false, false_or]
   cases bad <;> cases o0 <;> cases o1 <;> cases o2 <;> cases o3 <;> cases o4 <;> rfl
noncomputable def dvwhole_h {α:Type} (ds:List D) (Q:SV → Hp → Option α):Option α :=
 dB ds fun bad ds => dI ds fun qw ds => dI ds fun qx ds => dI ds fun qy ds => dI ds fun qz ds => dE ds (Q (.agg [.int .i64 (V.w4 (V.tWhole (qw,qx,qy,qz))),.int .i64 (V.x4 (V.tWhole (qw,qx,qy,qz))),.int .i64 (V.y4 (V.tWhole (qw,qx,qy,qz))),.int .i64 (V.z4 (V.tWhole (qw,qx,qy,qz)))]) ([.cells [.bool (V.on (V.tWhole (qw,qx,qy,qz)) bad)] 29]))
theorem dvwhole_h_ok {α:Type}:FnOk E.P 124 (fEnt (α := α) dvwhole_sp dvwhole_h) :=
 fEnt_ok E (look_dvback_ok) (exec_sound E E_ok (look_dvback_ok) (noLps_ok _) 400) fun ds Q r h => by
   unfold dvwhole_h at h
   obtain ⟨bad,ds,rfl,h1⟩ := dB_inv h
   obtain ⟨qw,ds,rfl,h2⟩ := dI_inv h1
   obtain ⟨qx,ds,rfl,h3⟩ := dI_inv h2
   obtain ⟨qy,ds,rfl,h4⟩ := dI_inv h3
   obtain ⟨qz,ds,rfl,h5⟩ := dI_inv h4
   obtain ⟨rfl,hE⟩ := dE_inv h5
   exact ⟨[SV.ptr (nat_lit 0) (nat_lit 0),SV.agg [SV.int .i64 qw,SV.int .i64 qx,SV.int .i64 qy,SV.int .i64 qz]],[.cells [SV.bool bad] (nat_lit 29)],fun vs => by kernel_rfl,(dvwhole_eq bad qw qx qy qz Q).trans ((dvwhole_v bad qw qx qy qz _).trans hE)⟩
noncomputable def look_dvwhole {α:Type}:LookF α := addFn 124 (fEnt dvwhole_sp dvwhole_h) look_dvback
theorem look_dvwhole_ok {α:Type}:LookOk E.P (look_dvwhole (α := α)) := addFn_ok dvwhole_h_ok (look_dvback_ok)
noncomputable def M.dvrows {α:Type} (bad:Bool) (qw:Int) (qx:Int) (qy:Int) (qz:Int) (k0:Int → Int → Int → Int → Int → Int → Int → Int → Int → Bool → Option α):Option α := if bad = true then if (!!V.gn (V.mSub (4294967296:Int) (V.gv (V.mDot [V.gv (V.mAdd qx qx),V.gv (V.mAdd qy qy)] [qx,qy]))) (V.gn (V.mDot [V.gv (V.mAdd qx qx),V.gv (V.mAdd qy qy)] [qx,qy]) (V.gn (V.mDot [V.gv (V.mAdd qy qy),V.gv (V.mAdd qw qw)] [qz,qx]) (V.gn (V.mDot [V.gv (V.mAdd qx qx),V.gv (V.mAdd qw qw)] [qz,V.gv (V.mSub (0:Int) qy)]) (V.gn (V.mDot [V.gv (V.mAdd qy qy),V.gv (V.mAdd qw qw)] [qz,V.gv (V.mSub (0:Int) qx)]) (V.gn (V.mSub (4294967296:Int) (V.gv (V.mDot [V.gv (V.mAdd qx qx),V.gv (V.mAdd qz qz)] [qx,qz]))) (V.gn (V.mDot [V.gv (V.mAdd qx qx),V.gv (V.mAdd qz qz)] [qx,qz]) (V.gn (V.mDot [V.gv (V.mAdd qx qx),V.gv (V.mAdd qw qw)] [qy,qz]) (V.gn (V.mDot [V.gv (V.mAdd qx qx),V.gv (V.mAdd qw qw)] [qz,qy]) (V.gn (V.mDot [V.gv (V.mAdd qx qx),V.gv (V.mAdd qw qw)] [qy,V.gv (V.mSub (0:Int) qz)]) (V.gn (V.mSub (4294967296:Int) (V.gv (V.mDot [V.gv (V.mAdd qy qy),V.gv (V.mAdd qz qz)] [qy,qz]))) (V.gn (V.mDot [V.gv (V.mAdd qy qy),V.gv (V.mAdd qz qz)] [qy,qz]) (V.gn (V.mSub (0:Int) qz) (V.gn (V.mSub (0:Int) qy) (V.gn (V.mSub (0:Int) qx) (V.gn (V.mAdd qz qz) (V.gn (V.mAdd qy qy) (V.gn (V.mAdd qx qx) (V.gn (V.mAdd qw qw) false))))))))))))))))))) = true then k0 (0:Int) (0:Int) (0:Int) (0:Int) (0:Int) (0:Int) (0:Int) (0:Int) (0:Int) true else k0 (V.gv (V.mSub (4294967296:Int) (V.gv (V.mDot [V.gv (V.mAdd qy qy),V.gv (V.mAdd qz qz)] [qy,qz])))) (V.gv (V.mDot [V.gv (V.mAdd qx qx),V.gv (V.mAdd qw qw)] [qy,V.gv (V.mSub (0:Int) qz)])) (V.gv (V.mDot [V.gv (V.mAdd qx qx),V.gv (V.mAdd qw qw)] [qz,qy])) (V.gv (V.mDot [V.gv (V.mAdd qx qx),V.gv (V.mAdd qw qw)] [qy,qz])) (V.gv (V.mSub (4294967296:Int) (V.gv (V.mDot [V.gv (V.mAdd qx qx),V.gv (V.mAdd qz qz)] [qx,qz])))) (V.gv (V.mDot [V.gv (V.mAdd qy qy),V.gv (V.mAdd qw qw)] [qz,V.gv (V.mSub (0:Int) qx)])) (V.gv (V.mDot [V.gv (V.mAdd qx qx),V.gv (V.mAdd qw qw)] [qz,V.gv (V.mSub (0:Int) qy)])) (V.gv (V.mDot [V.gv (V.mAdd qy qy),V.gv (V.mAdd qw qw)] [qz,qx])) (V.gv (V.mSub (4294967296:Int) (V.gv (V.mDot [V.gv (V.mAdd qx qx),V.gv (V.mAdd qy qy)] [qx,qy])))) true else if (!!V.gn (V.mSub (4294967296:Int) (V.gv (V.mDot [V.gv (V.mAdd qx qx),V.gv (V.mAdd qy qy)] [qx,qy]))) (V.gn (V.mDot [V.gv (V.mAdd qx qx),V.gv (V.mAdd qy qy)] [qx,qy]) (V.gn (V.mDot [V.gv (V.mAdd qy qy),V.gv (V.mAdd qw qw)] [qz,qx]) (V.gn (V.mDot [V.gv (V.mAdd qx qx),V.gv (V.mAdd qw qw)] [qz,V.gv (V.mSub (0:Int) qy)]) (V.gn (V.mDot [V.gv (V.mAdd qy qy),V.gv (V.mAdd qw qw)] [qz,V.gv (V.mSub (0:Int) qx)]) (V.gn (V.mSub (4294967296:Int) (V.gv (V.mDot [V.gv (V.mAdd qx qx),V.gv (V.mAdd qz qz)] [qx,qz]))) (V.gn (V.mDot [V.gv (V.mAdd qx qx),V.gv (V.mAdd qz qz)] [qx,qz]) (V.gn (V.mDot [V.gv (V.mAdd qx qx),V.gv (V.mAdd qw qw)] [qy,qz]) (V.gn (V.mDot [V.gv (V.mAdd qx qx),V.gv (V.mAdd qw qw)] [qz,qy]) (V.gn (V.mDot [V.gv (V.mAdd qx qx),V.gv (V.mAdd qw qw)] [qy,V.gv (V.mSub (0:Int) qz)]) (V.gn (V.mSub (4294967296:Int) (V.gv (V.mDot [V.gv (V.mAdd qy qy),V.gv (V.mAdd qz qz)] [qy,qz]))) (V.gn (V.mDot [V.gv (V.mAdd qy qy),V.gv (V.mAdd qz qz)] [qy,qz]) (V.gn (V.mSub (0:Int) qz) (V.gn (V.mSub (0:Int) qy) (V.gn (V.mSub (0:Int) qx) (V.gn (V.mAdd qz qz) (V.gn (V.mAdd qy qy) (V.gn (V.mAdd qx qx) (V.gn (V.mAdd qw qw) false))))))))))))))))))) = true then k0 (0:Int) (0:Int) (0:Int) (0:Int) (0:Int) (0:Int) (0:Int) (0:Int) (0:Int) (V.gn (V.mSub (4294967296:Int) (V.gv (V.mDot [V.gv (V.mAdd qx qx),V.gv (V.mAdd qy qy)] [qx,qy]))) (V.gn (V.mDot [V.gv (V.mAdd qx qx),V.gv (V.mAdd qy qy)] [qx,qy]) (V.gn (V.mDot [V.gv (V.mAdd qy qy),V.gv (V.mAdd qw qw)] [qz,qx]) (V.gn (V.mDot [V.gv (V.mAdd qx qx),V.gv (V.mAdd qw qw)] [qz,V.gv (V.mSub (0:Int) qy)]) (V.gn (V.mDot [V.gv (V.mAdd qy qy),V.gv (V.mAdd qw qw)] [qz,V.gv (V.mSub (0:Int) qx)]) (V.gn (V.mSub (4294967296:Int) (V.gv (V.mDot [V.gv (V.mAdd qx qx),V.gv (V.mAdd qz qz)] [qx,qz]))) (V.gn (V.mDot [V.gv (V.mAdd qx qx),V.gv (V.mAdd qz qz)] [qx,qz]) (V.gn (V.mDot [V.gv (V.mAdd qx qx),V.gv (V.mAdd qw qw)] [qy,qz]) (V.gn (V.mDot [V.gv (V.mAdd qx qx),V.gv (V.mAdd qw qw)] [qz,qy]) (V.gn (V.mDot [V.gv (V.mAdd qx qx),V.gv (V.mAdd qw qw)] [qy,V.gv (V.mSub (0:Int) qz)]) (V.gn (V.mSub (4294967296:Int) (V.gv (V.mDot [V.gv (V.mAdd qy qy),V.gv (V.mAdd qz qz)] [qy,qz]))) (V.gn (V.mDot [V.gv (V.mAdd qy qy),V.gv (V.mAdd qz qz)] [qy,qz]) (V.gn (V.mSub (0:Int) qz) (V.gn (V.mSub (0:Int) qy) (V.gn (V.mSub (0:Int) qx) (V.gn (V.mAdd qz qz) (V.gn (V.mAdd qy qy) (V.gn (V.mAdd qx qx) (V.gn (V.mAdd qw qw) false))))))))))))))))))) else k0 (V.gv (V.mSub (4294967296:Int) (V.gv (V.mDot [V.gv (V.mAdd qy qy),V.gv (V.mAdd qz qz)] [qy,qz])))) (V.gv (V.mDot [V.gv (V.mAdd qx qx),V.gv (V.mAdd qw qw)] [qy,V.gv (V.mSub (0:Int) qz)])) (V.gv (V.mDot [V.gv (V.mAdd qx qx),V.gv (V.mAdd qw qw)] [qz,qy])) (V.gv (V.mDot [V.gv (V.mAdd qx qx),V.gv (V.mAdd qw qw)] [qy,qz])) (V.gv (V.mSub (4294967296:Int) (V.gv (V.mDot [V.gv (V.mAdd qx qx),V.gv (V.mAdd qz qz)] [qx,qz])))) (V.gv (V.mDot [V.gv (V.mAdd qy qy),V.gv (V.mAdd qw qw)] [qz,V.gv (V.mSub (0:Int) qx)])) (V.gv (V.mDot [V.gv (V.mAdd qx qx),V.gv (V.mAdd qw qw)] [qz,V.gv (V.mSub (0:Int) qy)])) (V.gv (V.mDot [V.gv (V.mAdd qy qy),V.gv (V.mAdd qw qw)] [qz,qx])) (V.gv (V.mSub (4294967296:Int) (V.gv (V.mDot [V.gv (V.mAdd qx qx),V.gv (V.mAdd qy qy)] [qx,qy])))) (V.gn (V.mSub (4294967296:Int) (V.gv (V.mDot [V.gv (V.mAdd qx qx),V.gv (V.mAdd qy qy)] [qx,qy]))) (V.gn (V.mDot [V.gv (V.mAdd qx qx),V.gv (V.mAdd qy qy)] [qx,qy]) (V.gn (V.mDot [V.gv (V.mAdd qy qy),V.gv (V.mAdd qw qw)] [qz,qx]) (V.gn (V.mDot [V.gv (V.mAdd qx qx),V.gv (V.mAdd qw qw)] [qz,V.gv (V.mSub (0:Int) qy)]) (V.gn (V.mDot [V.gv (V.mAdd qy qy),V.gv (V.mAdd qw qw)] [qz,V.gv (V.mSub (0:Int) qx)]) (V.gn (V.mSub (4294967296:Int) (V.gv (V.mDot [V.gv (V.mAdd qx qx),V.gv (V.mAdd qz qz)] [qx,qz]))) (V.gn (V.mDot [V.gv (V.mAdd qx qx),V.gv (V.mAdd qz qz)] [qx,qz]) (V.gn (V.mDot [V.gv (V.mAdd qx qx),V.gv (V.mAdd qw qw)] [qy,qz]) (V.gn (V.mDot [V.gv (V.mAdd qx qx),V.gv (V.mAdd qw qw)] [qz,qy]) (V.gn (V.mDot [V.gv (V.mAdd qx qx),V.gv (V.mAdd qw qw)] [qy,V.gv (V.mSub (0:Int) qz)]) (V.gn (V.mSub (4294967296:Int) (V.gv (V.mDot [V.gv (V.mAdd qy qy),V.gv (V.mAdd qz qz)] [qy,qz]))) (V.gn (V.mDot [V.gv (V.mAdd qy qy),V.gv (V.mAdd qz qz)] [qy,qz]) (V.gn (V.mSub (0:Int) qz) (V.gn (V.mSub (0:Int) qy) (V.gn (V.mSub (0:Int) qx) (V.gn (V.mAdd qz qz) (V.gn (V.mAdd qy qy) (V.gn (V.mAdd qx qx) (V.gn (V.mAdd qw qw) false)))))))))))))))))))
theorem dvrows_eq {α:Type} (bad:Bool) (qw:Int) (qx:Int) (qy:Int) (qz:Int) (Q:SV → Hp → Option α):callI E look_dvwhole (exec E look_dvwhole noLps 400) 104 ([SV.ptr (nat_lit 0) (nat_lit 0),SV.agg [SV.int .i64 qw,SV.int .i64 qx,SV.int .i64 qy,SV.int .i64 qz]]) ([.cells [SV.bool bad] (nat_lit 29)]) Q = M.dvrows bad qw qx qy qz (fun (x5 x6 x7 x8 x9 x10 x11 x12 x13:Int) (x14:Bool) => Q (SV.agg [SV.int .i64 x5,SV.int .i64 x6,SV.int .i64 x7,SV.int .i64 x8,SV.int .i64 x9,SV.int .i64 x10,SV.int .i64 x11,SV.int .i64 x12,SV.int .i64 x13]) ([.cells [SV.bool x14] (nat_lit 29)])) := by kernel_rfl
def dvrows_sp:List AS := [.ptr 29 [.bool false],.val (.agg [.int .i64 0,.int .i64 0,.int .i64 0,.int .i64 0])]
theorem dvrows_v {α:Type} (bad:Bool) (qw:Int) (qx:Int) (qy:Int) (qz:Int) (k0:Int → Int → Int → Int → Int → Int → Int → Int → Int → Bool → Option α):M.dvrows bad qw qx qy qz k0 = k0 (V.m0 (V.tRows (qw,qx,qy,qz))) (V.m1 (V.tRows (qw,qx,qy,qz))) (V.m2 (V.tRows (qw,qx,qy,qz))) (V.m3 (V.tRows (qw,qx,qy,qz))) (V.m4 (V.tRows (qw,qx,qy,qz))) (V.m5 (V.tRows (qw,qx,qy,qz))) (V.m6 (V.tRows (qw,qx,qy,qz))) (V.m7 (V.tRows (qw,qx,qy,qz))) (V.m8 (V.tRows (qw,qx,qy,qz))) (V.on (V.tRows (qw,qx,qy,qz)) bad) := by
 unfold M.dvrows V.tRows
 have e:(V.gn (V.mSub (4294967296:Int) (V.gv (V.mDot [V.gv (V.mAdd qx qx),V.gv (V.mAdd qy qy)] [qx,qy]))) (V.gn (V.mDot [V.gv (V.mAdd qx qx),V.gv (V.mAdd qy qy)] [qx,qy]) (V.gn (V.mDot [V.gv (V.mAdd qy qy),V.gv (V.mAdd qw qw)] [qz,qx]) (V.gn (V.mDot [V.gv (V.mAdd qx qx),V.gv (V.mAdd qw qw)] [qz,V.gv (V.mSub (0:Int) qy)]) (V.gn (V.mDot [V.gv (V.mAdd qy qy),V.gv (V.mAdd qw qw)] [qz,V.gv (V.mSub (0:Int) qx)]) (V.gn (V.mSub (4294967296:Int) (V.gv (V.mDot [V.gv (V.mAdd qx qx),V.gv (V.mAdd qz qz)] [qx,qz]))) (V.gn (V.mDot [V.gv (V.mAdd qx qx),V.gv (V.mAdd qz qz)] [qx,qz]) (V.gn (V.mDot [V.gv (V.mAdd qx qx),V.gv (V.mAdd qw qw)] [qy,qz]) (V.gn (V.mDot [V.gv (V.mAdd qx qx),V.gv (V.mAdd qw qw)] [qz,qy]) (V.gn (V.mDot [V.gv (V.mAdd qx qx),V.gv (V.mAdd qw qw)] [qy,V.gv (V.mSub (0:Int) qz)]) (V.gn (V.mSub (4294967296:Int) (V.gv (V.mDot [V.gv (V.mAdd qy qy),V.gv (V.mAdd qz qz)] [qy,qz]))) (V.gn (V.mDot [V.gv (V.mAdd qy qy),V.gv (V.mAdd qz qz)] [qy,qz]) (V.gn (V.mSub (0:Int) qz) (V.gn (V.mSub (0:Int) qy) (V.gn (V.mSub (0:Int) qx) (V.gn (V.mAdd qz qz) (V.gn (V.mAdd qy qy) (V.gn (V.mAdd qx qx) (V.gn (V.mAdd qw qw) (false)))))))))))))))))))) = (V.no [V.mAdd qw qw,V.mAdd qx qx,V.mAdd qy qy,V.mAdd qz qz,V.mSub 0 qx,V.mSub 0 qy,V.mSub 0 qz,V.twoD (V.dbl qy) (V.dbl qz) qy qz,V.twoD (V.dbl qx) (V.dbl qz) qx qz,V.twoD (V.dbl qx) (V.dbl qy) qx qy] || V.no [V.mSub 4294967296 (V.gv (V.twoD (V.dbl qy) (V.dbl qz) qy qz)),V.twoD (V.dbl qx) (V.dbl qw) qy (V.neg qz),V.twoD (V.dbl qx) (V.dbl qw) qz qy,V.twoD (V.dbl qx) (V.dbl qw) qy qz,V.mSub 4294967296 (V.gv (V.twoD (V.dbl qx) (V.dbl qz) qx qz)),V.twoD (V.dbl qy) (V.dbl qw) qz (V.neg qx),V.twoD (V.dbl qx) (V.dbl qw) qz (V.neg qy),V.twoD (V.dbl qy) (V.dbl qw) qz qx,V.mSub 4294967296 (V.gv (V.twoD (V.dbl qx) (V.dbl qy) qx qy))]) := by
   simp only [V.gn,no_cons,no_nil,V.twoD,V.dbl,V.neg,Bool.or_false]
   ac_rfl
 rw [e]
 simp only []
 generalize V.no [V.mAdd qw qw,V.mAdd qx qx,V.mAdd qy qy,V.mAdd qz qz,V.mSub 0 qx,V.mSub 0 qy,V.mSub 0 qz,V.twoD (V.dbl qy) (V.dbl qz) qy qz,V.twoD (V.dbl qx) (V.dbl qz) qx qz,V.twoD (V.dbl qx) (V.dbl qy) qx qy] = f
 generalize V.no _ = g
 cases bad <;> cases f <;> cases g <;> rfl
noncomputable def dvrows_h {α:Type} (ds:List D) (Q:SV → Hp → Option α):Option α :=
 dB ds fun bad ds => dI ds fun qw ds => dI ds fun qx ds => dI ds fun qy ds => dI ds fun qz ds => dE ds (Q (.agg [.int .i64 (V.m0 (V.tRows (qw,qx,qy,qz))),.int .i64 (V.m1 (V.tRows (qw,qx,qy,qz))),.int .i64 (V.m2 (V.tRows (qw,qx,qy,qz))),.int .i64 (V.m3 (V.tRows (qw,qx,qy,qz))),.int .i64 (V.m4 (V.tRows (qw,qx,qy,qz))),.int .i64 (V.m5 (V.tRows (qw,qx,qy,qz))),.int .i64 (V.m6 (V.tRows (qw,qx,qy,qz))),.int .i64 (V.m7 (V.tRows (qw,qx,qy,qz))),.int .i64 (V.m8 (V.tRows (qw,qx,qy,qz)))]) ([.cells [.bool (V.on (V.tRows (qw,qx,qy,qz)) bad)] 29]))
theorem dvrows_h_ok {α:Type}:FnOk E.P 104 (fEnt (α := α) dvrows_sp dvrows_h) :=
 fEnt_ok E (look_dvwhole_ok) (exec_sound E E_ok (look_dvwhole_ok) (noLps_ok _) 400) fun ds Q r h => by
   unfold dvrows_h at h
   obtain ⟨bad,ds,rfl,h1⟩ := dB_inv h
   obtain ⟨qw,ds,rfl,h2⟩ := dI_inv h1
   obtain ⟨qx,ds,rfl,h3⟩ := dI_inv h2
   obtain ⟨qy,ds,rfl,h4⟩ := dI_inv h3
   obtain ⟨qz,ds,rfl,h5⟩ := dI_inv h4
   obtain ⟨rfl,hE⟩ := dE_inv h5
   exact ⟨[SV.ptr (nat_lit 0) (nat_lit 0),SV.agg [SV.int .i64 qw,SV.int .i64 qx,SV.int .i64 qy,SV.int .i64 qz]],[.cells [SV.bool bad] (nat_lit 29)],fun vs => by kernel_rfl,(dvrows_eq bad qw qx qy qz Q).trans ((dvrows_v bad qw qx qy qz _).trans hE)⟩
noncomputable def look_dvrows {α:Type}:LookF α := addFn 104 (fEnt dvrows_sp dvrows_h) look_dvwhole
theorem look_dvrows_ok {α:Type}:LookOk E.P (look_dvrows (α := α)) := addFn_ok dvrows_h_ok (look_dvwhole_ok)
end
section
open Go
set_option maxRecDepth 20000
noncomputable def M.rbspeed {α:Type} (bad:Bool) (bk:Int) (ax:Int) (ay:Int) (az:Int) (tw:Int) (tx:Int) (ty:Int) (tz:Int) (px:Int) (p_y:Int) (pz:Int) (lx:Int) (ly:Int) (lz:Int) (bm:Int) (ix:Int) (iy:Int) (iz:Int) (sk:Int) (sr:Int) (hx:Int) (hy:Int) (hz:Int) (pts:L3) (bg:Int) (mk:Int) (fr:Int) (fast:Bool) (qt:Int) (asl:Bool) (bout:Bool) (k0:Int → Int → Int → Bool → Option α):Option α := if (!cEq bk (2:Int)) = true then k0 (0:Int) (0:Int) (0:Int) bad else k0 (V.gv (V.mDiv px bm)) (V.gv (V.mDiv p_y bm)) (V.gv (V.mDiv pz bm)) (V.gn (V.mDiv pz bm) (V.gn (V.mDiv p_y bm) (V.gn (V.mDiv px bm) bad)))
theorem rbspeed_eq {α:Type} (bad:Bool) (bk:Int) (ax:Int) (ay:Int) (az:Int) (tw:Int) (tx:Int) (ty:Int) (tz:Int) (px:Int) (p_y:Int) (pz:Int) (lx:Int) (ly:Int) (lz:Int) (bm:Int) (ix:Int) (iy:Int) (iz:Int) (sk:Int) (sr:Int) (hx:Int) (hy:Int) (hz:Int) (pts:L3) (bg:Int) (mk:Int) (fr:Int) (fast:Bool) (qt:Int) (asl:Bool) (bout:Bool) (v0:Value) (Q:SV → Hp → Option α):callI E look_dvrows (exec E look_dvrows noLps 400) 72 ([SV.ptr (nat_lit 0) (nat_lit 0),
 SV.agg
   [SV.int .i64 bk,SV.int .i64 ax,SV.int .i64 ay,SV.int .i64 az,SV.int .i64 tw,SV.int .i64 tx,SV.int .i64 ty,SV.int .i64 tz,SV.int .i64 px,SV.int .i64 p_y,SV.int .i64 pz,SV.int .i64 lx,SV.int .i64 ly,SV.int .i64 lz,SV.int .i64 bm,SV.int .i64 ix,SV.int .i64 iy,SV.int .i64 iz,SV.int .i64 sk,SV.int .i64 sr,SV.int .i64 hx,
     SV.int .i64 hy,SV.int .i64 hz,SV.ros v0 kP pts,SV.int .i64 bg,SV.int .i64 mk,SV.int .i64 fr,SV.bool fast,SV.int .i64 qt,SV.bool asl,SV.bool bout]]) ([.cells [SV.bool bad] (nat_lit 29)]) Q = M.rbspeed bad bk ax ay az tw tx ty tz px p_y pz lx ly lz bm ix iy iz sk sr hx hy hz pts bg mk fr fast qt asl bout (fun (x1 x2 x3:Int) (x4:Bool) => Q (SV.agg [SV.int .i64 x1,SV.int .i64 x2,SV.int .i64 x3]) ([.cells [SV.bool x4] (nat_lit 29)])) := by kernel_rfl
def rbspeed_sp:List AS := [.ptr 29 [.bool false],.st [.leaf (.int .i64 0),.leaf (.int .i64 0),.leaf (.int .i64 0),.leaf (.int .i64 0),.leaf (.int .i64 0),.leaf (.int .i64 0),.leaf (.int .i64 0),.leaf (.int .i64 0),.leaf (.int .i64 0),.leaf (.int .i64 0),.leaf (.int .i64 0),.leaf (.int .i64 0),.leaf (.int .i64 0),.leaf (.int .i64 0),.leaf (.int .i64 0),.leaf (.int .i64 0),.leaf (.int .i64 0),.leaf (.int .i64 0),.leaf (.int .i64 0),.leaf (.int .i64 0),.leaf (.int .i64 0),.leaf (.int .i64 0),.leaf (.int .i64 0),.ro kP,.leaf (.int .i64 0),.leaf (.int .i64 0),.leaf (.int .i64 0),.leaf (.bool false),.leaf (.int .i64 0),.leaf (.bool false),.leaf (.bool false)]]
theorem rbspeed_v {α:Type} (bad:Bool) (bk:Int) (ax:Int) (ay:Int) (az:Int) (tw:Int) (tx:Int) (ty:Int) (tz:Int) (px:Int) (p_y:Int) (pz:Int) (lx:Int) (ly:Int) (lz:Int) (bm:Int) (ix:Int) (iy:Int) (iz:Int) (sk:Int) (sr:Int) (hx:Int) (hy:Int) (hz:Int) (pts:List (Int × Int × Int)) (bg:Int) (mk:Int) (fr:Int) (fast:Bool) (qt:Int) (asl:Bool) (bout:Bool) (k0:Int → Int → Int → Bool → Option α):M.rbspeed bad bk ax ay az tw tx ty tz px p_y pz lx ly lz bm ix iy iz sk sr hx hy hz pts bg mk fr fast qt asl bout k0 = k0 (V.bSpd bk px p_y pz bm).1 (V.bSpd bk px p_y pz bm).2.1 (V.bSpd bk px p_y pz bm).2.2 (V.bSpdB bk px p_y pz bm bad) := by
 unfold M.rbspeed V.bSpd V.bSpdB
 cases cEq bk 2 <;> rfl
noncomputable def rbspeed_h {α:Type} (ds:List D) (Q:SV → Hp → Option α):Option α :=
 dB ds fun bad ds => dI ds fun bk ds => dI ds fun ax ds => dI ds fun ay ds => dI ds fun az ds => dI ds fun tw ds => dI ds fun tx ds => dI ds fun ty ds => dI ds fun tz ds => dI ds fun px ds => dI ds fun p_y ds => dI ds fun pz ds => dI ds fun lx ds => dI ds fun ly ds => dI ds fun lz ds => dI ds fun bm ds => dI ds fun ix ds => dI ds fun iy ds => dI ds fun iz ds => dI ds fun sk ds => dI ds fun sr ds => dI ds fun hx ds => dI ds fun hy ds => dI ds fun hz ds => dL kP ds fun pts ds => dI ds fun bg ds => dI ds fun mk ds => dI ds fun fr ds => dB ds fun fast ds => dI ds fun qt ds => dB ds fun asl ds => dB ds fun bout ds => dE ds (Q (.agg [.int .i64 (V.bSpd bk px p_y pz bm).1,.int .i64 (V.bSpd bk px p_y pz bm).2.1,.int .i64 (V.bSpd bk px p_y pz bm).2.2]) ([.cells [.bool (V.bSpdB bk px p_y pz bm bad)] 29]))
theorem rbspeed_h_ok {α:Type}:FnOk E.P 72 (fEnt (α := α) rbspeed_sp rbspeed_h) :=
 fEntR_ok E (look_dvrows_ok) (exec_sound E E_ok (look_dvrows_ok) (noLps_ok _) 400) fun ds Q r h => by
   unfold rbspeed_h at h
   obtain ⟨bad,ds,rfl,h1⟩ := dB_inv h
   obtain ⟨bk,ds,rfl,h2⟩ := dI_inv h1
   obtain ⟨ax,ds,rfl,h3⟩ := dI_inv h2
   obtain ⟨ay,ds,rfl,h4⟩ := dI_inv h3
   obtain ⟨az,ds,rfl,h5⟩ := dI_inv h4
   obtain ⟨tw,ds,rfl,h6⟩ := dI_inv h5
   obtain ⟨tx,ds,rfl,h7⟩ := dI_inv h6
   obtain ⟨ty,ds,rfl,h8⟩ := dI_inv h7
   obtain ⟨tz,ds,rfl,h9⟩ := dI_inv h8
   obtain ⟨px,ds,rfl,h10⟩ := dI_inv h9
   obtain ⟨p_y,ds,rfl,h11⟩ := dI_inv h10
   obtain ⟨pz,ds,rfl,h12⟩ := dI_inv h11
   obtain ⟨lx,ds,rfl,h13⟩ := dI_inv h12
   obtain ⟨ly,ds,rfl,h14⟩ := dI_inv h13
   obtain ⟨lz,ds,rfl,h15⟩ := dI_inv h14
   obtain ⟨bm,ds,rfl,h16⟩ := dI_inv h15
   obtain ⟨ix,ds,rfl,h17⟩ := dI_inv h16
   obtain ⟨iy,ds,rfl,h18⟩ := dI_inv h17
   obtain ⟨iz,ds,rfl,h19⟩ := dI_inv h18
   obtain ⟨sk,ds,rfl,h20⟩ := dI_inv h19
   obtain ⟨sr,ds,rfl,h21⟩ := dI_inv h20
   obtain ⟨hx,ds,rfl,h22⟩ := dI_inv h21
   obtain ⟨hy,ds,rfl,h23⟩ := dI_inv h22
   obtain ⟨hz,ds,rfl,h24⟩ := dI_inv h23
   obtain ⟨pts,ds,rfl,h25⟩ := dL_inv h24
   obtain ⟨bg,ds,rfl,h26⟩ := dI_inv h25
   obtain ⟨mk,ds,rfl,h27⟩ := dI_inv h26
   obtain ⟨fr,ds,rfl,h28⟩ := dI_inv h27
   obtain ⟨fast,ds,rfl,h29⟩ := dB_inv h28
   obtain ⟨qt,ds,rfl,h30⟩ := dI_inv h29
   obtain ⟨asl,ds,rfl,h31⟩ := dB_inv h30
   obtain ⟨bout,ds,rfl,h32⟩ := dB_inv h31
   obtain ⟨rfl,hE⟩ := dE_inv h32
   exact ⟨_,_,hE,fun vs => ⟨_,_,by kernel_rfl,(rbspeed_eq bad bk ax ay az tw tx ty tz px p_y pz lx ly lz bm ix iy iz sk sr hx hy hz pts bg mk fr fast qt asl bout ((cellsV (vs.tail.headD undef)).tail.tail.tail.tail.tail.tail.tail.tail.tail.tail.tail.tail.tail.tail.tail.tail.tail.tail.tail.tail.tail.tail.tail.headD undef) _).trans (rbspeed_v bad bk ax ay az tw tx ty tz px p_y pz lx ly lz bm ix iy iz sk sr hx hy hz pts bg mk fr fast qt asl bout _)⟩⟩
noncomputable def look_rbspeed {α:Type}:LookF α := addFn 72 (fEnt rbspeed_sp rbspeed_h) look_dvrows
theorem look_rbspeed_ok {α:Type}:LookOk E.P (look_rbspeed (α := α)) := addFn_ok rbspeed_h_ok (look_dvrows_ok)
noncomputable def M.rbyield {α:Type} (bad:Bool) (bk:Int) (ax:Int) (ay:Int) (az:Int) (tw:Int) (tx:Int) (ty:Int) (tz:Int) (px:Int) (p_y:Int) (pz:Int) (lx:Int) (ly:Int) (lz:Int) (bm:Int) (ix:Int) (iy:Int) (iz:Int) (sk:Int) (sr:Int) (hx:Int) (hy:Int) (hz:Int) (pts:L3) (bg:Int) (mk:Int) (fr:Int) (fast:Bool) (qt:Int) (asl:Bool) (bout:Bool) (vx:Int) (vy:Int) (vz:Int) (k0:Int → Int → Int → Bool → Option α):Option α := if (!cEq bk (2:Int)) = true then k0 (0:Int) (0:Int) (0:Int) bad else k0 (V.x3 (V.tTurn (V.q9 (V.tRows (tw,tx,ty,tz))) (V.gv (V.mDiv (V.x3 (V.tBack (V.q9 (V.tRows (tw,tx,ty,tz))) (vx,vy,vz))) ix),V.gv (V.mDiv (V.y3 (V.tBack (V.q9 (V.tRows (tw,tx,ty,tz))) (vx,vy,vz))) iy),V.gv (V.mDiv (V.z3 (V.tBack (V.q9 (V.tRows (tw,tx,ty,tz))) (vx,vy,vz))) iz)))) (V.y3 (V.tTurn (V.q9 (V.tRows (tw,tx,ty,tz))) (V.gv (V.mDiv (V.x3 (V.tBack (V.q9 (V.tRows (tw,tx,ty,tz))) (vx,vy,vz))) ix),V.gv (V.mDiv (V.y3 (V.tBack (V.q9 (V.tRows (tw,tx,ty,tz))) (vx,vy,vz))) iy),V.gv (V.mDiv (V.z3 (V.tBack (V.q9 (V.tRows (tw,tx,ty,tz))) (vx,vy,vz))) iz)))) (V.z3 (V.tTurn (V.q9 (V.tRows (tw,tx,ty,tz))) (V.gv (V.mDiv (V.x3 (V.tBack (V.q9 (V.tRows (tw,tx,ty,tz))) (vx,vy,vz))) ix),V.gv (V.mDiv (V.y3 (V.tBack (V.q9 (V.tRows (tw,tx,ty,tz))) (vx,vy,vz))) iy),V.gv (V.mDiv (V.z3 (V.tBack (V.q9 (V.tRows (tw,tx,ty,tz))) (vx,vy,vz))) iz)))) (V.on (V.tTurn (V.q9 (V.tRows (tw,tx,ty,tz))) (V.gv (V.mDiv (V.x3 (V.tBack (V.q9 (V.tRows (tw,tx,ty,tz))) (vx,vy,vz))) ix),V.gv (V.mDiv (V.y3 (V.tBack (V.q9 (V.tRows (tw,tx,ty,tz))) (vx,vy,vz))) iy),V.gv (V.mDiv (V.z3 (V.tBack (V.q9 (V.tRows (tw,tx,ty,tz))) (vx,vy,vz))) iz))) (V.gn (V.mDiv (V.z3 (V.tBack (V.q9 (V.tRows (tw,tx,ty,tz))) (vx,vy,vz))) iz) (V.gn (V.mDiv (V.y3 (V.tBack (V.q9 (V.tRows (tw,tx,ty,tz))) (vx,vy,vz))) iy) (V.gn (V.mDiv (V.x3 (V.tBack (V.q9 (V.tRows (tw,tx,ty,tz))) (vx,vy,vz))) ix) (V.on (V.tBack (V.q9 (V.tRows (tw,tx,ty,tz))) (vx,vy,vz)) (V.on (V.tRows (tw,tx,ty,tz)) bad))))))
theorem rbyield_eq {α:Type} (bad:Bool) (bk:Int) (ax:Int) (ay:Int) (az:Int) (tw:Int) (tx:Int) (ty:Int) (tz:Int) (px:Int) (p_y:Int) (pz:Int) (lx:Int) (ly:Int) (lz:Int) (bm:Int) (ix:Int) (iy:Int) (iz:Int) (sk:Int) (sr:Int) (hx:Int) (hy:Int) (hz:Int) (pts:L3) (bg:Int) (mk:Int) (fr:Int) (fast:Bool) (qt:Int) (asl:Bool) (bout:Bool) (vx:Int) (vy:Int) (vz:Int) (v5:Value) (Q:SV → Hp → Option α):callI E look_rbspeed (exec E look_rbspeed noLps 400) 71 ([SV.ptr (nat_lit 0) (nat_lit 0),
 SV.agg
   [SV.int .i64 bk,SV.int .i64 ax,SV.int .i64 ay,SV.int .i64 az,SV.int .i64 tw,SV.int .i64 tx,SV.int .i64 ty,SV.int .i64 tz,SV.int .i64 px,SV.int .i64 p_y,SV.int .i64 pz,SV.int .i64 lx,SV.int .i64 ly,SV.int .i64 lz,SV.int .i64 bm,SV.int .i64 ix,SV.int .i64 iy,SV.int .i64 iz,SV.int .i64 sk,SV.int .i64 sr,SV.int .i64 hx,
     SV.int .i64 hy,SV.int .i64 hz,SV.ros v5 kP pts,SV.int .i64 bg,SV.int .i64 mk,SV.int .i64 fr,SV.bool fast,SV.int .i64 qt,SV.bool asl,SV.bool bout],
 SV.agg [SV.int .i64 vx,SV.int .i64 vy,SV.int .i64 vz]]) ([.cells [SV.bool bad] (nat_lit 29)]) Q = M.rbyield bad bk ax ay az tw tx ty tz px p_y pz lx ly lz bm ix iy iz sk sr hx hy hz pts bg mk fr fast qt asl bout vx vy vz (fun (x6 x7 x8:Int) (x9:Bool) => Q (SV.agg [SV.int .i64 x6,SV.int .i64 x7,SV.int .i64 x8]) ([.cells [SV.bool x9] (nat_lit 29)])) := by kernel_rfl
def rbyield_sp:List AS := [.ptr 29 [.bool false],.st [.leaf (.int .i64 0),.leaf (.int .i64 0),.leaf (.int .i64 0),.leaf (.int .i64 0),.leaf (.int .i64 0),.leaf (.int .i64 0),.leaf (.int .i64 0),.leaf (.int .i64 0),.leaf (.int .i64 0),.leaf (.int .i64 0),.leaf (.int .i64 0),.leaf (.int .i64 0),.leaf (.int .i64 0),.leaf (.int .i64 0),.leaf (.int .i64 0),.leaf (.int .i64 0),.leaf (.int .i64 0),.leaf (.int .i64 0),.leaf (.int .i64 0),.leaf (.int .i64 0),.leaf (.int .i64 0),.leaf (.int .i64 0),.leaf (.int .i64 0),.ro kP,.leaf (.int .i64 0),.leaf (.int .i64 0),.leaf (.int .i64 0),.leaf (.bool false),.leaf (.int .i64 0),.leaf (.bool false),.leaf (.bool false)],.val (.agg [.int .i64 0,.int .i64 0,.int .i64 0])]
theorem rbyield_v {α:Type} (bad:Bool) (bk:Int) (ax:Int) (ay:Int) (az:Int) (tw:Int) (tx:Int) (ty:Int) (tz:Int) (px:Int) (p_y:Int) (pz:Int) (lx:Int) (ly:Int) (lz:Int) (bm:Int) (ix:Int) (iy:Int) (iz:Int) (sk:Int) (sr:Int) (hx:Int) (hy:Int) (hz:Int) (pts:List (Int × Int × Int)) (bg:Int) (mk:Int) (fr:Int) (fast:Bool) (qt:Int) (asl:Bool) (bout:Bool) (vx:Int) (vy:Int) (vz:Int) (k0:Int → Int → Int → Bool → Option α):M.rbyield bad bk ax ay az tw tx ty tz px p_y pz lx ly lz bm ix iy iz sk sr hx hy hz pts bg mk fr fast qt asl bout vx vy vz k0 = k0 (V.bYld bk tw tx ty tz ix iy iz vx vy vz).1 (V.bYld bk tw tx ty tz ix iy iz vx vy vz).2.1 (V.bYld bk tw tx ty tz ix iy iz vx vy vz).2.2 (V.bYldB bk tw tx ty tz ix iy iz vx vy vz bad) := by
 unfold M.rbyield V.bYld V.bYldB
 cases cEq bk 2 <;> rfl
noncomputable def rbyield_h {α:Type} (ds:List D) (Q:SV → Hp → Option α):Option α :=
 dB ds fun bad ds => dI ds fun bk ds => dI ds fun ax ds => dI ds fun ay ds => dI ds fun az ds => dI ds fun tw ds => dI ds fun tx ds => dI ds fun ty ds => dI ds fun tz ds => dI ds fun px ds => dI ds fun p_y ds => dI ds fun pz ds => dI ds fun lx ds => dI ds fun ly ds => dI ds fun lz ds => dI ds fun bm ds => dI ds fun ix ds => dI ds fun iy ds => dI ds fun iz ds => dI ds fun sk ds => dI ds fun sr ds => dI ds fun hx ds => dI ds fun hy ds => dI ds fun hz ds => dL kP ds fun pts ds => dI ds fun bg ds => dI ds fun mk ds => dI ds fun fr ds => dB ds fun fast ds => dI ds fun qt ds => dB ds fun asl ds => dB ds fun bout ds => dI ds fun vx ds => dI ds fun vy ds => dI ds fun vz ds => dE ds (Q (.agg [.int .i64 (V.bYld bk tw tx ty tz ix iy iz vx vy vz).1,.int .i64 (V.bYld bk tw tx ty tz ix iy iz vx vy vz).2.1,.int .i64 (V.bYld bk tw tx ty tz ix iy iz vx vy vz).2.2]) ([.cells [.bool (V.bYldB bk tw tx ty tz ix iy iz vx vy vz bad)] 29]))
theorem rbyield_h_ok {α:Type}:FnOk E.P 71 (fEnt (α := α) rbyield_sp rbyield_h) :=
 fEntR_ok E (look_rbspeed_ok) (exec_sound E E_ok (look_rbspeed_ok) (noLps_ok _) 400) fun ds Q r h => by
   unfold rbyield_h at h
   obtain ⟨bad,ds,rfl,h1⟩ := dB_inv h
   obtain ⟨bk,ds,rfl,h2⟩ := dI_inv h1
   obtain ⟨ax,ds,rfl,h3⟩ := dI_inv h2
   obtain ⟨ay,ds,rfl,h4⟩ := dI_inv h3
   obtain ⟨az,ds,rfl,h5⟩ := dI_inv h4
   obtain ⟨tw,ds,rfl,h6⟩ := dI_inv h5
   obtain ⟨tx,ds,rfl,h7⟩ := dI_inv h6
   obtain ⟨ty,ds,rfl,h8⟩ := dI_inv h7
   obtain ⟨tz,ds,rfl,h9⟩ := dI_inv h8
   obtain ⟨px,ds,rfl,h10⟩ := dI_inv h9
   obtain ⟨p_y,ds,rfl,h11⟩ := dI_inv h10
   obtain ⟨pz,ds,rfl,h12⟩ := dI_inv h11
   obtain ⟨lx,ds,rfl,h13⟩ := dI_inv h12
   obtain ⟨ly,ds,rfl,h14⟩ := dI_inv h13
   obtain ⟨lz,ds,rfl,h15⟩ := dI_inv h14
   obtain ⟨bm,ds,rfl,h16⟩ := dI_inv h15
   obtain ⟨ix,ds,rfl,h17⟩ := dI_inv h16
   obtain ⟨iy,ds,rfl,h18⟩ := dI_inv h17
   obtain ⟨iz,ds,rfl,h19⟩ := dI_inv h18
   obtain ⟨sk,ds,rfl,h20⟩ := dI_inv h19
   obtain ⟨sr,ds,rfl,h21⟩ := dI_inv h20
   obtain ⟨hx,ds,rfl,h22⟩ := dI_inv h21
   obtain ⟨hy,ds,rfl,h23⟩ := dI_inv h22
   obtain ⟨hz,ds,rfl,h24⟩ := dI_inv h23
   obtain ⟨pts,ds,rfl,h25⟩ := dL_inv h24
   obtain ⟨bg,ds,rfl,h26⟩ := dI_inv h25
   obtain ⟨mk,ds,rfl,h27⟩ := dI_inv h26
   obtain ⟨fr,ds,rfl,h28⟩ := dI_inv h27
   obtain ⟨fast,ds,rfl,h29⟩ := dB_inv h28
   obtain ⟨qt,ds,rfl,h30⟩ := dI_inv h29
   obtain ⟨asl,ds,rfl,h31⟩ := dB_inv h30
   obtain ⟨bout,ds,rfl,h32⟩ := dB_inv h31
   obtain ⟨vx,ds,rfl,h33⟩ := dI_inv h32
   obtain ⟨vy,ds,rfl,h34⟩ := dI_inv h33
   obtain ⟨vz,ds,rfl,h35⟩ := dI_inv h34
   obtain ⟨rfl,hE⟩ := dE_inv h35
   exact ⟨_,_,hE,fun vs => ⟨_,_,by kernel_rfl,(rbyield_eq bad bk ax ay az tw tx ty tz px p_y pz lx ly lz bm ix iy iz sk sr hx hy hz pts bg mk fr fast qt asl bout vx vy vz ((cellsV (vs.tail.headD undef)).tail.tail.tail.tail.tail.tail.tail.tail.tail.tail.tail.tail.tail.tail.tail.tail.tail.tail.tail.tail.tail.tail.tail.headD undef) _).trans (rbyield_v bad bk ax ay az tw tx ty tz px p_y pz lx ly lz bm ix iy iz sk sr hx hy hz pts bg mk fr fast qt asl bout vx vy vz _)⟩⟩
noncomputable def look_rbyield {α:Type}:LookF α := addFn 71 (fEnt rbyield_sp rbyield_h) look_rbspeed
theorem look_rbyield_ok {α:Type}:LookOk E.P (look_rbyield (α := α)) := addFn_ok rbyield_h_ok (look_rbspeed_ok)
noncomputable def M.rbspin {α:Type} (bad:Bool) (bk:Int) (ax:Int) (ay:Int) (az:Int) (tw:Int) (tx:Int) (ty:Int) (tz:Int) (px:Int) (p_y:Int) (pz:Int) (lx:Int) (ly:Int) (lz:Int) (bm:Int) (ix:Int) (iy:Int) (iz:Int) (sk:Int) (sr:Int) (hx:Int) (hy:Int) (hz:Int) (pts:L3) (bg:Int) (mk:Int) (fr:Int) (fast:Bool) (qt:Int) (asl:Bool) (bout:Bool) (k0:Int → Int → Int → Bool → Option α):Option α := k0 (Prod.fst (V.bYld bk tw tx ty tz ix iy iz lx ly lz)) (Prod.fst (Prod.snd (V.bYld bk tw tx ty tz ix iy iz lx ly lz))) (Prod.snd (Prod.snd (V.bYld bk tw tx ty tz ix iy iz lx ly lz))) (V.bYldB bk tw tx ty tz ix iy iz lx ly lz bad)
theorem rbspin_eq {α:Type} (bad:Bool) (bk:Int) (ax:Int) (ay:Int) (az:Int) (tw:Int) (tx:Int) (ty:Int) (tz:Int) (px:Int) (p_y:Int) (pz:Int) (lx:Int) (ly:Int) (lz:Int) (bm:Int) (ix:Int) (iy:Int) (iz:Int) (sk:Int) (sr:Int) (hx:Int) (hy:Int) (hz:Int) (pts:L3) (bg:Int) (mk:Int) (fr:Int) (fast:Bool) (qt:Int) (asl:Bool) (bout:Bool) (v10:Value) (Q:SV → Hp → Option α):callI E look_rbyield (exec E look_rbyield noLps 400) 33 ([SV.ptr (nat_lit 0) (nat_lit 0),
 SV.agg
   [SV.int .i64 bk,SV.int .i64 ax,SV.int .i64 ay,SV.int .i64 az,SV.int .i64 tw,SV.int .i64 tx,SV.int .i64 ty,SV.int .i64 tz,SV.int .i64 px,SV.int .i64 p_y,SV.int .i64 pz,SV.int .i64 lx,SV.int .i64 ly,SV.int .i64 lz,SV.int .i64 bm,SV.int .i64 ix,SV.int .i64 iy,SV.int .i64 iz,SV.int .i64 sk,SV.int .i64 sr,SV.int .i64 hx,
     SV.int .i64 hy,SV.int .i64 hz,SV.ros v10 kP pts,SV.int .i64 bg,SV.int .i64 mk,SV.int .i64 fr,SV.bool fast,SV.int .i64 qt,SV.bool asl,SV.bool bout]]) ([.cells [SV.bool bad] (nat_lit 29)]) Q = M.rbspin bad bk ax ay az tw tx ty tz px p_y pz lx ly lz bm ix iy iz sk sr hx hy hz pts bg mk fr fast qt asl bout (fun (x11 x12 x13:Int) (x14:Bool) => Q (SV.agg [SV.int .i64 x11,SV.int .i64 x12,SV.int .i64 x13]) ([.cells [SV.bool x14] (nat_lit 29)])) := by kernel_rfl
def rbspin_sp:List AS := [.ptr 29 [.bool false],.st [.leaf (.int .i64 0),.leaf (.int .i64 0),.leaf (.int .i64 0),.leaf (.int .i64 0),.leaf (.int .i64 0),.leaf (.int .i64 0),.leaf (.int .i64 0),.leaf (.int .i64 0),.leaf (.int .i64 0),.leaf (.int .i64 0),.leaf (.int .i64 0),.leaf (.int .i64 0),.leaf (.int .i64 0),.leaf (.int .i64 0),.leaf (.int .i64 0),.leaf (.int .i64 0),.leaf (.int .i64 0),.leaf (.int .i64 0),.leaf (.int .i64 0),.leaf (.int .i64 0),.leaf (.int .i64 0),.leaf (.int .i64 0),.leaf (.int .i64 0),.ro kP,.leaf (.int .i64 0),.leaf (.int .i64 0),.leaf (.int .i64 0),.leaf (.bool false),.leaf (.int .i64 0),.leaf (.bool false),.leaf (.bool false)]]
theorem rbspin_v {α:Type} (bad:Bool) (bk:Int) (ax:Int) (ay:Int) (az:Int) (tw:Int) (tx:Int) (ty:Int) (tz:Int) (px:Int) (p_y:Int) (pz:Int) (lx:Int) (ly:Int) (lz:Int) (bm:Int) (ix:Int) (iy:Int) (iz:Int) (sk:Int) (sr:Int) (hx:Int) (hy:Int) (hz:Int) (pts:List (Int × Int × Int)) (bg:Int) (mk:Int) (fr:Int) (fast:Bool) (qt:Int) (asl:Bool) (bout:Bool) (k0:Int → Int → Int → Bool → Option α):M.rbspin bad bk ax ay az tw tx ty tz px p_y pz lx ly lz bm ix iy iz sk sr hx hy hz pts bg mk fr fast qt asl bout k0 = k0 (V.bYld bk tw tx ty tz ix iy iz lx ly lz).1 (V.bYld bk tw tx ty tz ix iy iz lx ly lz).2.1 (V.bYld bk tw tx ty tz ix iy iz lx ly lz).2.2 (V.bYldB bk tw tx ty tz ix iy iz lx ly lz bad) := by
 unfold M.rbspin; rfl
noncomputable def rbspin_h {α:Type} (ds:List D) (Q:SV → Hp → Option α):Option α :=
 dB ds fun bad ds => dI ds fun bk ds => dI ds fun ax ds => dI ds fun ay ds => dI ds fun az ds => dI ds fun tw ds => dI ds fun tx ds => dI ds fun ty ds => dI ds fun tz ds => dI ds fun px ds => dI ds fun p_y ds => dI ds fun pz ds => dI ds fun lx ds => dI ds fun ly ds => dI ds fun lz ds => dI ds fun bm ds => dI ds fun ix ds => dI ds fun iy ds => dI ds fun iz ds => dI ds fun sk ds => dI ds fun sr ds => dI ds fun hx ds => dI ds fun hy ds => dI ds fun hz ds => dL kP ds fun pts ds => dI ds fun bg ds => dI ds fun mk ds => dI ds fun fr ds => dB ds fun fast ds => dI ds fun qt ds => dB ds fun asl ds => dB ds fun bout ds => dE ds (Q (.agg [.int .i64 (V.bYld bk tw tx ty tz ix iy iz lx ly lz).1,.int .i64 (V.bYld bk tw tx ty tz ix iy iz lx ly lz).2.1,.int .i64 (V.bYld bk tw tx ty tz ix iy iz lx ly lz).2.2]) ([.cells [.bool (V.bYldB bk tw tx ty tz ix iy iz lx ly lz bad)] 29]))
theorem rbspin_h_ok {α:Type}:FnOk E.P 33 (fEnt (α := α) rbspin_sp rbspin_h) :=
 fEntR_ok E (look_rbyield_ok) (exec_sound E E_ok (look_rbyield_ok) (noLps_ok _) 400) fun ds Q r h => by
   unfold rbspin_h at h
   obtain ⟨bad,ds,rfl,h1⟩ := dB_inv h
   obtain ⟨bk,ds,rfl,h2⟩ := dI_inv h1
   obtain ⟨ax,ds,rfl,h3⟩ := dI_inv h2
   obtain ⟨ay,ds,rfl,h4⟩ := dI_inv h3
   obtain ⟨az,ds,rfl,h5⟩ := dI_inv h4
   obtain ⟨tw,ds,rfl,h6⟩ := dI_inv h5
   obtain ⟨tx,ds,rfl,h7⟩ := dI_inv h6
   obtain ⟨ty,ds,rfl,h8⟩ := dI_inv h7
   obtain ⟨tz,ds,rfl,h9⟩ := dI_inv h8
   obtain ⟨px,ds,rfl,h10⟩ := dI_inv h9
   obtain ⟨p_y,ds,rfl,h11⟩ := dI_inv h10
   obtain ⟨pz,ds,rfl,h12⟩ := dI_inv h11
   obtain ⟨lx,ds,rfl,h13⟩ := dI_inv h12
   obtain ⟨ly,ds,rfl,h14⟩ := dI_inv h13
   obtain ⟨lz,ds,rfl,h15⟩ := dI_inv h14
   obtain ⟨bm,ds,rfl,h16⟩ := dI_inv h15
   obtain ⟨ix,ds,rfl,h17⟩ := dI_inv h16
   obtain ⟨iy,ds,rfl,h18⟩ := dI_inv h17
   obtain ⟨iz,ds,rfl,h19⟩ := dI_inv h18
   obtain ⟨sk,ds,rfl,h20⟩ := dI_inv h19
   obtain ⟨sr,ds,rfl,h21⟩ := dI_inv h20
   obtain ⟨hx,ds,rfl,h22⟩ := dI_inv h21
   obtain ⟨hy,ds,rfl,h23⟩ := dI_inv h22
   obtain ⟨hz,ds,rfl,h24⟩ := dI_inv h23
   obtain ⟨pts,ds,rfl,h25⟩ := dL_inv h24
   obtain ⟨bg,ds,rfl,h26⟩ := dI_inv h25
   obtain ⟨mk,ds,rfl,h27⟩ := dI_inv h26
   obtain ⟨fr,ds,rfl,h28⟩ := dI_inv h27
   obtain ⟨fast,ds,rfl,h29⟩ := dB_inv h28
   obtain ⟨qt,ds,rfl,h30⟩ := dI_inv h29
   obtain ⟨asl,ds,rfl,h31⟩ := dB_inv h30
   obtain ⟨bout,ds,rfl,h32⟩ := dB_inv h31
   obtain ⟨rfl,hE⟩ := dE_inv h32
   exact ⟨_,_,hE,fun vs => ⟨_,_,by kernel_rfl,(rbspin_eq bad bk ax ay az tw tx ty tz px p_y pz lx ly lz bm ix iy iz sk sr hx hy hz pts bg mk fr fast qt asl bout ((cellsV (vs.tail.headD undef)).tail.tail.tail.tail.tail.tail.tail.tail.tail.tail.tail.tail.tail.tail.tail.tail.tail.tail.tail.tail.tail.tail.tail.headD undef) _).trans (rbspin_v bad bk ax ay az tw tx ty tz px p_y pz lx ly lz bm ix iy iz sk sr hx hy hz pts bg mk fr fast qt asl bout _)⟩⟩
noncomputable def look_rbspin {α:Type}:LookF α := addFn 33 (fEnt rbspin_sp rbspin_h) look_rbyield
theorem look_rbspin_ok {α:Type}:LookOk E.P (look_rbspin (α := α)) := addFn_ok rbspin_h_ok (look_rbyield_ok)
end
section
open Go
set_option maxRecDepth 20000
noncomputable def M.rrrate {α:Type} (bad:Bool) (ra:Int) (rb:Int) (wx:Int) (wy:Int) (wz:Int) (aax:Int) (aay:Int) (aaz:Int) (abx:Int) (aby:Int) (abz:Int) (rt:Bool) (goal:Int) (low:Int) (high:Int) (rof:Int) (rub:Int) (rsum:Int) (l:List L31) (k0:Int → Bool → Option α):Option α :=
 let s1 := V.bYldB (1:Int) (0:Int) (0:Int) (0:Int) (0:Int) (0:Int) (0:Int) (0:Int) (0:Int) (0:Int) (0:Int) bad;
let s2 := V.tCross (V.bYld (1:Int) (0:Int) (0:Int) (0:Int) (0:Int) (0:Int) (0:Int) (0:Int) (0:Int) (0:Int) (0:Int)) (abx,aby,abz);
let s3 := V.tCross (V.bYld (1:Int) (0:Int) (0:Int) (0:Int) (0:Int) (0:Int) (0:Int) (0:Int) (0:Int) (0:Int) (0:Int)) (aax,aay,aaz);
let s4 := V.tAdd (V.bSpd (1:Int) (0:Int) (0:Int) (0:Int) (0:Int)) (V.q3 s3);
let s5 := V.tAdd (V.bSpd (1:Int) (0:Int) (0:Int) (0:Int) (0:Int)) (V.q3 s2);
let s6 := V.tDot (wx,wy,wz) (V.q3 (V.tSub (V.bYld (1:Int) (0:Int) (0:Int) (0:Int) (0:Int) (0:Int) (0:Int) (0:Int) (0:Int) (0:Int) (0:Int)) (V.bYld (1:Int) (0:Int) (0:Int) (0:Int) (0:Int) (0:Int) (0:Int) (0:Int) (0:Int) (0:Int) (0:Int))));
let s7 := (↑(List.length l):Int);
let s8 := V.tSub (V.q3 s5) (V.q3 s4);
let s9 := V.tDot (wx,wy,wz) (V.q3 s8);
let s10 := V.on s5 (V.on s2 (V.bYldB (1:Int) (0:Int) (0:Int) (0:Int) (0:Int) (0:Int) (0:Int) (0:Int) (0:Int) (0:Int) (0:Int) (V.bSpdB (1:Int) (0:Int) (0:Int) (0:Int) (0:Int) bad)));
let s11 := List.getD l (Int.toNat ra) zBy;
let s12 := List.getD l (Int.toNat rb) zBy;
let s13 := Prod.fst s11;
let s14 := Prod.fst s12;
let s15 := Prod.snd (Prod.snd (Prod.snd (Prod.snd s11)));
let s16 := Prod.snd (Prod.snd (Prod.snd (Prod.snd s12)));
let s17 := Prod.fst s15;
let s18 := Prod.snd s16;
let s19 := Prod.fst s16;
let s20 := Prod.snd s15;
let s21 := Prod.snd s18;
let s22 := Prod.snd s20;
let s23 := Prod.fst s18;
let s24 := Prod.fst s20;
let s25 := Prod.snd s22;
let s26 := Prod.snd s21;
let s27 := Prod.fst s21;
let s28 := Prod.fst s22;
let s29 := Prod.fst s25;
let s30 := Prod.fst s26;
let s31 := Prod.snd s25;
let s32 := Prod.snd s26;
let s33 := Prod.snd s31;
let s34 := Prod.fst s32;
let s35 := Prod.snd s32;
let s36 := Prod.fst s31;
let s37 := Prod.snd s33;
let s38 := Prod.fst s33;
let s39 := Prod.snd s35;
let s40 := Prod.fst s35;
let s41 := Prod.fst s37;
let s42 := Prod.fst s39;
let s43 := Prod.snd s37;
let s44 := Prod.snd s39;
let s45 := Prod.snd s43;
let s46 := Prod.snd s44;
let s47 := Prod.fst s43;
let s48 := Prod.fst s44;
let s49 := Prod.fst s45;
let s50 := Prod.fst s46;
let s51 := Prod.snd s46;
let s52 := Prod.snd s45;
let s53 := Prod.fst s51;
let s54 := Prod.fst s52;
let s55 := Prod.snd s51;
let s56 := Prod.snd s52;
let s57 := Prod.fst s55;
let s58 := Prod.fst s56;
let s59 := Prod.snd s55;
let s60 := Prod.snd s56;
let s61 := Prod.snd s60;
let s62 := Prod.snd s59;
let s63 := Prod.fst s60;
let s64 := Prod.fst s59;
let s65 := Prod.fst s62;
let s66 := Prod.fst s61;
let s67 := Prod.fst (Prod.snd s61);
let s68 := Prod.fst (Prod.snd s62);
let s69 := V.bYld s14 s19 s23 s27 s30 s64 s65 s68 s48 s50 s53;
let s70 := V.bYld s13 s17 s24 s28 s29 s63 s66 s67 s47 s49 s54;
let s71 := V.bYldB s14 s19 s23 s27 s30 s64 s65 s68 s48 s50 s53 bad;
let s72 := V.tCross s69 (abx,aby,abz);
let s73 := V.tCross s70 (aax,aay,aaz);
let s74 := V.tSub s69 (V.bYld (1:Int) (0:Int) (0:Int) (0:Int) (0:Int) (0:Int) (0:Int) (0:Int) (0:Int) (0:Int) (0:Int));
let s75 := V.tSub (V.bYld (1:Int) (0:Int) (0:Int) (0:Int) (0:Int) (0:Int) (0:Int) (0:Int) (0:Int) (0:Int) (0:Int)) s70;
let s76 := V.tDot (wx,wy,wz) (V.q3 s74);
let s77 := V.tDot (wx,wy,wz) (V.q3 s75);
let s78 := V.tAdd (V.bSpd s14 s34 s40 s42 s57) (V.q3 s72);
let s79 := V.tAdd (V.bSpd s13 s36 s38 s41 s58) (V.q3 s73);
let s80 := V.tSub (V.q3 s5) (V.q3 s79);
let s81 := V.tSub (V.q3 s78) (V.q3 s4);
let s82 := V.tDot (wx,wy,wz) (V.q3 s80);
let s83 := V.tDot (wx,wy,wz) (V.q3 s81);
let s84 := V.tSub s69 s70;
let s85 := V.tDot (wx,wy,wz) (V.q3 s84);
let s86 := V.tSub (V.q3 s78) (V.q3 s79);
let s87 := V.tDot (wx,wy,wz) (V.q3 s86);
let s88 := V.on s78 (V.on s72 (V.bYldB s14 s19 s23 s27 s30 s64 s65 s68 s48 s50 s53 (V.bSpdB s14 s34 s40 s42 s57 bad)));
if cLt ra (0:Int) = true then
 if cLt rb (0:Int) = true then
   if rt = true then k0 (V.gv s6) (V.gn s6 (V.on (V.tSub (V.bYld (1:Int) (0:Int) (0:Int) (0:Int) (0:Int) (0:Int) (0:Int) (0:Int) (0:Int) (0:Int) (0:Int)) (V.bYld (1:Int) (0:Int) (0:Int) (0:Int) (0:Int) (0:Int) (0:Int) (0:Int) (0:Int) (0:Int) (0:Int))) (V.bYldB (1:Int) (0:Int) (0:Int) (0:Int) (0:Int) (0:Int) (0:Int) (0:Int) (0:Int) (0:Int) (0:Int) s1)))
   else k0 (V.gv s9) (V.gn s9 (V.on s8 (V.on s4 (V.on s3 (V.bYldB (1:Int) (0:Int) (0:Int) (0:Int) (0:Int) (0:Int) (0:Int) (0:Int) (0:Int) (0:Int) (0:Int) (V.bSpdB (1:Int) (0:Int) (0:Int) (0:Int) (0:Int) s10))))))
 else
   if cLe s7 rb = true then
     if rt = true then k0 (V.gv s6) (V.gn s6 (V.on (V.tSub (V.bYld (1:Int) (0:Int) (0:Int) (0:Int) (0:Int) (0:Int) (0:Int) (0:Int) (0:Int) (0:Int) (0:Int)) (V.bYld (1:Int) (0:Int) (0:Int) (0:Int) (0:Int) (0:Int) (0:Int) (0:Int) (0:Int) (0:Int) (0:Int))) (V.bYldB (1:Int) (0:Int) (0:Int) (0:Int) (0:Int) (0:Int) (0:Int) (0:Int) (0:Int) (0:Int) (0:Int) s1)))
     else k0 (V.gv s9) (V.gn s9 (V.on s8 (V.on s4 (V.on s3 (V.bYldB (1:Int) (0:Int) (0:Int) (0:Int) (0:Int) (0:Int) (0:Int) (0:Int) (0:Int) (0:Int) (0:Int) (V.bSpdB (1:Int) (0:Int) (0:Int) (0:Int) (0:Int) s10))))))
   else if (0:Int) ≤ rb ∧ rb < s7 then if rt = true then k0 (V.gv s76) (V.gn s76 (V.on s74 (V.bYldB (1:Int) (0:Int) (0:Int) (0:Int) (0:Int) (0:Int) (0:Int) (0:Int) (0:Int) (0:Int) (0:Int) s71))) else k0 (V.gv s83) (V.gn s83 (V.on s81 (V.on s4 (V.on s3 (V.bYldB (1:Int) (0:Int) (0:Int) (0:Int) (0:Int) (0:Int) (0:Int) (0:Int) (0:Int) (0:Int) (0:Int) (V.bSpdB (1:Int) (0:Int) (0:Int) (0:Int) (0:Int) s88)))))) else none
else
 if cLe s7 ra = true then
   if cLt rb (0:Int) = true then
     if rt = true then k0 (V.gv s6) (V.gn s6 (V.on (V.tSub (V.bYld (1:Int) (0:Int) (0:Int) (0:Int) (0:Int) (0:Int) (0:Int) (0:Int) (0:Int) (0:Int) (0:Int)) (V.bYld (1:Int) (0:Int) (0:Int) (0:Int) (0:Int) (0:Int) (0:Int) (0:Int) (0:Int) (0:Int) (0:Int))) (V.bYldB (1:Int) (0:Int) (0:Int) (0:Int) (0:Int) (0:Int) (0:Int) (0:Int) (0:Int) (0:Int) (0:Int) s1)))
     else k0 (V.gv s9) (V.gn s9 (V.on s8 (V.on s4 (V.on s3 (V.bYldB (1:Int) (0:Int) (0:Int) (0:Int) (0:Int) (0:Int) (0:Int) (0:Int) (0:Int) (0:Int) (0:Int) (V.bSpdB (1:Int) (0:Int) (0:Int) (0:Int) (0:Int) s10))))))
   else
     if cLe s7 rb = true then
       if rt = true then k0 (V.gv s6) (V.gn s6 (V.on (V.tSub (V.bYld (1:Int) (0:Int) (0:Int) (0:Int) (0:Int) (0:Int) (0:Int) (0:Int) (0:Int) (0:Int) (0:Int)) (V.bYld (1:Int) (0:Int) (0:Int) (0:Int) (0:Int) (0:Int) (0:Int) (0:Int) (0:Int) (0:Int) (0:Int))) (V.bYldB (1:Int) (0:Int) (0:Int) (0:Int) (0:Int) (0:Int) (0:Int) (0:Int) (0:Int) (0:Int) (0:Int) s1)))
       else k0 (V.gv s9) (V.gn s9 (V.on s8 (V.on s4 (V.on s3 (V.bYldB (1:Int) (0:Int) (0:Int) (0:Int) (0:Int) (0:Int) (0:Int) (0:Int) (0:Int) (0:Int) (0:Int) (V.bSpdB (1:Int) (0:Int) (0:Int) (0:Int) (0:Int) s10))))))
     else if (0:Int) ≤ rb ∧ rb < s7 then if rt = true then k0 (V.gv s76) (V.gn s76 (V.on s74 (V.bYldB (1:Int) (0:Int) (0:Int) (0:Int) (0:Int) (0:Int) (0:Int) (0:Int) (0:Int) (0:Int) (0:Int) s71))) else k0 (V.gv s83) (V.gn s83 (V.on s81 (V.on s4 (V.on s3 (V.bYldB (1:Int) (0:Int) (0:Int) (0:Int) (0:Int) (0:Int) (0:Int) (0:Int) (0:Int) (0:Int) (0:Int) (V.bSpdB (1:Int) (0:Int) (0:Int) (0:Int) (0:Int) s88)))))) else none
 else
   if (0:Int) ≤ ra ∧ ra < s7 then
     if cLt rb (0:Int) = true then if rt = true then k0 (V.gv s77) (V.gn s77 (V.on s75 (V.bYldB s13 s17 s24 s28 s29 s63 s66 s67 s47 s49 s54 s1))) else k0 (V.gv s82) (V.gn s82 (V.on s80 (V.on s79 (V.on s73 (V.bYldB s13 s17 s24 s28 s29 s63 s66 s67 s47 s49 s54 (V.bSpdB s13 s36 s38 s41 s58 s10))))))
     else
       if cLe s7 rb = true then if rt = true then k0 (V.gv s77) (V.gn s77 (V.on s75 (V.bYldB s13 s17 s24 s28 s29 s63 s66 s67 s47 s49 s54 s1))) else k0 (V.gv s82) (V.gn s82 (V.on s80 (V.on s79 (V.on s73 (V.bYldB s13 s17 s24 s28 s29 s63 s66 s67 s47 s49 s54 (V.bSpdB s13 s36 s38 s41 s58 s10))))))
       else if (0:Int) ≤ rb ∧ rb < s7 then if rt = true then k0 (V.gv s85) (V.gn s85 (V.on s84 (V.bYldB s13 s17 s24 s28 s29 s63 s66 s67 s47 s49 s54 s71))) else k0 (V.gv s87) (V.gn s87 (V.on s86 (V.on s79 (V.on s73 (V.bYldB s13 s17 s24 s28 s29 s63 s66 s67 s47 s49 s54 (V.bSpdB s13 s36 s38 s41 s58 s88)))))) else none
   else none
theorem rrrate_eq {α:Type} (bad:Bool) (ra:Int) (rb:Int) (wx:Int) (wy:Int) (wz:Int) (aax:Int) (aay:Int) (aaz:Int) (abx:Int) (aby:Int) (abz:Int) (rt:Bool) (goal:Int) (low:Int) (high:Int) (rof:Int) (rub:Int) (rsum:Int) (l:List L31) (v0:Value) (Q:SV → Hp → Option α):callI E look_rbspin (exec E look_rbspin noLps 400) 10 ([SV.ptr (nat_lit 0) (nat_lit 0),SV.agg [SV.int .i64 ra,SV.int .i64 rb,SV.int .i64 wx,SV.int .i64 wy,SV.int .i64 wz,SV.int .i64 aax,SV.int .i64 aay,SV.int .i64 aaz,SV.int .i64 abx,SV.int .i64 aby,SV.int .i64 abz,SV.bool rt,SV.int .i64 goal,SV.int .i64 low,SV.int .i64 high,SV.int .i64 rof,SV.int .i64 rub,SV.int .i64 rsum],
 SV.ros v0
   kBy
   l]) ([.cells [SV.bool bad] (nat_lit 29)]) Q = M.rrrate bad ra rb wx wy wz aax aay aaz abx aby abz rt goal low high rof rub rsum l (fun (x89:Int) (x90:Bool) => Q (SV.int .i64 x89) ([.cells [SV.bool x90] (nat_lit 29)])) := by kernel_rfl
def rrrate_sp:List AS := [.ptr 29 [.bool false],.val (.agg [.int .i64 0,.int .i64 0,.int .i64 0,.int .i64 0,.int .i64 0,.int .i64 0,.int .i64 0,.int .i64 0,.int .i64 0,.int .i64 0,.int .i64 0,.bool false,.int .i64 0,.int .i64 0,.int .i64 0,.int .i64 0,.int .i64 0,.int .i64 0]),.ro (.st (.i .i64) [.i .i64,.i .i64,.i .i64,.i .i64,.i .i64,.i .i64,.i .i64,.i .i64,.i .i64,.i .i64,.i .i64,.i .i64,.i .i64,.i .i64,.i .i64,.i .i64,.i .i64,.i .i64,.i .i64,.i .i64,.i .i64,.i .i64,.p,.i .i64,.i .i64,.i .i64,.b,.i .i64,.b,.b])]
theorem rrrate_v {α:Type} (bad:Bool) (ra:Int) (rb:Int) (wx:Int) (wy:Int) (wz:Int) (aax:Int) (aay:Int) (aaz:Int) (abx:Int) (aby:Int) (abz:Int) (rt:Bool) (goal:Int) (low:Int) (high:Int) (rof:Int) (rub:Int) (rsum:Int) (l:List L31) (k0:Int → Bool → Option α):M.rrrate bad ra rb wx wy wz aax aay aaz abx aby abz rt goal low high rof rub rsum l k0 = k0 (V.rate (wx,wy,wz) rt (aax,aay,aaz) (abx,aby,abz) (V.bAt l ra) (V.bAt l rb)) (V.rateB (wx,wy,wz) rt (aax,aay,aaz) (abx,aby,abz) (V.bAt l ra) (V.bAt l rb) bad) := by
 have ca:∀ r:Int,(cLt r 0 = true ∧ True ∧ True) ∨ (cLt r 0 = false ∧ cLe (l.length:Int) r = true ∧ True) ∨ (cLt r 0 = false ∧ cLe (l.length:Int) r = false ∧ (0 ≤ r ∧ r < (l.length:Int))) := fun r => by
   simp only [cLt_eq,cLe_eq,decide_eq_true_eq,decide_eq_false_iff_not,and_true]; omega
 unfold M.rrrate V.rate V.rateB V.bAt V.eSp V.eSpB V.bw V.bwB V.bv V.bvB V.byl V.bylB
 rcases ca ra with ⟨a1,a2,a3⟩ | ⟨a1,a2,a3⟩ | ⟨a1,a2,a3⟩ <;> rcases ca rb with ⟨b1,b2,b3⟩ | ⟨b1,b2,b3⟩ | ⟨b1,b2,b3⟩ <;> cases rt
 all_goals
   simp only [a1,a2,a3,b1,b2,b3,and_self,if_true,Bool.false_eq_true,if_false] <;> first
     | rfl
     | (cases cEq (List.getD l ra.toNat zBy).1 2 <;> first | rfl | (cases cEq (List.getD l rb.toNat zBy).1 2 <;> rfl))
     | (cases cEq (List.getD l rb.toNat zBy).1 2 <;> rfl)
noncomputable def rrrate_h {α:Type} (ds:List D) (Q:SV → Hp → Option α):Option α :=
 dB ds fun bad ds => dI ds fun ra ds => dI ds fun rb ds => dI ds fun wx ds => dI ds fun wy ds => dI ds fun wz ds => dI ds fun aax ds => dI ds fun aay ds => dI ds fun aaz ds => dI ds fun abx ds => dI ds fun aby ds => dI ds fun abz ds => dB ds fun rt ds => dI ds fun goal ds => dI ds fun low ds => dI ds fun high ds => dI ds fun rof ds => dI ds fun rub ds => dI ds fun rsum ds => dL kBy ds fun l ds => dE ds (Q (.int .i64 (V.rate (wx,wy,wz) rt (aax,aay,aaz) (abx,aby,abz) (V.bAt l ra) (V.bAt l rb))) ([.cells [.bool (V.rateB (wx,wy,wz) rt (aax,aay,aaz) (abx,aby,abz) (V.bAt l ra) (V.bAt l rb) bad)] 29]))
theorem rrrate_h_ok {α:Type}:FnOk E.P 10 (fEnt (α := α) rrrate_sp rrrate_h) :=
 fEntR_ok E (look_rbspin_ok) (exec_sound E E_ok (look_rbspin_ok) (noLps_ok _) 400) fun ds Q r h => by
   unfold rrrate_h at h
   obtain ⟨bad,ds,rfl,h1⟩ := dB_inv h
   obtain ⟨ra,ds,rfl,h2⟩ := dI_inv h1
   obtain ⟨rb,ds,rfl,h3⟩ := dI_inv h2
   obtain ⟨wx,ds,rfl,h4⟩ := dI_inv h3
   obtain ⟨wy,ds,rfl,h5⟩ := dI_inv h4
   obtain ⟨wz,ds,rfl,h6⟩ := dI_inv h5
   obtain ⟨aax,ds,rfl,h7⟩ := dI_inv h6
   obtain ⟨aay,ds,rfl,h8⟩ := dI_inv h7
   obtain ⟨aaz,ds,rfl,h9⟩ := dI_inv h8
   obtain ⟨abx,ds,rfl,h10⟩ := dI_inv h9
   obtain ⟨aby,ds,rfl,h11⟩ := dI_inv h10
   obtain ⟨abz,ds,rfl,h12⟩ := dI_inv h11
   obtain ⟨rt,ds,rfl,h13⟩ := dB_inv h12
   obtain ⟨goal,ds,rfl,h14⟩ := dI_inv h13
   obtain ⟨low,ds,rfl,h15⟩ := dI_inv h14
   obtain ⟨high,ds,rfl,h16⟩ := dI_inv h15
   obtain ⟨rof,ds,rfl,h17⟩ := dI_inv h16
   obtain ⟨rub,ds,rfl,h18⟩ := dI_inv h17
   obtain ⟨rsum,ds,rfl,h19⟩ := dI_inv h18
   obtain ⟨l,ds,rfl,h20⟩ := dL_inv h19
   obtain ⟨rfl,hE⟩ := dE_inv h20
   exact ⟨_,_,hE,fun vs => ⟨_,_,by kernel_rfl,(rrrate_eq bad ra rb wx wy wz aax aay aaz abx aby abz rt goal low high rof rub rsum l (vs.tail.tail.headD undef) _).trans (rrrate_v bad ra rb wx wy wz aax aay aaz abx aby abz rt goal low high rof rub rsum l _)⟩⟩
noncomputable def look_rrrate {α:Type}:LookF α := addFn 10 (fEnt rrrate_sp rrrate_h) look_rbspin
theorem look_rrrate_ok {α:Type}:LookOk E.P (look_rrrate (α := α)) := addFn_ok rrrate_h_ok (look_rbspin_ok)
end
end Go.Proofs.YtfkgmidgdpfnkaaGreat.Sx
