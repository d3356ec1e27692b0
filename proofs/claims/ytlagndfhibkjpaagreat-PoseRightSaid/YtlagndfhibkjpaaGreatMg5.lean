/- Texts of the walk, merged. -/
import Derived.Test.YtlagndfhibkjpaaGreatMg4
import Derived.IntWalk
set_option linter.unusedVariables false
set_option linter.unusedSimpArgs false
namespace Go.Proofs.YtlagndfhibkjpaaGreat.Sx
section
open Go
set_option maxRecDepth 20000
def isG (n:Int):Bool := decide (n < -4611686018427387903) || decide (4611686018427387903 < n)
def _root_.Go.Proofs.YtlagndfhibkjpaaGreat.V.anyG (l:List Int):Bool := l.any isG
theorem drop_any (l:List Int) (i:Nat) (h:i < l.length):(l.drop i).any isG = (isG (l.getD i 0) || (l.drop (i + 1)).any isG) := by
 rw [List.drop_eq_getElem_cons h,List.any_cons]; simp [List.getD_eq_getElem?_getD,h]
theorem getD_toNat (l:List Int) (i:Nat):l.getD (Int.toNat (i:Int)) 0 = l.getD i 0 := by simp
noncomputable abbrev great_S1 (y1:Value) (y2:List Int) (y3 y4:Int):St := St.mk (nn 5 (some (SV.ros y1 (K.int IntKind.i64) y2) :: some (SV.int .i64 y3) :: some (SV.int .i64 y4) :: nn 10 ([]))) []
noncomputable abbrev great_S2:St := St.mk (nn 5 (some (SV.ros undef (K.int IntKind.i64) []) :: some (SV.int .i64 (0:Int)) :: some (SV.int .i64 (0:Int)) :: nn 10 ([]))) []
noncomputable def M.great_l0_step {α:Type} (x6:List Int) (x7:Int) (kn:Int → Option α) (k0:Option α) (k2:Option α) (x8:Int):Option α := if cLt x8 x7 = true then if (0:Int) ≤ x8 ∧ x8 < (↑(List.length x6):Int) then if cLt (List.getD x6 (Int.toNat x8) (0:Int)) (-4611686018427387903:Int) = true then k0 else if cLt (4611686018427387903:Int) (List.getD x6 (Int.toNat x8) (0:Int)) = true then k0 else kn (IntKind.wrap .i64 (x8 + (1:Int))) else none else k2
noncomputable def M.great_l0 {α:Type} (x6:List Int) (x7:Int) (k0:Option α) (k2:Option α):Nat → Int → Option α
 | 0,_ => none
 | n + 1,x8 => M.great_l0_step x6 x7 (M.great_l0 x6 x7 k0 k2 n) k0 k2 x8
theorem great_l0_step_eq {α:Type} (x5:Value) (x6:List Int) (x7 x8:Int) (Q:Ex → St → Option α):(loopStep E (exec E look_tells noLps 400) 71 [false,true,false,true] 0 (codeAt E.P 71 [false,true,false,true])) (great_S1 x5 x6 x7 x8) Q = M.great_l0_step x6 x7 (fun (x9:Int) => Q .normal (great_S1 x5 x6 x7 x9)) (Q .ret (St.mk (none :: none :: some (SV.bool true) :: nn 15 ([])) [])) (Q (.exit 0) (St.mk (nn 18 ([])) [])) x8 := by kernel_rfl
theorem great_l0_iter {α:Type} (x5:Value) (x6:List Int) (x7:Int) (Q:Ex → St → Option α):∀ (n:Nat) (x8:Int),iter (loopStep E (exec E look_tells noLps 400) 71 [false,true,false,true] 0 (codeAt E.P 71 [false,true,false,true])) n (great_S1 x5 x6 x7 x8) Q = M.great_l0 x6 x7 (Q .ret (St.mk (none :: none :: some (SV.bool true) :: nn 15 ([])) [])) (Q (.exit 0) (St.mk (nn 18 ([])) [])) n x8
 | 0,_ => rfl
 | n + 1,x8 => (great_l0_step_eq x5 x6 x7 x8 (iterK (loopStep E (exec E look_tells noLps 400) 71 [false,true,false,true] 0 (codeAt E.P 71 [false,true,false,true])) n Q)).trans (congrArg (fun kn => M.great_l0_step x6 x7 kn (Q .ret (St.mk (none :: none :: some (SV.bool true) :: nn 15 ([])) [])) (Q (.exit 0) (St.mk (nn 18 ([])) [])) x8) (funext fun x8 => great_l0_iter x5 x6 x7 Q n x8))
noncomputable def great_l0_go {α:Type} (ds:List D) (Q:Ex → St → Option α):Option α :=
 dV ds fun x5 ds => dL (K.int IntKind.i64) ds fun x6 ds => dI ds fun x7 ds => dI ds fun x8 ds => dE ds (M.great_l0 x6 x7 (Q .ret (St.mk (none :: none :: some (SV.bool true) :: nn 15 ([])) [])) (Q (.exit 0) (St.mk (nn 18 ([])) [])) (100 + x6.length) x8)
theorem great_l0_ok {α:Type}:LoopOk E.P 71 [false,true,false,true] 0 (lEnt (α := α) (great_S2) great_l0_go) :=
 lEnt_ok E (exec_sound E E_ok (look_tells_ok) (noLps_ok _) 400) fun ds Q r h S hS => by
   unfold great_l0_go at h
   obtain ⟨x5,ds,rfl,h1⟩ := dV_inv h
   obtain ⟨x6,ds,rfl,h2⟩ := dL_inv h1
   obtain ⟨x7,ds,rfl,h3⟩ := dI_inv h2
   obtain ⟨x8,ds,rfl,h4⟩ := dI_inv h3
   obtain ⟨rfl,hE⟩ := dE_inv h4
   have e:fillS (great_S2) [.v x5,.l (K.int IntKind.i64) x6,.i x7,.i x8] = some (great_S1 x5 x6 x7 x8) := by kernel_rfl
   rw [e] at hS
   cases hS
   exact ⟨_,(great_l0_iter x5 x6 x7 Q _ x8).trans hE⟩
noncomputable def great_l0_lps {α:Type}:LookL α := addLp 71 [false,true,false,true] 0 (lEnt (great_S2) great_l0_go) noLps
theorem great_l0_lps_ok {α:Type}:LoopsOk E.P (great_l0_lps (α := α)) := addLp_ok great_l0_ok (noLps_ok _)
noncomputable def M.great {α:Type} (l:List Int) (k0:Bool → Option α):Option α := M.great_l0 l (↑(List.length l):Int) (k0 true) (k0 false) ((100:Nat) + List.length l) (0:Int)
theorem great_eq {α:Type} (l:List Int) (v10:Value) (Q:SV → Hp → Option α):callI E look_tells (exec E look_tells great_l0_lps 400) 71 ([SV.ros v10 (K.int IntKind.i64) l]) ([]) Q = M.great l (fun (x11:Bool) => Q (SV.bool x11) ([])) := by kernel_rfl
def great_sp:List AS := [.ro (.int .i64)]
theorem great_l0_val {α:Type} (l:List Int) (hl:l.length < 9223372036854775808) (k0:Option α) (k2:Option α):∀ (fuel i:Nat),i ≤ l.length → l.length - i < fuel →
   M.great_l0 l (l.length:Int) k0 k2 fuel (i:Int) = if (l.drop i).any isG = true then k0 else k2
 | 0,i,h1,h2 => by omega
 | n + 1,i,h1,h2 => by
   unfold M.great_l0 M.great_l0_step
   by_cases hi:i < l.length
   · have ih := great_l0_val l hl k0 k2 n (i + 1) (by omega) (by omega)
     rw [IntWalk.i64_in _ (by omega:-9223372036854775808 ≤ (i:Int) + 1 ∧ (i:Int) + 1 ≤ 9223372036854775807),drop_any l i hi]
     push_cast at ih
     rw [ih]
     simp only [cLt_eq,getD_toNat,isG]
     have:(i:Int) < (l.length:Int) := by omega
     simp only [this,decide_true,if_true,Int.natCast_nonneg,and_self]
     generalize l.getD i 0 = y
     generalize (l.drop (i + 1)).any isG = z
     by_cases a:y < -4611686018427387903
     · simp [a]
     · by_cases b:4611686018427387903 < y <;> simp [a,b]
   · have : i = l.length := by omega
     subst this
     simp [cLt_eq]
theorem great_val {α:Type} (l:List Int) (hl:l.length < 9223372036854775808) (k0:Bool → Option α):M.great l k0 = k0 (V.anyG l) := by
 unfold M.great
 have := great_l0_val l hl (k0 true) (k0 false) (100 + l.length) 0 (by omega) (by omega)
 rw [Int.natCast_zero] at this
 rw [this,V.anyG,List.drop_zero]
 cases l.any isG <;> rfl
noncomputable def great_c {α:Type} (ds:List D) (Q:SV → Hp → Option α):Option α :=
 dL (.int .i64) ds fun l ds => dE ds (if l.length < 9223372036854775808 then Q (.bool (V.anyG l)) [] else none)
theorem great_c_ok {α:Type}:FnOk E.P 71 (fEnt (α := α) great_sp great_c) :=
 fEntR_ok E look_tells_ok (exec_sound E E_ok look_tells_ok great_l0_lps_ok 400) fun ds Q r h => by
   unfold great_c at h
   obtain ⟨l,ds,rfl,h1⟩ := dL_inv h
   obtain ⟨rfl,hE⟩ := dE_inv h1
   split at hE
   · rename_i hl
     exact ⟨_,_,hE,fun vs => ⟨[.ros (vs.headD undef) (.int .i64) l],[],by kernel_rfl,(great_eq l _ _).trans (great_val l hl _)⟩⟩
   · cases hE
noncomputable def look_great {α:Type}:LookF α := addFn 71 (fEnt great_sp great_c) look_tells
theorem look_great_ok {α:Type}:LookOk E.P (look_great (α := α)) := addFn_ok great_c_ok (look_tells_ok)
noncomputable abbrev rgreat_S1 (y1:Value) (y2:List Int) (y3:Int):St := St.mk (some (SV.ros y1 (K.int IntKind.i64) y2) :: none :: none :: some (SV.int .i64 y3) :: nn 18 ([])) []
noncomputable def M.rgreat_l0_step {α:Type} (x17:List Int) (kn:Int → Option α) (k0:Option α) (k2:Option α) (x18:Int):Option α := if cLt x18 (↑(List.length x17):Int) = true then if (0:Int) ≤ x18 ∧ x18 < (↑(List.length x17):Int) then if cLt (List.getD x17 (Int.toNat x18) (0:Int)) (-4611686018427387903:Int) = true then k0 else if (0:Int) ≤ x18 ∧ x18 < (↑(List.length x17):Int) then if cLt (4611686018427387903:Int) (List.getD x17 (Int.toNat x18) (0:Int)) = true then k0 else kn (IntKind.wrap .i64 (x18 + (1:Int))) else none else none else k2
noncomputable def M.rgreat_l0 {α:Type} (x17:List Int) (k0:Option α) (k2:Option α):Nat → Int → Option α
 | 0,_ => none
 | n + 1,x18 => M.rgreat_l0_step x17 (M.rgreat_l0 x17 k0 k2 n) k0 k2 x18
theorem rgreat_l0_step_eq {α:Type} (x16:Value) (x17:List Int) (x18:Int) (Q:Ex → St → Option α):(loopStep E (exec E look_great noLps 400) 81 [false,true,false,true] 0 (codeAt E.P 81 [false,true,false,true])) (rgreat_S1 x16 x17 x18) Q = M.rgreat_l0_step x17 (fun (x19:Int) => Q .normal (rgreat_S1 x16 x17 x19)) (Q .ret (St.mk (none :: none :: some (SV.bool true) :: nn 19 ([])) [])) (Q (.exit 0) (St.mk (nn 22 ([])) [])) x18 := by kernel_rfl
theorem rgreat_l0_iter {α:Type} (x16:Value) (x17:List Int) (Q:Ex → St → Option α):∀ (n:Nat) (x18:Int),iter (loopStep E (exec E look_great noLps 400) 81 [false,true,false,true] 0 (codeAt E.P 81 [false,true,false,true])) n (rgreat_S1 x16 x17 x18) Q = M.rgreat_l0 x17 (Q .ret (St.mk (none :: none :: some (SV.bool true) :: nn 19 ([])) [])) (Q (.exit 0) (St.mk (nn 22 ([])) [])) n x18
 | 0,_ => rfl
 | n + 1,x18 => (rgreat_l0_step_eq x16 x17 x18 (iterK (loopStep E (exec E look_great noLps 400) 81 [false,true,false,true] 0 (codeAt E.P 81 [false,true,false,true])) n Q)).trans (congrArg (fun kn => M.rgreat_l0_step x17 kn (Q .ret (St.mk (none :: none :: some (SV.bool true) :: nn 19 ([])) [])) (Q (.exit 0) (St.mk (nn 22 ([])) [])) x18) (funext fun x18 => rgreat_l0_iter x16 x17 Q n x18))
noncomputable def rgreat_l0_go {α:Type} (ds:List D) (Q:Ex → St → Option α):Option α :=
 dV ds fun x16 ds => dL (K.int IntKind.i64) ds fun x17 ds => dI ds fun x18 ds => dE ds (M.rgreat_l0 x17 (Q .ret (St.mk (none :: none :: some (SV.bool true) :: nn 19 ([])) [])) (Q (.exit 0) (St.mk (nn 22 ([])) [])) (100 + x17.length) x18)
theorem rgreat_l0_ok {α:Type}:LoopOk E.P 81 [false,true,false,true] 0 (lEnt (α := α) (St.mk (some (SV.ros undef (K.int IntKind.i64) []) :: none :: none :: some (SV.int .i64 (0:Int)) :: nn 18 ([])) []) rgreat_l0_go) :=
 lEnt_ok E (exec_sound E E_ok (look_great_ok) (noLps_ok _) 400) fun ds Q r h S hS => by
   unfold rgreat_l0_go at h
   obtain ⟨x16,ds,rfl,h1⟩ := dV_inv h
   obtain ⟨x17,ds,rfl,h2⟩ := dL_inv h1
   obtain ⟨x18,ds,rfl,h3⟩ := dI_inv h2
   obtain ⟨rfl,hE⟩ := dE_inv h3
   have e:fillS (St.mk (some (SV.ros undef (K.int IntKind.i64) []) :: none :: none :: some (SV.int .i64 (0:Int)) :: nn 18 ([])) []) [.v x16,.l (K.int IntKind.i64) x17,.i x18] = some (rgreat_S1 x16 x17 x18) := by kernel_rfl
   rw [e] at hS
   cases hS
   exact ⟨_,(rgreat_l0_iter x16 x17 Q _ x18).trans hE⟩
noncomputable def rgreat_l0_lps {α:Type}:LookL α := addLp 81 [false,true,false,true] 0 (lEnt (St.mk (some (SV.ros undef (K.int IntKind.i64) []) :: none :: none :: some (SV.int .i64 (0:Int)) :: nn 18 ([])) []) rgreat_l0_go) noLps
theorem rgreat_l0_lps_ok {α:Type}:LoopsOk E.P (rgreat_l0_lps (α := α)) := addLp_ok rgreat_l0_ok (noLps_ok _)
noncomputable def M.rgreat {α:Type} (l:List Int) (k0:Bool → Option α):Option α := M.rgreat_l0 l (k0 true) (k0 false) ((100:Nat) + List.length l) (0:Int)
theorem rgreat_eq {α:Type} (l:List Int) (v20:Value) (Q:SV → Hp → Option α):callI E look_great (exec E look_great rgreat_l0_lps 400) 81 ([SV.ros v20 (K.int IntKind.i64) l]) ([]) Q = M.rgreat l (fun (x21:Bool) => Q (SV.bool x21) ([])) := by kernel_rfl
def rgreat_sp:List AS := [.ro (.int .i64)]
theorem rgreat_l0_val {α:Type} (l:List Int) (hl:l.length < 9223372036854775808) (k0:Option α) (k2:Option α):∀ (fuel i:Nat),i ≤ l.length → l.length - i < fuel →
   M.rgreat_l0 l k0 k2 fuel (i:Int) = if (l.drop i).any isG = true then k0 else k2
 | 0,i,h1,h2 => by omega
 | n + 1,i,h1,h2 => by
   unfold M.rgreat_l0 M.rgreat_l0_step
   by_cases hi:i < l.length
   · have ih := rgreat_l0_val l hl k0 k2 n (i + 1) (by omega) (by omega)
     rw [IntWalk.i64_in _ (by omega:-9223372036854775808 ≤ (i:Int) + 1 ∧ (i:Int) + 1 ≤ 9223372036854775807),drop_any l i hi]
     push_cast at ih
     rw [ih]
     simp only [cLt_eq,getD_toNat,isG]
     have:(i:Int) < (l.length:Int) := by omega
     simp only [this,decide_true,if_true,Int.natCast_nonneg,and_self]
     generalize l.getD i 0 = y
     generalize (l.drop (i + 1)).any isG = z
     by_cases a:y < -4611686018427387903
     · simp [a]
     · by_cases b:4611686018427387903 < y <;> simp [a,b]
   · have : i = l.length := by omega
     subst this
     simp [cLt_eq]
theorem rgreat_val {α:Type} (l:List Int) (hl:l.length < 9223372036854775808) (k0:Bool → Option α):M.rgreat l k0 = k0 (V.anyG l) := by
 unfold M.rgreat
 have := rgreat_l0_val l hl (k0 true) (k0 false) (100 + l.length) 0 (by omega) (by omega)
 rw [Int.natCast_zero] at this
 rw [this,V.anyG,List.drop_zero]
 cases l.any isG <;> rfl
theorem rgreat_c_ok {α:Type}:FnOk E.P 81 (fEnt (α := α) rgreat_sp great_c) :=
 fEntR_ok E look_great_ok (exec_sound E E_ok look_great_ok rgreat_l0_lps_ok 400) fun ds Q r h => by
   unfold great_c at h
   obtain ⟨l,ds,rfl,h1⟩ := dL_inv h
   obtain ⟨rfl,hE⟩ := dE_inv h1
   split at hE
   · rename_i hl
     exact ⟨_,_,hE,fun vs => ⟨[.ros (vs.headD undef) (.int .i64) l],[],by kernel_rfl,(rgreat_eq l _ _).trans (rgreat_val l hl _)⟩⟩
   · cases hE
noncomputable abbrev rgreat_c {α:Type} := great_c (α := α)
noncomputable def look_rgreat {α:Type}:LookF α := addFn 81 (fEnt rgreat_sp rgreat_c) look_great
theorem look_rgreat_ok {α:Type}:LookOk E.P (look_rgreat (α := α)) := addFn_ok rgreat_c_ok (look_great_ok)
end
section
open Go
theorem u64_in' {n:Int} (h0:0 ≤ n) (h1:n < 18446744073709551616):IntKind.u64.wrap n = n := IntWalk.u64_in n ⟨h0,by omega⟩
end
section
open Go
theorem fdiv_pos (a b:Int) (h:0 < b):Int.fdiv a b = a / b := Int.fdiv_eq_ediv_of_nonneg a (by omega)
end
section
open Go
theorem ofInt_toNat {x:Int} (h0:0 ≤ x) (h1:x < 18446744073709551616):(BitVec.ofInt 64 x).toNat = x.toNat := by
 rw [BitVec.toNat_ofInt]
 congr 1
 exact Int.emod_eq_of_lt h0 (by simpa using h1)
theorem band32 {x:Int} (h0:0 ≤ x) (h1:x < 18446744073709551616):bandI .u64 x 4294967295 = x % 4294967296 := by
 unfold bandI
 have e1:(BitVec.ofInt IntKind.u64.bits x &&& BitVec.ofInt IntKind.u64.bits 4294967295).toNat = x.toNat % 4294967296 := by
   show (BitVec.ofInt 64 x &&& BitVec.ofInt 64 4294967295).toNat = _
   rw [BitVec.toNat_and,ofInt_toNat h0 h1,ofInt_toNat (by decide) (by decide)]
   exact Nat.and_two_pow_sub_one_eq_mod x.toNat 32
 rw [e1,u64_in' (by omega) (by omega)]
 omega
theorem bor_add {a b:Int} {s:Nat} (h0:0 ≤ a) (h1:a * 2 ^ s < 18446744073709551616) (h2:0 ≤ b) (h3:b < 2 ^ s) (h4:a * 2 ^ s + b < 18446744073709551616):borI .u64 (a * 2 ^ s) b = a * 2 ^ s + b := by
 unfold borI
 have hp:(0:Int) < 2 ^ s := Int.pow_pos (by decide)
 have h5:0 ≤ a * 2 ^ s := Int.mul_nonneg h0 (by omega)
 obtain ⟨m,rfl⟩ := Int.eq_ofNat_of_zero_le h0
 obtain ⟨n,rfl⟩ := Int.eq_ofNat_of_zero_le h2
 have e2:((m:Int) * 2 ^ s) = ((m * 2 ^ s:Nat):Int) := by push_cast; rfl
 have h3':n < 2 ^ s := by
   have:((2 ^ s:Nat):Int) = (2:Int) ^ s := by push_cast; rfl
   omega
 have e1:(BitVec.ofInt IntKind.u64.bits ((m:Int) * 2 ^ s) ||| BitVec.ofInt IntKind.u64.bits (n:Int)).toNat = m * 2 ^ s + n := by
   show (BitVec.ofInt 64 ((m:Int) * 2 ^ s) ||| BitVec.ofInt 64 (n:Int)).toNat = _
   rw [BitVec.toNat_or,ofInt_toNat h5 h1,ofInt_toNat h2 (by omega),e2,Int.toNat_natCast,Int.toNat_natCast,Nat.mul_comm m]
   exact (Nat.two_pow_add_eq_or_of_lt h3' m).symm
 rw [e1,e2]
 exact u64_in' (by omega) (by omega)
end
section
open Go
def hiW (x:Int):Int := x / 18446744073709551616 % 18446744073709551616
def loW (x:Int):Int := x % 18446744073709551616
theorem hiW_lo (x:Int):0 ≤ hiW x ∧ hiW x < 18446744073709551616 := by unfold hiW; omega
theorem loW_lo (x:Int):0 ≤ loW x ∧ loW x < 18446744073709551616 := by unfold loW; omega
def R64 (n:Int):Prop := -9223372036854775808 ≤ n ∧ n < 9223372036854775808
theorem mul64_eq' {x y:Int} (h0:0 ≤ x) (h1:x < 18446744073709551616) (h2:0 ≤ y) (h3:y < 18446744073709551616) :
   V.mul64_r0 x y = x * y / 18446744073709551616 ∧ V.mul64_r1 x y = x * y % 18446744073709551616 := by
 refine ⟨?_,?_⟩
 · unfold V.mul64_r0
   rw [band32 h0 h1,band32 h2 h3,fdiv_pos x _ (by decide),fdiv_pos y _ (by decide)]
   have ex:x = x / 4294967296 * 4294967296 + x % 4294967296 := by omega
   have ey:y = y / 4294967296 * 4294967296 + y % 4294967296 := by omega
   have a1:0 ≤ x / 4294967296 ∧ x / 4294967296 ≤ 4294967295 := by omega
   have a2:0 ≤ x % 4294967296 ∧ x % 4294967296 ≤ 4294967295 := by omega
   have a3:0 ≤ y / 4294967296 ∧ y / 4294967296 ≤ 4294967295 := by omega
   have a4:0 ≤ y % 4294967296 ∧ y % 4294967296 ≤ 4294967295 := by omega
   generalize x / 4294967296 = x1 at *
   generalize x % 4294967296 = x0 at *
   generalize y / 4294967296 = y1 at *
   generalize y % 4294967296 = y0 at *
   have exy:x * y = x1 * y1 * 18446744073709551616 + (x1 * y0 + x0 * y1) * 4294967296 + x0 * y0 := by rw [ex,ey]; grind
   rw [exy]
   have b1:0 ≤ x1 * y1 ∧ x1 * y1 ≤ 4294967295 * 4294967295 := ⟨Int.mul_nonneg a1.1 a3.1,Int.mul_le_mul a1.2 a3.2 a3.1 (by omega)⟩
   have b2:0 ≤ x1 * y0 ∧ x1 * y0 ≤ 4294967295 * 4294967295 := ⟨Int.mul_nonneg a1.1 a4.1,Int.mul_le_mul a1.2 a4.2 a4.1 (by omega)⟩
   have b3:0 ≤ x0 * y1 ∧ x0 * y1 ≤ 4294967295 * 4294967295 := ⟨Int.mul_nonneg a2.1 a3.1,Int.mul_le_mul a2.2 a3.2 a3.1 (by omega)⟩
   have b4:0 ≤ x0 * y0 ∧ x0 * y0 ≤ 4294967295 * 4294967295 := ⟨Int.mul_nonneg a2.1 a4.1,Int.mul_le_mul a2.2 a4.2 a4.1 (by omega)⟩
   generalize x1 * y1 = p11 at *
   generalize x1 * y0 = p10 at *
   generalize x0 * y1 = p01 at *
   generalize x0 * y0 = p00 at *
   rw [u64_in' b1.1 (by omega),u64_in' b2.1 (by omega),u64_in' b3.1 (by omega),u64_in' b4.1 (by omega),fdiv_pos p00 _ (by decide)]
   have c1:0 ≤ p10 + p00 / 4294967296 ∧ p10 + p00 / 4294967296 < 18446744073709551616 := by omega
   rw [u64_in' c1.1 c1.2,band32 c1.1 c1.2,fdiv_pos _ 4294967296 (by decide)]
   rw [u64_in' (by omega:0 ≤ p11 + (p10 + p00 / 4294967296) / 4294967296) (by omega),u64_in' (by omega:0 ≤ (p10 + p00 / 4294967296) % 4294967296 + p01) (by omega),fdiv_pos _ 4294967296 (by decide),u64_in' (by omega) (by omega)]
   omega
 · unfold V.mul64_r1; rw [IntKind.wrap_u64]
theorem times_eq' {a b:Int} (ha:R64 a) (hb:R64 b):V.times_r0 a b = hiW (a * b) ∧ V.times_r1 a b = loW (a * b) := by
 unfold V.times_r0 V.times_r1
 unfold R64 at ha hb
 simp only [cLt_eq,decide_eq_true_eq]
 have hwa:0 ≤ IntKind.wrap .u64 a ∧ IntKind.wrap .u64 a < 18446744073709551616 := by rw [IntKind.wrap_u64]; omega
 have hwb:0 ≤ IntKind.wrap .u64 b ∧ IntKind.wrap .u64 b < 18446744073709551616 := by rw [IntKind.wrap_u64]; omega
 obtain ⟨e0,e1⟩ := mul64_eq' hwa.1 hwa.2 hwb.1 hwb.2
 rw [e0,e1]
 by_cases h1:a < 0
 · by_cases h2 : b < 0
   · simp only [h1, h2, if_true]
     rw [show IntKind.wrap .u64 a = a + 18446744073709551616 by rw [IntKind.wrap_u64]; omega,show IntKind.wrap .u64 b = b + 18446744073709551616 by rw [IntKind.wrap_u64]; omega]
     have e:(a + 18446744073709551616) * (b + 18446744073709551616) = a * b + (a + b + 18446744073709551616) * 18446744073709551616 := by grind
     rw [e]
     simp only [IntKind.wrap_u64,hiW,loW]
     generalize a * b = p
     omega
   · simp only [h1, h2, if_true, if_false]
     rw [show IntKind.wrap .u64 a = a + 18446744073709551616 by rw [IntKind.wrap_u64]; omega,show IntKind.wrap .u64 b = b by rw [IntKind.wrap_u64]; omega]
     have e:(a + 18446744073709551616) * b = a * b + b * 18446744073709551616 := by grind
     rw [e]
     simp only [IntKind.wrap_u64,hiW,loW]
     generalize a * b = p
     omega
 · by_cases h2 : b < 0
   · simp only [h1, h2, if_true, if_false]
     rw [show IntKind.wrap .u64 a = a by rw [IntKind.wrap_u64]; omega,show IntKind.wrap .u64 b = b + 18446744073709551616 by rw [IntKind.wrap_u64]; omega]
     have e:a * (b + 18446744073709551616) = a * b + a * 18446744073709551616 := by grind
     rw [e]
     simp only [IntKind.wrap_u64,hiW,loW]
     generalize a * b = p
     omega
   · simp only [h1, h2, if_false]
     rw [show IntKind.wrap .u64 a = a by rw [IntKind.wrap_u64]; omega,show IntKind.wrap .u64 b = b by rw [IntKind.wrap_u64]; omega]
     have hp:a * b ≤ 9223372036854775807 * 9223372036854775807 := Int.mul_le_mul (by omega) (by omega) (by omega) (by omega)
     have hp0:0 ≤ a * b := Int.mul_nonneg (by omega) (by omega)
     simp only [hiW,loW,and_true]
     generalize a * b = p at *
     omega
theorem wadd_eq' (x y:Int):V.wadd_g (hiW x) (loW x) (hiW y) (loW y) = true ∧ V.wadd_r0 (hiW x) (loW x) (hiW y) (loW y) = hiW (x + y) ∧ V.wadd_r1 (hiW x) (loW x) (hiW y) (loW y) = loW (x + y) := by
 unfold V.wadd_g V.wadd_r0 V.wadd_r1
 have a1 := hiW_lo x
 have a2 := loW_lo x
 have a3 := hiW_lo y
 have a4 := loW_lo y
 have hc:¬ Int.toNat (Int.ofNat ((Int.toNat (loW x) + Int.toNat (loW y) + (0:Nat)) / (18446744073709551616:Nat))) > (1:Nat) := by
   simp only [Int.ofNat_eq_natCast,Int.toNat_natCast]; omega
 simp only [if_neg hc]
 simp only [Int.ofNat_eq_natCast,Int.toNat_natCast,Nat.add_zero]
 unfold hiW loW at *
 simp only [true_and]
 omega
noncomputable def _root_.Go.Proofs.YtlagndfhibkjpaaGreat.V.isq (x:Int):Int := open Classical in if h:∃ r:Int,0 ≤ r ∧ r * r ≤ x ∧ x < (r + 1) * (r + 1) then Classical.choose h else 0
theorem isq_uniq {x r s:Int} (h1:0 ≤ r ∧ r * r ≤ x ∧ x < (r + 1) * (r + 1)) (h2:0 ≤ s ∧ s * s ≤ x ∧ x < (s + 1) * (s + 1)):r = s := by
 rcases Int.lt_trichotomy r s with h | h | h
 · have : (r + 1) * (r + 1) ≤ s * s := Int.mul_le_mul (by omega) (by omega) (by omega) (by omega)
   omega
 · exact h
 · have : (s + 1) * (s + 1) ≤ r * r := Int.mul_le_mul (by omega) (by omega) (by omega) (by omega)
   omega
theorem isq_eq {x r:Int} (h:0 ≤ r ∧ r * r ≤ x ∧ x < (r + 1) * (r + 1)):V.isq x = r := by
 unfold V.isq
 have he:∃ r:Int,0 ≤ r ∧ r * r ≤ x ∧ x < (r + 1) * (r + 1) := ⟨r,h⟩
 rw [dif_pos he]
 exact isq_uniq (Classical.choose_spec he) h
def _root_.Go.Proofs.YtlagndfhibkjpaaGreat.V.gv (o:Option Int):Int := o.getD 0
def _root_.Go.Proofs.YtlagndfhibkjpaaGreat.V.gn (o:Option Int) (bad:Bool):Bool := o.isNone || bad
def _root_.Go.Proofs.YtlagndfhibkjpaaGreat.V.tl (n:Int):Option Int := if isG n then none else some n
def _root_.Go.Proofs.YtlagndfhibkjpaaGreat.V.mAdd (a b:Int):Option Int := if isG a || isG b then none else V.tl (a + b)
def _root_.Go.Proofs.YtlagndfhibkjpaaGreat.V.mSub (a b:Int):Option Int := if isG a || isG b then none else V.tl (a - b)
def _root_.Go.Proofs.YtlagndfhibkjpaaGreat.V.qF (x c:Int):Option Int := if x / c == -18446744073709551616 && x % c != 0 then some 0 else V.tl (x / c)
def _root_.Go.Proofs.YtlagndfhibkjpaaGreat.V.mRatio (a b c:Int):Option Int := if c == 0 || isG a || isG b || isG c then none else if c < 0 then V.qF (-(a * b)) (-c) else V.qF (a * b) c
def _root_.Go.Proofs.YtlagndfhibkjpaaGreat.V.mDiv (a b:Int):Option Int := V.mRatio a 4294967296 b
noncomputable def _root_.Go.Proofs.YtlagndfhibkjpaaGreat.V.mRt (x:Int):Option Int := if 4611686018427387903 < V.isq x then none else some (V.isq x)
def _root_.Go.Proofs.YtlagndfhibkjpaaGreat.V.dotZ (a b:List Int):Int := (List.zipWith (· * ·) a b).sum
def _root_.Go.Proofs.YtlagndfhibkjpaaGreat.V.mDot (a b:List Int):Option Int := if a.length != b.length || decide (8 < a.length) || V.anyG a || V.anyG b then none else V.tl (V.dotZ a b / 4294967296)
noncomputable def _root_.Go.Proofs.YtlagndfhibkjpaaGreat.V.mNorm (l:List Int):Option Int := if decide (8 < l.length) || V.anyG l then none else V.mRt (V.dotZ l l)
theorem isG_iff (n:Int):isG n = true ↔ (n < -4611686018427387903 ∨ 4611686018427387903 < n) := by simp [isG]
theorem isG_false (n:Int):isG n = false ↔ (-4611686018427387903 ≤ n ∧ n ≤ 4611686018427387903) := by simp [isG]
end
section
open Go
set_option maxRecDepth 20000
noncomputable def M.tell {α:Type} (bad:Bool) (n:Int) (k0:Int → Bool → Option α):Option α := if V.anyG [n] = true then k0 (0:Int) true else k0 n bad
theorem tell_eq {α:Type} (bad:Bool) (n:Int) (Q:SV → Hp → Option α):callI E look_rgreat (exec E look_rgreat noLps 400) 73 ([SV.ptr (nat_lit 0) (nat_lit 0),SV.int .i64 n]) ([.cells [SV.bool bad] (nat_lit 50)]) Q = M.tell bad n (fun (x0:Int) (x1:Bool) => Q (SV.int .i64 x0) ([.cells [SV.bool x1] (nat_lit 50)])) := by kernel_rfl
def tell_sp:List AS := [.ptr 50 [.bool false],.val (.int .i64 0)]
theorem tell_v {α:Type} (bad:Bool) (n:Int) (k0:Int → Bool → Option α):M.tell bad n k0 = k0 (V.gv (V.tl n)) (V.gn (V.tl n) bad) := by
 unfold M.tell V.anyG V.tl V.gv V.gn
 cases h:isG n <;> simp [h]
noncomputable def tell_h {α:Type} (ds:List D) (Q:SV → Hp → Option α):Option α :=
 dB ds fun bad ds => dI ds fun n ds => dE ds (Q (.int .i64 (V.gv (V.tl n))) ([.cells [.bool (V.gn (V.tl n) bad)] 50]))
theorem tell_h_ok {α:Type}:FnOk E.P 73 (fEnt (α := α) tell_sp tell_h) :=
 fEnt_ok E (look_rgreat_ok) (exec_sound E E_ok (look_rgreat_ok) (noLps_ok _) 400) fun ds Q r h => by
   unfold tell_h at h
   obtain ⟨bad,ds,rfl,h1⟩ := dB_inv h
   obtain ⟨n,ds,rfl,h2⟩ := dI_inv h1
   obtain ⟨rfl,hE⟩ := dE_inv h2
   exact ⟨[SV.ptr (nat_lit 0) (nat_lit 0),SV.int .i64 n],[.cells [SV.bool bad] (nat_lit 50)],fun vs => by kernel_rfl,(tell_eq bad n Q).trans ((tell_v bad n _).trans hE)⟩
noncomputable def look_tell {α:Type}:LookF α := addFn 73 (fEnt tell_sp tell_h) look_rgreat
theorem look_tell_ok {α:Type}:LookOk E.P (look_tell (α := α)) := addFn_ok tell_h_ok (look_rgreat_ok)
noncomputable def M.shift {α:Type} (bad:Bool) (hi:Int) (lo:Int) (k0:Int → Bool → Option α):Option α := if (!cEq (Int.fdiv (IntKind.wrap .i64 hi) (4294967296:Int)) (Int.fdiv (IntKind.wrap .i64 (borI IntKind.u64 (IntKind.wrap IntKind.u64 (hi * (4294967296:Int))) (Int.fdiv lo (4294967296:Int)))) (9223372036854775808:Int))) = true then k0 (0:Int) true else k0 (V.gv (V.tl (IntKind.wrap .i64 (borI IntKind.u64 (IntKind.wrap IntKind.u64 (hi * (4294967296:Int))) (Int.fdiv lo (4294967296:Int)))))) (V.gn (V.tl (IntKind.wrap .i64 (borI IntKind.u64 (IntKind.wrap IntKind.u64 (hi * (4294967296:Int))) (Int.fdiv lo (4294967296:Int))))) bad)
theorem shift_eq {α:Type} (bad:Bool) (hi:Int) (lo:Int) (Q:SV → Hp → Option α):callI E look_tell (exec E look_tell noLps 400) 91 ([SV.ptr (nat_lit 0) (nat_lit 0),SV.agg [SV.int IntKind.u64 hi,SV.int IntKind.u64 lo]]) ([.cells [SV.bool bad] (nat_lit 50)]) Q = M.shift bad hi lo (fun (x2:Int) (x3:Bool) => Q (SV.int .i64 x2) ([.cells [SV.bool x3] (nat_lit 50)])) := by kernel_rfl
def shift_sp:List AS := [.ptr 50 [.bool false],.val (.agg [.int .u64 0,.int .u64 0])]
noncomputable def _root_.Go.Proofs.YtlagndfhibkjpaaGreat.V.shift_r0 (bad:Bool) (hi:Int) (lo:Int):Int := if (!cEq (Int.fdiv (IntKind.wrap .i64 hi) (4294967296:Int)) (Int.fdiv (IntKind.wrap .i64 (borI IntKind.u64 (IntKind.wrap IntKind.u64 (hi * (4294967296:Int))) (Int.fdiv lo (4294967296:Int)))) (9223372036854775808:Int))) = true then (0:Int) else V.gv (V.tl (IntKind.wrap .i64 (borI IntKind.u64 (IntKind.wrap IntKind.u64 (hi * (4294967296:Int))) (Int.fdiv lo (4294967296:Int)))))
noncomputable def _root_.Go.Proofs.YtlagndfhibkjpaaGreat.V.shift_r1 (bad:Bool) (hi:Int) (lo:Int):Bool := if (!cEq (Int.fdiv (IntKind.wrap .i64 hi) (4294967296:Int)) (Int.fdiv (IntKind.wrap .i64 (borI IntKind.u64 (IntKind.wrap IntKind.u64 (hi * (4294967296:Int))) (Int.fdiv lo (4294967296:Int)))) (9223372036854775808:Int))) = true then true else V.gn (V.tl (IntKind.wrap .i64 (borI IntKind.u64 (IntKind.wrap IntKind.u64 (hi * (4294967296:Int))) (Int.fdiv lo (4294967296:Int))))) bad
theorem shift_val {α:Type} (bad:Bool) (hi:Int) (lo:Int) (k0:Int → Bool → Option α):M.shift bad hi lo k0 = k0 (V.shift_r0 bad hi lo) (V.shift_r1 bad hi lo) := by
 unfold M.shift V.shift_r0 V.shift_r1
 repeat' first | rfl | (split <;> rename_i h <;> first | simp only [if_pos h] | simp only [if_neg h] | skip)
noncomputable def shift_c {α:Type} (ds:List D) (Q:SV → Hp → Option α):Option α :=
 dB ds fun bad ds => dI ds fun hi ds => dI ds fun lo ds => dE ds (Q (SV.int .i64 (V.shift_r0 bad hi lo)) ([.cells [SV.bool (V.shift_r1 bad hi lo)] (nat_lit 50)]))
theorem shift_c_ok {α:Type}:FnOk E.P 91 (fEnt (α := α) shift_sp shift_c) :=
 fEnt_ok E (look_tell_ok) (exec_sound E E_ok (look_tell_ok) (noLps_ok _) 400) fun ds Q r h => by
   unfold shift_c at h
   obtain ⟨bad,ds,rfl,h1⟩ := dB_inv h
   obtain ⟨hi,ds,rfl,h2⟩ := dI_inv h1
   obtain ⟨lo,ds,rfl,h3⟩ := dI_inv h2
   obtain ⟨rfl,hE⟩ := dE_inv h3
   exact ⟨[SV.ptr (nat_lit 0) (nat_lit 0),SV.agg [SV.int IntKind.u64 hi,SV.int IntKind.u64 lo]],[.cells [SV.bool bad] (nat_lit 50)],fun vs => by kernel_rfl,(shift_eq bad hi lo Q).trans ((shift_val bad hi lo (fun (x2:Int) (x3:Bool) => Q (SV.int .i64 x2) ([.cells [SV.bool x3] (nat_lit 50)]))).trans hE)⟩
noncomputable def look_shift {α:Type}:LookF α := addFn 91 (fEnt shift_sp shift_c) look_tell
theorem look_shift_ok {α:Type}:LookOk E.P (look_shift (α := α)) := addFn_ok shift_c_ok (look_tell_ok)
theorem shift_r {x:Int} (bad:Bool) (h0:-170141183460469231731687303715884105728 ≤ x) (h1:x < 170141183460469231731687303715884105728) :
   V.shift_r0 bad (hiW x) (loW x) = V.gv (V.tl (x / 4294967296)) ∧ V.shift_r1 bad (hiW x) (loW x) = V.gn (V.tl (x / 4294967296)) bad := by
 unfold V.shift_r0 V.shift_r1
 have a1 := hiW_lo x
 have a2 := loW_lo x
 have e1:borI IntKind.u64 (IntKind.wrap IntKind.u64 (hiW x * 4294967296)) (Int.fdiv (loW x) 4294967296) = hiW x % 4294967296 * 4294967296 + loW x / 4294967296 := by
   rw [fdiv_pos _ _ (by decide),show IntKind.wrap IntKind.u64 (hiW x * 4294967296) = hiW x % 4294967296 * 2 ^ 32 by rw [IntKind.wrap_u64]; omega]
   rw [bor_add (by omega) (by omega) (by omega) (by omega) (by omega)]
   omega
 rw [e1,cEq_eq,fdiv_pos _ _ (by decide),fdiv_pos _ _ (by decide)]
 unfold V.tl V.gv V.gn
 have hG := isG_iff (x / 4294967296)
 by_cases hb:isG (x / 4294967296) = true
 · have hb' := hG.1 hb
   by_cases hc:IntKind.wrap .i64 (hiW x) / 4294967296 = IntKind.wrap .i64 (hiW x % 4294967296 * 4294967296 + loW x / 4294967296) / 9223372036854775808
   · have : IntKind.wrap .i64 (hiW x % 4294967296 * 4294967296 + loW x / 4294967296) = x / 4294967296 := by
       simp only [IntKind.wrap_i64,hiW,loW] at *; omega
     simp [hc,this,hb]
   · simp [hc,hb]
 · have hb' : isG (x / 4294967296) = false := by simpa using hb
   have hb2 := (isG_false _).1 hb'
   have hn:IntKind.wrap .i64 (hiW x % 4294967296 * 4294967296 + loW x / 4294967296) = x / 4294967296 := by
     simp only [IntKind.wrap_i64,hiW,loW] at *; omega
   have hc:IntKind.wrap .i64 (hiW x) / 4294967296 = x / 4294967296 / 9223372036854775808 := by
     simp only [IntKind.wrap_i64,hiW,loW] at *; omega
   simp [hn,hc,hb']
noncomputable abbrev sum_S1 (y1:Value) (y2:List Int) (y3:Value) (y4:List Int) (y5 y6 y7 y8 y9 y10:Int):St := St.mk (none :: some (SV.ros y1 (K.int IntKind.i64) y2) :: none :: none :: some (SV.ptr (nat_lit 0) (nat_lit 0)) :: some (SV.ptr (nat_lit 1) (nat_lit 0)) :: none :: none :: some (SV.ros y3 (K.int IntKind.i64) y4) :: some (SV.int .i64 y5) :: some (SV.int .i64 y6) :: nn 14 ([])) [.cells [SV.int IntKind.u64 y7,SV.int IntKind.u64 y8] (nat_lit 124),.cells [SV.int IntKind.u64 y9,SV.int IntKind.u64 y10] (nat_lit 124)]
noncomputable abbrev sum_S2 (y1 y2 y3 y4:Int):St := St.mk (nn 4 (some (SV.ptr (nat_lit 0) (nat_lit 0)) :: some (SV.ptr (nat_lit 1) (nat_lit 0)) :: nn 19 ([]))) [.cells [SV.int IntKind.u64 y1,SV.int IntKind.u64 y2] (nat_lit 124),.cells [SV.int IntKind.u64 y3,SV.int IntKind.u64 y4] (nat_lit 124)]
noncomputable abbrev sum_S3:St := St.mk (none :: some (SV.ros undef (K.int IntKind.i64) []) :: none :: none :: some (SV.ptr (nat_lit 0) (nat_lit 0)) :: some (SV.ptr (nat_lit 1) (nat_lit 0)) :: none :: none :: some (SV.ros undef (K.int IntKind.i64) []) :: some (SV.int .i64 (0:Int)) :: some (SV.int .i64 (0:Int)) :: nn 14 ([])) [.cells [SV.int IntKind.u64 (0:Int),SV.int IntKind.u64 (0:Int)] (nat_lit 124),.cells [SV.int IntKind.u64 (0:Int),SV.int IntKind.u64 (0:Int)] (nat_lit 124)]
noncomputable def M.sum_l0_step {α:Type} (x17:List Int) (x19:List Int) (x20:Int) (kn:Int → Int → Int → Option α) (k1:Int → Int → Option α) (x21 x24 x25:Int):Option α := if cLt x21 x20 = true then if (0:Int) ≤ x21 ∧ x21 < (↑(List.length x19):Int) then if (0:Int) ≤ x21 ∧ x21 < (↑(List.length x17):Int) then if V.wadd_g x24 x25 (V.times_r0 (List.getD x19 (Int.toNat x21) (0:Int)) (List.getD x17 (Int.toNat x21) (0:Int))) (V.times_r1 (List.getD x19 (Int.toNat x21) (0:Int)) (List.getD x17 (Int.toNat x21) (0:Int))) = true then kn (IntKind.wrap .i64 (x21 + (1:Int))) (V.wadd_r0 x24 x25 (V.times_r0 (List.getD x19 (Int.toNat x21) (0:Int)) (List.getD x17 (Int.toNat x21) (0:Int))) (V.times_r1 (List.getD x19 (Int.toNat x21) (0:Int)) (List.getD x17 (Int.toNat x21) (0:Int)))) (V.wadd_r1 x24 x25 (V.times_r0 (List.getD x19 (Int.toNat x21) (0:Int)) (List.getD x17 (Int.toNat x21) (0:Int))) (V.times_r1 (List.getD x19 (Int.toNat x21) (0:Int)) (List.getD x17 (Int.toNat x21) (0:Int)))) else none else none else none else k1 x24 x25
noncomputable def M.sum_l0 {α:Type} (x17:List Int) (x19:List Int) (x20:Int) (k1:Int → Int → Option α):Nat → Int → Int → Int → Option α
 | 0,_,_,_ => none
 | n + 1,x21,x24,x25 => M.sum_l0_step x17 x19 x20 (M.sum_l0 x17 x19 x20 k1 n) k1 x21 x24 x25
theorem sum_l0_step_eq {α:Type} (x16:Value) (x17:List Int) (x18:Value) (x19:List Int) (x20 x21 x22 x23 x24 x25:Int) (Q:Ex → St → Option α):(loopStep E (exec E look_shift noLps 400) 92 [false,true,false,true,true] 0 (codeAt E.P 92 [false,true,false,true,true])) (sum_S1 x16 x17 x18 x19 x20 x21 x22 x23 x24 x25) Q = M.sum_l0_step x17 x19 x20 (fun (x28 x29 x30:Int) => Q .normal (sum_S1 x16 x17 x18 x19 x20 x28 x22 x23 x29 x30)) (fun (x26 x27:Int) => Q (.exit 0) (sum_S2 x22 x23 x26 x27)) x21 x24 x25 := by kernel_rfl
theorem sum_l0_iter {α:Type} (x16:Value) (x17:List Int) (x18:Value) (x19:List Int) (x20 x22 x23:Int) (Q:Ex → St → Option α):∀ (n:Nat) (x21 x24 x25:Int),iter (loopStep E (exec E look_shift noLps 400) 92 [false,true,false,true,true] 0 (codeAt E.P 92 [false,true,false,true,true])) n (sum_S1 x16 x17 x18 x19 x20 x21 x22 x23 x24 x25) Q = M.sum_l0 x17 x19 x20 (fun (x26 x27:Int) => Q (.exit 0) (sum_S2 x22 x23 x26 x27)) n x21 x24 x25
 | 0,_,_,_ => rfl
 | n + 1,x21,x24,x25 => (sum_l0_step_eq x16 x17 x18 x19 x20 x21 x22 x23 x24 x25 (iterK (loopStep E (exec E look_shift noLps 400) 92 [false,true,false,true,true] 0 (codeAt E.P 92 [false,true,false,true,true])) n Q)).trans (congrArg (fun kn => M.sum_l0_step x17 x19 x20 kn (fun (x26 x27:Int) => Q (.exit 0) (sum_S2 x22 x23 x26 x27)) x21 x24 x25) (funext fun x21 => funext fun x24 => funext fun x25 => sum_l0_iter x16 x17 x18 x19 x20 x22 x23 Q n x21 x24 x25))
noncomputable def sum_l0_go {α:Type} (ds:List D) (Q:Ex → St → Option α):Option α :=
 dV ds fun x16 ds => dL (K.int IntKind.i64) ds fun x17 ds => dV ds fun x18 ds => dL (K.int IntKind.i64) ds fun x19 ds => dI ds fun x20 ds => dI ds fun x21 ds => dI ds fun x22 ds => dI ds fun x23 ds => dI ds fun x24 ds => dI ds fun x25 ds => dE ds (M.sum_l0 x17 x19 x20 (fun (x26 x27:Int) => Q (.exit 0) (sum_S2 x22 x23 x26 x27)) (100 + x17.length + x19.length) x21 x24 x25)
theorem sum_l0_ok {α:Type}:LoopOk E.P 92 [false,true,false,true,true] 0 (lEnt (α := α) (sum_S3) sum_l0_go) :=
 lEnt_ok E (exec_sound E E_ok (look_shift_ok) (noLps_ok _) 400) fun ds Q r h S hS => by
   unfold sum_l0_go at h
   obtain ⟨x16,ds,rfl,h1⟩ := dV_inv h
   obtain ⟨x17,ds,rfl,h2⟩ := dL_inv h1
   obtain ⟨x18,ds,rfl,h3⟩ := dV_inv h2
   obtain ⟨x19,ds,rfl,h4⟩ := dL_inv h3
   obtain ⟨x20,ds,rfl,h5⟩ := dI_inv h4
   obtain ⟨x21,ds,rfl,h6⟩ := dI_inv h5
   obtain ⟨x22,ds,rfl,h7⟩ := dI_inv h6
   obtain ⟨x23,ds,rfl,h8⟩ := dI_inv h7
   obtain ⟨x24,ds,rfl,h9⟩ := dI_inv h8
   obtain ⟨x25,ds,rfl,h10⟩ := dI_inv h9
   obtain ⟨rfl,hE⟩ := dE_inv h10
   have e:fillS (sum_S3) [.v x16,.l (K.int IntKind.i64) x17,.v x18,.l (K.int IntKind.i64) x19,.i x20,.i x21,.i x22,.i x23,.i x24,.i x25] = some (sum_S1 x16 x17 x18 x19 x20 x21 x22 x23 x24 x25) := by kernel_rfl
   rw [e] at hS
   cases hS
   exact ⟨_,(sum_l0_iter x16 x17 x18 x19 x20 x22 x23 Q _ x21 x24 x25).trans hE⟩
noncomputable def sum_l0_lps {α:Type}:LookL α := addLp 92 [false,true,false,true,true] 0 (lEnt (sum_S3) sum_l0_go) noLps
theorem sum_l0_lps_ok {α:Type}:LoopsOk E.P (sum_l0_lps (α := α)) := addLp_ok sum_l0_ok (noLps_ok _)
noncomputable def M.sum {α:Type} (a:List Int) (b:List Int) (k0:Int → Int → Option α):Option α := M.sum_l0 b a (↑(List.length a):Int) (fun (x33 x34:Int) ↦ k0 x33 x34) ((100:Nat) + List.length b + List.length a) (0:Int) (0:Int) (0:Int)
theorem sum_eq {α:Type} (a:List Int) (b:List Int) (v31:Value) (v32:Value) (Q:SV → Hp → Option α):callI E look_shift (exec E look_shift sum_l0_lps 400) 92 ([SV.ros v31 (K.int IntKind.i64) a,SV.ros v32 (K.int IntKind.i64) b]) ([]) Q = M.sum a b (fun (x35 x36:Int) => Q (SV.agg [SV.int IntKind.u64 x35,SV.int IntKind.u64 x36]) ([])) := by kernel_rfl
def sum_sp:List AS := [.ro (.int .i64),.ro (.int .i64)]
theorem anyG_get {l:List Int} (h:V.anyG l = false) (i:Nat):R64 (l.getD i 0) := by
 unfold V.anyG at h
 by_cases hi:i < l.length
 · have := List.any_eq_false.1 h (l[i]) (List.getElem_mem hi)
   rw [Bool.not_eq_true,isG_false] at this
   have e:l.getD i 0 = l[i] := by simp [List.getD_eq_getElem?_getD,hi]
   rw [e]; unfold R64; omega
 · have e : l.getD i 0 = 0 := by simp [List.getD_eq_getElem?_getD, hi]
   rw [e]; unfold R64; omega
theorem dotZ_drop (a b:List Int) (i:Nat) (h1:i < a.length) (h2:i < b.length):V.dotZ (a.drop i) (b.drop i) = a.getD i 0 * b.getD i 0 + V.dotZ (a.drop (i + 1)) (b.drop (i + 1)) := by
 unfold V.dotZ
 rw [List.drop_eq_getElem_cons h1,List.drop_eq_getElem_cons h2,List.zipWith_cons_cons,List.sum_cons]
 simp [List.getD_eq_getElem?_getD,h1,h2]
theorem sum_l0_val {α:Type} (a b:List Int) (hl:a.length < 9223372036854775808) (hab:a.length = b.length) (ha:V.anyG a = false) (hb:V.anyG b = false) (k1:Int → Int → Option α):∀ (fuel i:Nat) (S:Int),i ≤ a.length → a.length - i < fuel →
   M.sum_l0 b a (a.length:Int) k1 fuel (i:Int) (hiW S) (loW S) = k1 (hiW (S + V.dotZ (a.drop i) (b.drop i))) (loW (S + V.dotZ (a.drop i) (b.drop i)))
 | 0,i,S,h1,h2 => by omega
 | n + 1,i,S,h1,h2 => by
   unfold M.sum_l0 M.sum_l0_step
   by_cases hi:i < a.length
   · have ih := sum_l0_val a b hl hab ha hb k1 n (i + 1) (S + a.getD i 0 * b.getD i 0) (by omega) (by omega)
     rw [IntWalk.i64_in _ (by omega:-9223372036854775808 ≤ (i:Int) + 1 ∧ (i:Int) + 1 ≤ 9223372036854775807)]
     push_cast at ih
     obtain ⟨t0,t1⟩ := times_eq' (anyG_get ha i) (anyG_get hb i)
     simp only [cLt_eq,getD_toNat,t0,t1]
     obtain ⟨w0,w1,w2⟩ := wadd_eq' S (a.getD i 0 * b.getD i 0)
     have:(i:Int) < (a.length:Int) := by omega
     have h2:(i:Int) < (b.length:Int) := by omega
     simp only [this,h2,decide_true,if_true,Int.natCast_nonneg,and_self,w0,w1,w2]
     rw [ih,dotZ_drop a b i hi (by omega),Int.add_assoc]
   · have : i = a.length := by omega
     subst this
     simp [cLt_eq,V.dotZ]
theorem sum_v {α:Type} (a b:List Int) (hl:a.length < 9223372036854775808) (hab:a.length = b.length) (ha:V.anyG a = false) (hb:V.anyG b = false) (k0:Int → Int → Option α):M.sum a b k0 = k0 (hiW (V.dotZ a b)) (loW (V.dotZ a b)) := by
 unfold M.sum
 have := sum_l0_val a b hl hab ha hb (fun x y => k0 x y) (100 + b.length + a.length) 0 0 (by omega) (by omega)
 simp only [List.drop_zero,Int.zero_add,Int.natCast_zero] at this
 exact this
noncomputable def sum_h {α:Type} (ds:List D) (Q:SV → Hp → Option α):Option α :=
 dL (K.int IntKind.i64) ds fun a ds => dL (K.int IntKind.i64) ds fun b ds => dE ds (if (a.length < 9223372036854775808 ∧ a.length = b.length) ∧ V.anyG a = false ∧ V.anyG b = false then Q (.agg [.int .u64 (hiW (V.dotZ a b)),.int .u64 (loW (V.dotZ a b))]) ([]) else none)
theorem sum_h_ok {α:Type}:FnOk E.P 92 (fEnt (α := α) sum_sp sum_h) :=
 fEntR_ok E (look_shift_ok) (exec_sound E E_ok (look_shift_ok) (sum_l0_lps_ok) 400) fun ds Q r h => by
   unfold sum_h at h
   obtain ⟨a,ds,rfl,h1⟩ := dL_inv h
   obtain ⟨b,ds,rfl,h2⟩ := dL_inv h1
   obtain ⟨rfl,hE⟩ := dE_inv h2
   split at hE
   · rename_i hg
     exact ⟨_,_,hE,fun vs => ⟨_,_,by kernel_rfl,(sum_eq a b (vs.headD undef) (vs.tail.headD undef) _).trans (sum_v a b hg.1.1 hg.1.2 hg.2.1 hg.2.2 _)⟩⟩
   · cases hE
noncomputable def look_sum {α:Type}:LookF α := addFn 92 (fEnt sum_sp sum_h) look_shift
theorem look_sum_ok {α:Type}:LookOk E.P (look_sum (α := α)) := addFn_ok sum_h_ok (look_shift_ok)
end
section
open Go
set_option maxRecDepth 20000
theorem anyG2 (a b:Int):V.anyG [a,b] = (isG a || isG b) := by simp [V.anyG]
theorem prod_G {a b:Int} (ha:isG a = false) (hb:isG b = false):-21267647932558653957237540927630737409 ≤ a * b ∧ a * b ≤ 21267647932558653957237540927630737409 := by
 rw [isG_false] at ha hb
 have h1:∀ x y:Int,0 ≤ x → x ≤ 4611686018427387903 → 0 ≤ y → y ≤ 4611686018427387903 → 0 ≤ x * y ∧ x * y ≤ 4611686018427387903 * 4611686018427387903 := fun x y hx hx' hy hy' => ⟨Int.mul_nonneg hx hy,Int.mul_le_mul hx' hy' hy (by omega)⟩
 rcases Int.le_total 0 a with p | p <;> rcases Int.le_total 0 b with q | q
 · have := h1 a b p ha.2 q hb.2; omega
 · have := h1 a (-b) p ha.2 (by omega) (by omega); rw [Int.mul_neg] at this; omega
 · have := h1 (-a) b (by omega) (by omega) q hb.2; rw [Int.neg_mul] at this; omega
 · have := h1 (-a) (-b) (by omega) (by omega) (by omega) (by omega); rw [Int.neg_mul_neg] at this; omega
noncomputable def M.add {α:Type} (bad:Bool) (a:Int) (b:Int) (k0:Int → Bool → Option α):Option α := if V.anyG [a,b] = true then k0 (0:Int) true else k0 (V.gv (V.tl (IntKind.wrap .i64 (a + b)))) (V.gn (V.tl (IntKind.wrap .i64 (a + b))) bad)
theorem add_eq {α:Type} (bad:Bool) (a:Int) (b:Int) (Q:SV → Hp → Option α):callI E look_sum (exec E look_sum noLps 400) 37 ([SV.ptr (nat_lit 0) (nat_lit 0),SV.int .i64 a,SV.int .i64 b]) ([.cells [SV.bool bad] (nat_lit 50)]) Q = M.add bad a b (fun (x0:Int) (x1:Bool) => Q (SV.int .i64 x0) ([.cells [SV.bool x1] (nat_lit 50)])) := by kernel_rfl
def add_sp:List AS := [.ptr 50 [.bool false],.val (.int .i64 0),.val (.int .i64 0)]
theorem add_v {α:Type} (bad:Bool) (a b:Int) (k0:Int → Bool → Option α):M.add bad a b k0 = k0 (V.gv (V.mAdd a b)) (V.gn (V.mAdd a b) bad) := by
 unfold M.add V.mAdd
 rw [anyG2]
 by_cases h:(isG a || isG b) = true
 · simp [h,V.gv,V.gn]
 · have h' : (isG a || isG b) = false := by simpa using h
   simp only [h',Bool.false_eq_true,if_false]
   simp only [Bool.or_eq_false_iff,isG_false] at h'
   rw [IntWalk.i64_in _ (by omega)]
noncomputable def add_h {α:Type} (ds:List D) (Q:SV → Hp → Option α):Option α :=
 dB ds fun bad ds => dI ds fun a ds => dI ds fun b ds => dE ds (Q (.int .i64 (V.gv (V.mAdd a b))) ([.cells [.bool (V.gn (V.mAdd a b) bad)] 50]))
theorem add_h_ok {α:Type}:FnOk E.P 37 (fEnt (α := α) add_sp add_h) :=
 fEnt_ok E (look_sum_ok) (exec_sound E E_ok (look_sum_ok) (noLps_ok _) 400) fun ds Q r h => by
   unfold add_h at h
   obtain ⟨bad,ds,rfl,h1⟩ := dB_inv h
   obtain ⟨a,ds,rfl,h2⟩ := dI_inv h1
   obtain ⟨b,ds,rfl,h3⟩ := dI_inv h2
   obtain ⟨rfl,hE⟩ := dE_inv h3
   exact ⟨[SV.ptr (nat_lit 0) (nat_lit 0),SV.int .i64 a,SV.int .i64 b],[.cells [SV.bool bad] (nat_lit 50)],fun vs => by kernel_rfl,(add_eq bad a b Q).trans ((add_v bad a b _).trans hE)⟩
noncomputable def look_add {α:Type}:LookF α := addFn 37 (fEnt add_sp add_h) look_sum
theorem look_add_ok {α:Type}:LookOk E.P (look_add (α := α)) := addFn_ok add_h_ok (look_sum_ok)
noncomputable def M.sub {α:Type} (bad:Bool) (a:Int) (b:Int) (k0:Int → Bool → Option α):Option α := if V.anyG [a,b] = true then k0 (0:Int) true else k0 (V.gv (V.tl (IntKind.wrap .i64 (a - b)))) (V.gn (V.tl (IntKind.wrap .i64 (a - b))) bad)
theorem sub_eq {α:Type} (bad:Bool) (a:Int) (b:Int) (Q:SV → Hp → Option α):callI E look_add (exec E look_add noLps 400) 38 ([SV.ptr (nat_lit 0) (nat_lit 0),SV.int .i64 a,SV.int .i64 b]) ([.cells [SV.bool bad] (nat_lit 50)]) Q = M.sub bad a b (fun (x2:Int) (x3:Bool) => Q (SV.int .i64 x2) ([.cells [SV.bool x3] (nat_lit 50)])) := by kernel_rfl
def sub_sp:List AS := [.ptr 50 [.bool false],.val (.int .i64 0),.val (.int .i64 0)]
theorem sub_v {α:Type} (bad:Bool) (a b:Int) (k0:Int → Bool → Option α):M.sub bad a b k0 = k0 (V.gv (V.mSub a b)) (V.gn (V.mSub a b) bad) := by
 unfold M.sub V.mSub
 rw [anyG2]
 by_cases h:(isG a || isG b) = true
 · simp [h,V.gv,V.gn]
 · have h' : (isG a || isG b) = false := by simpa using h
   simp only [h',Bool.false_eq_true,if_false]
   simp only [Bool.or_eq_false_iff,isG_false] at h'
   rw [IntWalk.i64_in _ (by omega)]
noncomputable def sub_h {α:Type} (ds:List D) (Q:SV → Hp → Option α):Option α :=
 dB ds fun bad ds => dI ds fun a ds => dI ds fun b ds => dE ds (Q (.int .i64 (V.gv (V.mSub a b))) ([.cells [.bool (V.gn (V.mSub a b) bad)] 50]))
theorem sub_h_ok {α:Type}:FnOk E.P 38 (fEnt (α := α) sub_sp sub_h) :=
 fEnt_ok E (look_add_ok) (exec_sound E E_ok (look_add_ok) (noLps_ok _) 400) fun ds Q r h => by
   unfold sub_h at h
   obtain ⟨bad,ds,rfl,h1⟩ := dB_inv h
   obtain ⟨a,ds,rfl,h2⟩ := dI_inv h1
   obtain ⟨b,ds,rfl,h3⟩ := dI_inv h2
   obtain ⟨rfl,hE⟩ := dE_inv h3
   exact ⟨[SV.ptr (nat_lit 0) (nat_lit 0),SV.int .i64 a,SV.int .i64 b],[.cells [SV.bool bad] (nat_lit 50)],fun vs => by kernel_rfl,(sub_eq bad a b Q).trans ((sub_v bad a b _).trans hE)⟩
noncomputable def look_sub {α:Type}:LookF α := addFn 38 (fEnt sub_sp sub_h) look_add
theorem look_sub_ok {α:Type}:LookOk E.P (look_sub (α := α)) := addFn_ok sub_h_ok (look_add_ok)
end
section
open Go
end
section
open Go
set_option maxRecDepth 20000
noncomputable def M.dot {α:Type} (bad:Bool) (a:List Int) (b:List Int) (k0:Int → Bool → Option α):Option α := if (!cEq (↑(List.length a):Int) (↑(List.length b):Int)) = true then k0 (0:Int) true else if cLt (8:Int) (↑(List.length a):Int) = true then k0 (0:Int) true else if List.length a < (9223372036854775808:Nat) then if V.anyG a = true then k0 (0:Int) true else if List.length b < (9223372036854775808:Nat) then if V.anyG b = true then k0 (0:Int) true else if (List.length a < (9223372036854775808:Nat) ∧ List.length a = List.length b) ∧ V.anyG a = false ∧ V.anyG b = false then k0 (V.shift_r0 bad (hiW (V.dotZ a b)) (loW (V.dotZ a b))) (V.shift_r1 bad (hiW (V.dotZ a b)) (loW (V.dotZ a b))) else none else none else none
theorem dot_eq {α:Type} (bad:Bool) (a:List Int) (b:List Int) (v0:Value) (v1:Value) (Q:SV → Hp → Option α):callI E look_sub (exec E look_sub noLps 400) 74 ([SV.ptr (nat_lit 0) (nat_lit 0),SV.ros v0 (K.int IntKind.i64) a,SV.ros v1 (K.int IntKind.i64) b]) ([.cells [SV.bool bad] (nat_lit 50)]) Q = M.dot bad a b (fun (x2:Int) (x3:Bool) => Q (SV.int .i64 x2) ([.cells [SV.bool x3] (nat_lit 50)])) := by kernel_rfl
def dot_sp:List AS := [.ptr 50 [.bool false],.ro (.int .i64),.ro (.int .i64)]
theorem anyG_cons (x:Int) (l:List Int):V.anyG (x :: l) = (isG x || V.anyG l) := by simp [V.anyG]
theorem dotZ_cons (x y:Int) (a b:List Int):V.dotZ (x :: a) (y :: b) = x * y + V.dotZ a b := by simp [V.dotZ]
theorem dotZ_bound:∀ (a b:List Int),V.anyG a = false → V.anyG b = false → -21267647932558653957237540927630737409 * (a.length:Int) ≤ V.dotZ a b ∧ V.dotZ a b ≤ 21267647932558653957237540927630737409 * (a.length:Int)
 | [],b,_,_ => by simp [V.dotZ]
 | x :: a,[],_,_ => by simp [V.dotZ]; omega
 | x :: a,y :: b,ha,hb => by
   rw [anyG_cons,Bool.or_eq_false_iff] at ha hb
   have h1 := prod_G ha.1 hb.1
   have h2 := dotZ_bound a b ha.2 hb.2
   rw [dotZ_cons,List.length_cons]
   push_cast
   omega
theorem dot_v {α:Type} (bad:Bool) (a b:List Int) (k0:Int → Bool → Option α):M.dot bad a b k0 = k0 (V.gv (V.mDot a b)) (V.gn (V.mDot a b) bad) := by
 unfold M.dot V.mDot
 rw [cEq_eq,cLt_eq]
 by_cases h1:a.length = b.length
 · have e1 : ((a.length : Int) == (b.length : Int)) = true := by simp [h1]
   have e2:(a.length != b.length) = false := by simp [h1]
   rw [e1,e2]
   by_cases h2:8 < a.length
   · have : (8 : Int) < (a.length : Int) := by omega
     simp [h2,this,V.gv,V.gn]
   · have : ¬ (8 : Int) < (a.length : Int) := by omega
     have l1:a.length < 9223372036854775808 := by omega
     have l2:b.length < 9223372036854775808 := by omega
     simp only [this,h2,l1,l2,if_true,decide_false,Bool.not_true,Bool.false_or,Bool.or_false,Bool.false_eq_true,if_false]
     cases ga:V.anyG a with
     | true => simp [V.gv,V.gn]
     | false => cases gb:V.anyG b with
       | true => simp [V.gv,V.gn]
       | false =>
         have hb := dotZ_bound a b ga gb
         obtain ⟨s0,s1⟩ := shift_r (x := V.dotZ a b) bad (by omega) (by omega)
         simp [h1,s0,s1]
 · have e1 : ((a.length : Int) == (b.length : Int)) = false := by
     simp only [beq_eq_false_iff_ne,ne_eq]; omega
   have e2:(a.length != b.length) = true := by simp [h1]
   rw [e1,e2]
   simp [V.gv,V.gn]
noncomputable def dot_h {α:Type} (ds:List D) (Q:SV → Hp → Option α):Option α :=
 dB ds fun bad ds => dL (K.int IntKind.i64) ds fun a ds => dL (K.int IntKind.i64) ds fun b ds => dE ds (Q (.int .i64 (V.gv (V.mDot a b))) ([.cells [.bool (V.gn (V.mDot a b) bad)] 50]))
theorem dot_h_ok {α:Type}:FnOk E.P 74 (fEnt (α := α) dot_sp dot_h) :=
 fEntR_ok E (look_sub_ok) (exec_sound E E_ok (look_sub_ok) (noLps_ok _) 400) fun ds Q r h => by
   unfold dot_h at h
   obtain ⟨bad,ds,rfl,h1⟩ := dB_inv h
   obtain ⟨a,ds,rfl,h2⟩ := dL_inv h1
   obtain ⟨b,ds,rfl,h3⟩ := dL_inv h2
   obtain ⟨rfl,hE⟩ := dE_inv h3
   exact ⟨_,_,hE,fun vs => ⟨_,_,by kernel_rfl,(dot_eq bad a b (vs.tail.headD undef) (vs.tail.tail.headD undef) _).trans (dot_v bad a b _)⟩⟩
noncomputable def look_dot {α:Type}:LookF α := addFn 74 (fEnt dot_sp dot_h) look_sub
theorem look_dot_ok {α:Type}:LookOk E.P (look_dot (α := α)) := addFn_ok dot_h_ok (look_sub_ok)
end
section
open Go
def Gd (n:Int):Prop := -4611686018427387903 ≤ n ∧ n ≤ 4611686018427387903
instance (n:Int):Decidable (Gd n) := inferInstanceAs (Decidable (_ ∧ _))
theorem gd_iff (n:Int):isG n = false ↔ Gd n := isG_false n
theorem tl_some {n m:Int}:V.tl n = some m ↔ m = n ∧ Gd m := by
 unfold V.tl
 cases h:isG n with
 | true =>
   have:¬ Gd n := by rw [← gd_iff,h]; simp
   simp; rintro rfl; exact this
 | false =>
   have:Gd n := (gd_iff n).1 h
   simp
   constructor
   · rintro rfl; exact ⟨rfl,this⟩
   · rintro ⟨rfl,_⟩; rfl
theorem guard_some {c:Bool} {o:Option Int} {m:Int}:(if c = true then none else o) = some m ↔ c = false ∧ o = some m := by cases c <;> simp
theorem mAdd_some {a b m:Int}:V.mAdd a b = some m ↔ Gd a ∧ Gd b ∧ Gd m ∧ m = a + b := by
 unfold V.mAdd; rw [guard_some,tl_some,Bool.or_eq_false_iff,gd_iff,gd_iff]; grind
theorem mSub_some {a b m:Int}:V.mSub a b = some m ↔ Gd a ∧ Gd b ∧ Gd m ∧ m = a - b := by
 unfold V.mSub; rw [guard_some,tl_some,Bool.or_eq_false_iff,gd_iff,gd_iff]; grind
theorem qFtl {a c:Int} (ha:-4611686018427387903 ≤ a ∧ a ≤ 4611686018427387903) (hc:0 < c):V.qF (a * 4294967296) c = V.tl (a * 4294967296 / c) := by
 unfold V.qF
 have h1:a * 4294967296 / c * c + a * 4294967296 % c = a * 4294967296 := Int.ediv_mul_add_emod _ c
 have h2:0 ≤ a * 4294967296 % c := Int.emod_nonneg _ (by omega)
 have h3:a * 4294967296 % c < c := Int.emod_lt_of_pos _ hc
 have:(a * 4294967296 / c == -18446744073709551616 && a * 4294967296 % c != 0) = false := by
   by_cases h:a * 4294967296 / c = -18446744073709551616
   · rw [h] at h1
     have:a * 4294967296 % c = 0 := by omega
     simp [this]
   · have : (a * 4294967296 / c == -18446744073709551616) = false := by simpa using h
     simp [this]
 rw [this]
 simp
theorem mDivF (a b:Int):V.mDiv a b = if b == 0 || isG a || isG b then none else V.tl (Int.fdiv (a * 4294967296) b) := by
 unfold V.mDiv V.mRatio
 have e:isG 4294967296 = false := by decide
 rw [e,Bool.or_false]
 cases hG:(b == 0 || isG a || isG b) with
 | true => simp
 | false =>
   simp only [Bool.false_eq_true,if_false]
   simp only [Bool.or_eq_false_iff] at hG
   have ha := (isG_false a).1 hG.1.2
   have h0:¬ b = 0 := by simpa using hG.1.1
   by_cases hb:b < 0
   · simp only [hb, if_true]
     rw [← Int.neg_mul,qFtl (by omega) (by omega),← Int.neg_fdiv_neg,fdiv_pos _ _ (by omega),Int.neg_mul]
   · simp only [hb, if_false]
     rw [qFtl ha (by omega),fdiv_pos _ _ (by omega)]
theorem mDiv_some {a b m:Int}:V.mDiv a b = some m ↔ b ≠ 0 ∧ Gd a ∧ Gd b ∧ Gd m ∧ m = Int.fdiv (a * 4294967296) b := by
 rw [mDivF,guard_some,tl_some,Bool.or_eq_false_iff,Bool.or_eq_false_iff,gd_iff,gd_iff]
 have:(b == 0) = false ↔ b ≠ 0 := by simp
 rw [this]; grind
theorem mDot2_some {a b c d m:Int}:V.mDot [a,b] [c,d] = some m ↔ Gd a ∧ Gd b ∧ Gd c ∧ Gd d ∧ Gd m ∧ m = (a * c + b * d) / 4294967296 := by
 unfold V.mDot V.anyG V.dotZ
 rw [guard_some,tl_some]
 simp only [List.any_cons,List.any_nil,Bool.or_false,Bool.or_eq_false_iff,gd_iff,List.length_cons,List.length_nil,List.zipWith,List.sum_cons,List.sum_nil,Int.add_zero]
 simp; grind
theorem mDot3_some {a b c x y z m:Int}:V.mDot [a,b,c] [x,y,z] = some m ↔ Gd a ∧ Gd b ∧ Gd c ∧ Gd x ∧ Gd y ∧ Gd z ∧ Gd m ∧ m = (a * x + (b * y + c * z)) / 4294967296 := by
 unfold V.mDot V.anyG V.dotZ
 rw [guard_some,tl_some]
 simp only [List.any_cons,List.any_nil,Bool.or_false,Bool.or_eq_false_iff,gd_iff,List.length_cons,List.length_nil,List.zipWith,List.sum_cons,List.sum_nil,Int.add_zero]
 simp; grind
theorem mRt_some {x m:Int}:V.mRt x = some m ↔ m = V.isq x ∧ m ≤ 4611686018427387903 := by
 unfold V.mRt
 by_cases h:4611686018427387903 < V.isq x
 · simp [h]; rintro rfl; omega
 · simp [h]; grind
theorem mNorm4_some {a b c d m:Int}:V.mNorm [a,b,c,d] = some m ↔ Gd a ∧ Gd b ∧ Gd c ∧ Gd d ∧ m = V.isq (a * a + (b * b + (c * c + d * d))) ∧ m ≤ 4611686018427387903 := by
 unfold V.mNorm V.anyG V.dotZ
 rw [guard_some,mRt_some]
 simp only [List.any_cons,List.any_nil,Bool.or_false,Bool.or_eq_false_iff,gd_iff,List.length_cons,List.length_nil,List.zipWith,List.sum_cons,List.sum_nil,Int.add_zero]
 simp; grind
theorem isqEx (n:Nat):∃ r:Int,0 ≤ r ∧ r * r ≤ (n:Int) ∧ (n:Int) < (r + 1) * (r + 1) := by
 induction n with
 | zero => exact ⟨0,by decide,by decide,by decide⟩
 | succ n ih =>
   obtain ⟨r,h0,h1,h2⟩ := ih
   by_cases h:((n + 1:Nat):Int) < (r + 1) * (r + 1)
   · exact ⟨r,h0,by push_cast; omega,h⟩
   · refine ⟨r + 1, by omega, by omega, ?_⟩
     have e:(r + 1 + 1) * (r + 1 + 1) = (r + 1) * (r + 1) + 2 * r + 3 := by grind
     push_cast at h ⊢
     omega
theorem isqSpec {x:Int} (h:0 ≤ x):0 ≤ V.isq x ∧ V.isq x * V.isq x ≤ x ∧ x < (V.isq x + 1) * (V.isq x + 1) := by
 obtain ⟨n,rfl⟩ := Int.eq_ofNat_of_zero_le h
 obtain ⟨r,hr⟩ := isqEx n
 rw [isq_eq hr]; exact hr
theorem sq_nn (a:Int):0 ≤ a * a := by
 rcases Int.le_total 0 a with h | h
 · exact Int.mul_nonneg h h
 · exact Int.mul_nonneg_of_nonpos_of_nonpos h h
theorem sq_le {a r:Int} (hr:0 ≤ r) (h:a * a < (r + 1) * (r + 1)):-r ≤ a ∧ a ≤ r := by
 constructor
 · by_cases h1 : -r ≤ a
   · exact h1
   · have : (r + 1) * (r + 1) ≤ -a * -a := Int.mul_le_mul (by omega) (by omega) (by omega) (by omega)
     have e:-a * -a = a * a := by grind
     omega
 · by_cases h1 : a ≤ r
   · exact h1
   · have : (r + 1) * (r + 1) ≤ a * a := Int.mul_le_mul (by omega) (by omega) (by omega) (by omega)
     omega
theorem gv_some (n:Int):V.gv (some n) = n := rfl
end
section
open Go
set_option maxRecDepth 20000
abbrev P3 := Int × Int × Int
noncomputable def hid {τ:Type} (x:τ):τ := Classical.choose (⟨x,rfl⟩:∃ r:τ,r = x)
theorem hid_eq {τ:Type} (x:τ):hid x = x := Classical.choose_spec (⟨x,rfl⟩:∃ r:τ,r = x)
def _root_.Go.Proofs.YtlagndfhibkjpaaGreat.V.pSub (a b:P3):P3 := (IntKind.wrap .i64 (a.1 - b.1),IntKind.wrap .i64 (a.2.1 - b.2.1),IntKind.wrap .i64 (a.2.2 - b.2.2))
def _root_.Go.Proofs.YtlagndfhibkjpaaGreat.V.pCross (a b:P3):P3 := (IntKind.wrap .i64 (IntKind.wrap .i64 (a.2.1 * b.2.2) - IntKind.wrap .i64 (a.2.2 * b.2.1)),IntKind.wrap .i64 (IntKind.wrap .i64 (a.2.2 * b.1) - IntKind.wrap .i64 (a.1 * b.2.2)),IntKind.wrap .i64 (IntKind.wrap .i64 (a.1 * b.2.1) - IntKind.wrap .i64 (a.2.1 * b.1)))
def _root_.Go.Proofs.YtlagndfhibkjpaaGreat.V.pDot (a b:P3):Int := IntKind.wrap .i64 (IntKind.wrap .i64 (IntKind.wrap .i64 (a.1 * b.1) + IntKind.wrap .i64 (a.2.1 * b.2.1)) + IntKind.wrap .i64 (a.2.2 * b.2.2))
noncomputable def M.shminus {α:Type} (ax:Int) (ay:Int) (az:Int) (bx:Int) (b_y:Int) (bz:Int) (k0:Int → Int → Int → Option α):Option α := k0 (IntKind.wrap .i64 (ax - bx)) (IntKind.wrap .i64 (ay - b_y)) (IntKind.wrap .i64 (az - bz))
theorem shminus_eq {α:Type} (ax:Int) (ay:Int) (az:Int) (bx:Int) (b_y:Int) (bz:Int) (Q:SV → Hp → Option α):callI E look_dot (exec E look_dot noLps 400) 103 ([SV.agg [SV.int .i64 ax,SV.int .i64 ay,SV.int .i64 az],SV.agg [SV.int .i64 bx,SV.int .i64 b_y,SV.int .i64 bz]]) ([]) Q = M.shminus ax ay az bx b_y bz (fun (x0 x1 x2:Int) => Q (SV.agg [SV.int .i64 x0,SV.int .i64 x1,SV.int .i64 x2]) ([])) := by kernel_rfl
def shminus_sp:List AS := [.val (.agg [.int .i64 0,.int .i64 0,.int .i64 0]),.val (.agg [.int .i64 0,.int .i64 0,.int .i64 0])]
noncomputable def shminus_h {α:Type} (ds:List D) (Q:SV → Hp → Option α):Option α :=
 dI ds fun ax ds => dI ds fun ay ds => dI ds fun az ds => dI ds fun bx ds => dI ds fun b_y ds => dI ds fun bz ds => dE ds (Q (.agg [.int .i64 (V.pSub (ax,ay,az) (bx,b_y,bz)).1,.int .i64 (V.pSub (ax,ay,az) (bx,b_y,bz)).2.1,.int .i64 (V.pSub (ax,ay,az) (bx,b_y,bz)).2.2]) ([]))
theorem shminus_h_ok {α:Type}:FnOk E.P 103 (fEnt (α := α) shminus_sp shminus_h) :=
 fEnt_ok E (look_dot_ok) (exec_sound E E_ok (look_dot_ok) (noLps_ok _) 400) fun ds Q r h => by
   unfold shminus_h at h
   obtain ⟨ax,ds,rfl,h1⟩ := dI_inv h
   obtain ⟨ay,ds,rfl,h2⟩ := dI_inv h1
   obtain ⟨az,ds,rfl,h3⟩ := dI_inv h2
   obtain ⟨bx,ds,rfl,h4⟩ := dI_inv h3
   obtain ⟨b_y,ds,rfl,h5⟩ := dI_inv h4
   obtain ⟨bz,ds,rfl,h6⟩ := dI_inv h5
   obtain ⟨rfl,hE⟩ := dE_inv h6
   exact ⟨[SV.agg [SV.int .i64 ax,SV.int .i64 ay,SV.int .i64 az],SV.agg [SV.int .i64 bx,SV.int .i64 b_y,SV.int .i64 bz]],[],fun vs => by kernel_rfl,(shminus_eq ax ay az bx b_y bz Q).trans ((rfl).trans hE)⟩
noncomputable def look_shminus {α:Type}:LookF α := addFn 103 (fEnt shminus_sp shminus_h) look_dot
theorem look_shminus_ok {α:Type}:LookOk E.P (look_shminus (α := α)) := addFn_ok shminus_h_ok (look_dot_ok)
noncomputable def M.shcross {α:Type} (ax:Int) (ay:Int) (az:Int) (bx:Int) (b_y:Int) (bz:Int) (k0:Int → Int → Int → Option α):Option α := k0 (IntKind.wrap .i64 (IntKind.wrap .i64 (ay * bz) - IntKind.wrap .i64 (az * b_y))) (IntKind.wrap .i64 (IntKind.wrap .i64 (az * bx) - IntKind.wrap .i64 (ax * bz))) (IntKind.wrap .i64 (IntKind.wrap .i64 (ax * b_y) - IntKind.wrap .i64 (ay * bx)))
theorem shcross_eq {α:Type} (ax:Int) (ay:Int) (az:Int) (bx:Int) (b_y:Int) (bz:Int) (Q:SV → Hp → Option α):callI E look_shminus (exec E look_shminus noLps 400) 102 ([SV.agg [SV.int .i64 ax,SV.int .i64 ay,SV.int .i64 az],SV.agg [SV.int .i64 bx,SV.int .i64 b_y,SV.int .i64 bz]]) ([]) Q = M.shcross ax ay az bx b_y bz (fun (x3 x4 x5:Int) => Q (SV.agg [SV.int .i64 x3,SV.int .i64 x4,SV.int .i64 x5]) ([])) := by kernel_rfl
def shcross_sp:List AS := [.val (.agg [.int .i64 0,.int .i64 0,.int .i64 0]),.val (.agg [.int .i64 0,.int .i64 0,.int .i64 0])]
noncomputable def shcross_h {α:Type} (ds:List D) (Q:SV → Hp → Option α):Option α :=
 dI ds fun ax ds => dI ds fun ay ds => dI ds fun az ds => dI ds fun bx ds => dI ds fun b_y ds => dI ds fun bz ds => dE ds (Q (.agg [.int .i64 (V.pCross (ax,ay,az) (bx,b_y,bz)).1,.int .i64 (V.pCross (ax,ay,az) (bx,b_y,bz)).2.1,.int .i64 (V.pCross (ax,ay,az) (bx,b_y,bz)).2.2]) ([]))
theorem shcross_h_ok {α:Type}:FnOk E.P 102 (fEnt (α := α) shcross_sp shcross_h) :=
 fEnt_ok E (look_shminus_ok) (exec_sound E E_ok (look_shminus_ok) (noLps_ok _) 400) fun ds Q r h => by
   unfold shcross_h at h
   obtain ⟨ax,ds,rfl,h1⟩ := dI_inv h
   obtain ⟨ay,ds,rfl,h2⟩ := dI_inv h1
   obtain ⟨az,ds,rfl,h3⟩ := dI_inv h2
   obtain ⟨bx,ds,rfl,h4⟩ := dI_inv h3
   obtain ⟨b_y,ds,rfl,h5⟩ := dI_inv h4
   obtain ⟨bz,ds,rfl,h6⟩ := dI_inv h5
   obtain ⟨rfl,hE⟩ := dE_inv h6
   exact ⟨[SV.agg [SV.int .i64 ax,SV.int .i64 ay,SV.int .i64 az],SV.agg [SV.int .i64 bx,SV.int .i64 b_y,SV.int .i64 bz]],[],fun vs => by kernel_rfl,(shcross_eq ax ay az bx b_y bz Q).trans ((rfl).trans hE)⟩
noncomputable def look_shcross {α:Type}:LookF α := addFn 102 (fEnt shcross_sp shcross_h) look_shminus
theorem look_shcross_ok {α:Type}:LookOk E.P (look_shcross (α := α)) := addFn_ok shcross_h_ok (look_shminus_ok)
noncomputable def M.shdot {α:Type} (ax:Int) (ay:Int) (az:Int) (bx:Int) (b_y:Int) (bz:Int) (k0:Int → Option α):Option α := k0 (IntKind.wrap .i64 (IntKind.wrap .i64 (IntKind.wrap .i64 (ax * bx) + IntKind.wrap .i64 (ay * b_y)) + IntKind.wrap .i64 (az * bz)))
theorem shdot_eq {α:Type} (ax:Int) (ay:Int) (az:Int) (bx:Int) (b_y:Int) (bz:Int) (Q:SV → Hp → Option α):callI E look_shcross (exec E look_shcross noLps 400) 112 ([SV.agg [SV.int .i64 ax,SV.int .i64 ay,SV.int .i64 az],SV.agg [SV.int .i64 bx,SV.int .i64 b_y,SV.int .i64 bz]]) ([]) Q = M.shdot ax ay az bx b_y bz (fun (x6:Int) => Q (SV.int .i64 x6) ([])) := by kernel_rfl
def shdot_sp:List AS := [.val (.agg [.int .i64 0,.int .i64 0,.int .i64 0]),.val (.agg [.int .i64 0,.int .i64 0,.int .i64 0])]
noncomputable def shdot_h {α:Type} (ds:List D) (Q:SV → Hp → Option α):Option α :=
 dI ds fun ax ds => dI ds fun ay ds => dI ds fun az ds => dI ds fun bx ds => dI ds fun b_y ds => dI ds fun bz ds => dE ds (Q (.int .i64 (V.pDot (ax,ay,az) (bx,b_y,bz))) ([]))
theorem shdot_h_ok {α:Type}:FnOk E.P 112 (fEnt (α := α) shdot_sp shdot_h) :=
 fEnt_ok E (look_shcross_ok) (exec_sound E E_ok (look_shcross_ok) (noLps_ok _) 400) fun ds Q r h => by
   unfold shdot_h at h
   obtain ⟨ax,ds,rfl,h1⟩ := dI_inv h
   obtain ⟨ay,ds,rfl,h2⟩ := dI_inv h1
   obtain ⟨az,ds,rfl,h3⟩ := dI_inv h2
   obtain ⟨bx,ds,rfl,h4⟩ := dI_inv h3
   obtain ⟨b_y,ds,rfl,h5⟩ := dI_inv h4
   obtain ⟨bz,ds,rfl,h6⟩ := dI_inv h5
   obtain ⟨rfl,hE⟩ := dE_inv h6
   exact ⟨[SV.agg [SV.int .i64 ax,SV.int .i64 ay,SV.int .i64 az],SV.agg [SV.int .i64 bx,SV.int .i64 b_y,SV.int .i64 bz]],[],fun vs => by kernel_rfl,(shdot_eq ax ay az bx b_y bz Q).trans ((rfl).trans hE)⟩
noncomputable def look_shdot {α:Type}:LookF α := addFn 112 (fEnt shdot_sp shdot_h) look_shcross
theorem look_shdot_ok {α:Type}:LookOk E.P (look_shdot (α := α)) := addFn_ok shdot_h_ok (look_shcross_ok)
noncomputable def M.shbeyond {α:Type} (ax:Int) (ay:Int) (az:Int) (n:Int) (k0:Bool → Option α):Option α := if cLt n (if az > if ay > ax then ay else ax then az else if ay > ax then ay else ax) = true then k0 true else k0 (cLt (if az < if ay < ax then ay else ax then az else if ay < ax then ay else ax) (IntKind.wrap .i64 ((0:Int) - n)))
theorem shbeyond_eq {α:Type} (ax:Int) (ay:Int) (az:Int) (n:Int) (Q:SV → Hp → Option α):callI E look_shdot (exec E look_shdot noLps 400) 77 ([SV.agg [SV.int .i64 ax,SV.int .i64 ay,SV.int .i64 az],SV.int .i64 n]) ([]) Q = M.shbeyond ax ay az n (fun (x7:Bool) => Q (SV.bool x7) ([])) := by kernel_rfl
def shbeyond_sp:List AS := [.val (.agg [.int .i64 0,.int .i64 0,.int .i64 0]),.val (.int .i64 0)]
noncomputable def _root_.Go.Proofs.YtlagndfhibkjpaaGreat.V.shbeyond_r0 (ax:Int) (ay:Int) (az:Int) (n:Int):Bool := if cLt n (if az > if ay > ax then ay else ax then az else if ay > ax then ay else ax) = true then true else cLt (if az < if ay < ax then ay else ax then az else if ay < ax then ay else ax) (IntKind.wrap .i64 ((0:Int) - n))
theorem shbeyond_val {α:Type} (ax:Int) (ay:Int) (az:Int) (n:Int) (k0:Bool → Option α):M.shbeyond ax ay az n k0 = k0 (V.shbeyond_r0 ax ay az n) := by
 unfold M.shbeyond V.shbeyond_r0
 repeat' first | rfl | (split <;> rename_i h <;> first | simp only [if_pos h] | simp only [if_neg h] | skip)
noncomputable def shbeyond_c {α:Type} (ds:List D) (Q:SV → Hp → Option α):Option α :=
 dI ds fun ax ds => dI ds fun ay ds => dI ds fun az ds => dI ds fun n ds => dE ds (Q (SV.bool (V.shbeyond_r0 ax ay az n)) ([]))
theorem shbeyond_c_ok {α:Type}:FnOk E.P 77 (fEnt (α := α) shbeyond_sp shbeyond_c) :=
 fEnt_ok E (look_shdot_ok) (exec_sound E E_ok (look_shdot_ok) (noLps_ok _) 400) fun ds Q r h => by
   unfold shbeyond_c at h
   obtain ⟨ax,ds,rfl,h1⟩ := dI_inv h
   obtain ⟨ay,ds,rfl,h2⟩ := dI_inv h1
   obtain ⟨az,ds,rfl,h3⟩ := dI_inv h2
   obtain ⟨n,ds,rfl,h4⟩ := dI_inv h3
   obtain ⟨rfl,hE⟩ := dE_inv h4
   exact ⟨[SV.agg [SV.int .i64 ax,SV.int .i64 ay,SV.int .i64 az],SV.int .i64 n],[],fun vs => by kernel_rfl,(shbeyond_eq ax ay az n Q).trans ((shbeyond_val ax ay az n (fun (x7:Bool) => Q (SV.bool x7) ([]))).trans hE)⟩
noncomputable def look_shbeyond {α:Type}:LookF α := addFn 77 (fEnt shbeyond_sp shbeyond_c) look_shdot
theorem look_shbeyond_ok {α:Type}:LookOk E.P (look_shbeyond (α := α)) := addFn_ok shbeyond_c_ok (look_shdot_ok)
noncomputable def M.shwithin {α:Type} (n:Int) (lo:Int) (hi:Int) (k0:Bool → Option α):Option α := if cLe lo n = true then k0 (cLe n hi) else k0 false
theorem shwithin_eq {α:Type} (n:Int) (lo:Int) (hi:Int) (Q:SV → Hp → Option α):callI E look_shbeyond (exec E look_shbeyond noLps 400) 99 ([SV.int .i64 n,SV.int .i64 lo,SV.int .i64 hi]) ([]) Q = M.shwithin n lo hi (fun (x8:Bool) => Q (SV.bool x8) ([])) := by kernel_rfl
def shwithin_sp:List AS := [.val (.int .i64 0),.val (.int .i64 0),.val (.int .i64 0)]
noncomputable def _root_.Go.Proofs.YtlagndfhibkjpaaGreat.V.shwithin_r0 (n:Int) (lo:Int) (hi:Int):Bool := if cLe lo n = true then cLe n hi else false
theorem shwithin_val {α:Type} (n:Int) (lo:Int) (hi:Int) (k0:Bool → Option α):M.shwithin n lo hi k0 = k0 (V.shwithin_r0 n lo hi) := by
 unfold M.shwithin V.shwithin_r0
 repeat' first | rfl | (split <;> rename_i h <;> first | simp only [if_pos h] | simp only [if_neg h] | skip)
noncomputable def shwithin_c {α:Type} (ds:List D) (Q:SV → Hp → Option α):Option α :=
 dI ds fun n ds => dI ds fun lo ds => dI ds fun hi ds => dE ds (Q (SV.bool (V.shwithin_r0 n lo hi)) ([]))
theorem shwithin_c_ok {α:Type}:FnOk E.P 99 (fEnt (α := α) shwithin_sp shwithin_c) :=
 fEnt_ok E (look_shbeyond_ok) (exec_sound E E_ok (look_shbeyond_ok) (noLps_ok _) 400) fun ds Q r h => by
   unfold shwithin_c at h
   obtain ⟨n,ds,rfl,h1⟩ := dI_inv h
   obtain ⟨lo,ds,rfl,h2⟩ := dI_inv h1
   obtain ⟨hi,ds,rfl,h3⟩ := dI_inv h2
   obtain ⟨rfl,hE⟩ := dE_inv h3
   exact ⟨[SV.int .i64 n,SV.int .i64 lo,SV.int .i64 hi],[],fun vs => by kernel_rfl,(shwithin_eq n lo hi Q).trans ((shwithin_val n lo hi (fun (x8:Bool) => Q (SV.bool x8) ([]))).trans hE)⟩
noncomputable def look_shwithin {α:Type}:LookF α := addFn 99 (fEnt shwithin_sp shwithin_c) look_shbeyond
theorem look_shwithin_ok {α:Type}:LookOk E.P (look_shwithin (α := α)) := addFn_ok shwithin_c_ok (look_shbeyond_ok)
noncomputable def M.shof {α:Type} (d:Int) (ax:Int) (ay:Int) (az:Int) (k0:Int → Int → Int → Option α):Option α := if d = (0:Int) then none else if d = (0:Int) then none else if d = (0:Int) then none else k0 (IntKind.wrap .i64 (Int.tdiv ax d)) (IntKind.wrap .i64 (Int.tdiv ay d)) (IntKind.wrap .i64 (Int.tdiv az d))
theorem shof_eq {α:Type} (d:Int) (ax:Int) (ay:Int) (az:Int) (Q:SV → Hp → Option α):callI E look_shwithin (exec E look_shwithin noLps 400) 79 ([SV.int .i64 d,SV.agg [SV.int .i64 ax,SV.int .i64 ay,SV.int .i64 az]]) ([]) Q = M.shof d ax ay az (fun (x9 x10 x11:Int) => Q (SV.agg [SV.int .i64 x9,SV.int .i64 x10,SV.int .i64 x11]) ([])) := by kernel_rfl
def shof_sp:List AS := [.val (.int .i64 0),.val (.agg [.int .i64 0,.int .i64 0,.int .i64 0])]
noncomputable def _root_.Go.Proofs.YtlagndfhibkjpaaGreat.V.shof_g (d:Int) (ax:Int) (ay:Int) (az:Int):Bool := if d = (0:Int) then false else if d = (0:Int) then false else if d = (0:Int) then false else true
noncomputable def _root_.Go.Proofs.YtlagndfhibkjpaaGreat.V.shof_r0 (d:Int) (ax:Int) (ay:Int) (az:Int):Int := if d = (0:Int) then (0:Int) else if d = (0:Int) then (0:Int) else if d = (0:Int) then (0:Int) else IntKind.wrap .i64 (Int.tdiv ax d)
noncomputable def _root_.Go.Proofs.YtlagndfhibkjpaaGreat.V.shof_r1 (d:Int) (ax:Int) (ay:Int) (az:Int):Int := if d = (0:Int) then (0:Int) else if d = (0:Int) then (0:Int) else if d = (0:Int) then (0:Int) else IntKind.wrap .i64 (Int.tdiv ay d)
noncomputable def _root_.Go.Proofs.YtlagndfhibkjpaaGreat.V.shof_r2 (d:Int) (ax:Int) (ay:Int) (az:Int):Int := if d = (0:Int) then (0:Int) else if d = (0:Int) then (0:Int) else if d = (0:Int) then (0:Int) else IntKind.wrap .i64 (Int.tdiv az d)
theorem shof_val {α:Type} (d:Int) (ax:Int) (ay:Int) (az:Int) (k0:Int → Int → Int → Option α):M.shof d ax ay az k0 = if V.shof_g d ax ay az = true then k0 (V.shof_r0 d ax ay az) (V.shof_r1 d ax ay az) (V.shof_r2 d ax ay az) else none := by
 unfold M.shof V.shof_g V.shof_r0 V.shof_r1 V.shof_r2
 repeat' first | rfl | (split <;> rename_i h <;> first | simp only [if_pos h] | simp only [if_neg h] | skip)
noncomputable def shof_c {α:Type} (ds:List D) (Q:SV → Hp → Option α):Option α :=
 dI ds fun d ds => dI ds fun ax ds => dI ds fun ay ds => dI ds fun az ds => dE ds (if V.shof_g d ax ay az = true then Q (SV.agg [SV.int .i64 (V.shof_r0 d ax ay az),SV.int .i64 (V.shof_r1 d ax ay az),SV.int .i64 (V.shof_r2 d ax ay az)]) ([]) else none)
theorem shof_c_ok {α:Type}:FnOk E.P 79 (fEnt (α := α) shof_sp shof_c) :=
 fEnt_ok E (look_shwithin_ok) (exec_sound E E_ok (look_shwithin_ok) (noLps_ok _) 400) fun ds Q r h => by
   unfold shof_c at h
   obtain ⟨d,ds,rfl,h1⟩ := dI_inv h
   obtain ⟨ax,ds,rfl,h2⟩ := dI_inv h1
   obtain ⟨ay,ds,rfl,h3⟩ := dI_inv h2
   obtain ⟨az,ds,rfl,h4⟩ := dI_inv h3
   obtain ⟨rfl,hE⟩ := dE_inv h4
   exact ⟨[SV.int .i64 d,SV.agg [SV.int .i64 ax,SV.int .i64 ay,SV.int .i64 az]],[],fun vs => by kernel_rfl,(shof_eq d ax ay az Q).trans ((shof_val d ax ay az (fun (x9 x10 x11:Int) => Q (SV.agg [SV.int .i64 x9,SV.int .i64 x10,SV.int .i64 x11]) ([]))).trans hE)⟩
noncomputable def look_shof {α:Type}:LookF α := addFn 79 (fEnt shof_sp shof_c) look_shwithin
theorem look_shof_ok {α:Type}:LookOk E.P (look_shof (α := α)) := addFn_ok shof_c_ok (look_shwithin_ok)
noncomputable def M.shgcd_l0_step {α:Type} (kn:Int → Int → Option α) (k1:Int → Option α) (x14 x15:Int):Option α := if (!cEq x15 (0:Int)) = true then if x15 = (0:Int) then none else kn x15 (Int.tmod x14 x15) else k1 x14
noncomputable def M.shgcd_l0 {α:Type} (k1:Int → Option α):Nat → Int → Int → Option α
 | 0,_,_ => none
 | n + 1,x14,x15 => M.shgcd_l0_step (M.shgcd_l0 k1 n) k1 x14 x15
theorem shgcd_l0_step_eq {α:Type} (x14 x15:Int) (Q:Ex → St → Option α):(loopStep E (exec E look_shof noLps 400) 93 [false,false,true] 0 (codeAt E.P 93 [false,false,true])) (St.mk (some (SV.int .i64 x14) :: some (SV.int .i64 x15) :: nn 13 ([])) []) Q = M.shgcd_l0_step (fun (x17 x18:Int) => Q .normal (St.mk (some (SV.int .i64 x17) :: some (SV.int .i64 x18) :: nn 13 ([])) [])) (fun (x16:Int) => Q (.exit 0) (St.mk (some (SV.int .i64 x16) :: nn 14 ([])) [])) x14 x15 := by kernel_rfl
theorem shgcd_l0_iter {α:Type} (Q:Ex → St → Option α):∀ (n:Nat) (x14 x15:Int),iter (loopStep E (exec E look_shof noLps 400) 93 [false,false,true] 0 (codeAt E.P 93 [false,false,true])) n (St.mk (some (SV.int .i64 x14) :: some (SV.int .i64 x15) :: nn 13 ([])) []) Q = M.shgcd_l0 (fun (x16:Int) => Q (.exit 0) (St.mk (some (SV.int .i64 x16) :: nn 14 ([])) [])) n x14 x15
 | 0,_,_ => rfl
 | n + 1,x14,x15 => (shgcd_l0_step_eq x14 x15 (iterK (loopStep E (exec E look_shof noLps 400) 93 [false,false,true] 0 (codeAt E.P 93 [false,false,true])) n Q)).trans (congrArg (fun kn => M.shgcd_l0_step kn (fun (x16:Int) => Q (.exit 0) (St.mk (some (SV.int .i64 x16) :: nn 14 ([])) [])) x14 x15) (funext fun x14 => funext fun x15 => shgcd_l0_iter Q n x14 x15))
noncomputable def shgcd_l0_go {α:Type} (ds:List D) (Q:Ex → St → Option α):Option α :=
 dI ds fun x14 ds => dI ds fun x15 ds => dE ds (M.shgcd_l0 (fun (x16:Int) => Q (.exit 0) (St.mk (some (SV.int .i64 x16) :: nn 14 ([])) [])) (100) x14 x15)
theorem shgcd_l0_ok {α:Type}:LoopOk E.P 93 [false,false,true] 0 (lEnt (α := α) (St.mk (some (SV.int .i64 (0:Int)) :: some (SV.int .i64 (0:Int)) :: nn 13 ([])) []) shgcd_l0_go) :=
 lEnt_ok E (exec_sound E E_ok (look_shof_ok) (noLps_ok _) 400) fun ds Q r h S hS => by
   unfold shgcd_l0_go at h
   obtain ⟨x14,ds,rfl,h1⟩ := dI_inv h
   obtain ⟨x15,ds,rfl,h2⟩ := dI_inv h1
   obtain ⟨rfl,hE⟩ := dE_inv h2
   have e:fillS (St.mk (some (SV.int .i64 (0:Int)) :: some (SV.int .i64 (0:Int)) :: nn 13 ([])) []) [.i x14,.i x15] = some (St.mk (some (SV.int .i64 x14) :: some (SV.int .i64 x15) :: nn 13 ([])) []) := by kernel_rfl
   rw [e] at hS
   cases hS
   exact ⟨_,(shgcd_l0_iter Q _ x14 x15).trans hE⟩
noncomputable def shgcd_l0_lps {α:Type}:LookL α := addLp 93 [false,false,true] 0 (lEnt (St.mk (some (SV.int .i64 (0:Int)) :: some (SV.int .i64 (0:Int)) :: nn 13 ([])) []) shgcd_l0_go) noLps
theorem shgcd_l0_lps_ok {α:Type}:LoopsOk E.P (shgcd_l0_lps (α := α)) := addLp_ok shgcd_l0_ok (noLps_ok _)
noncomputable def M.shgcd {α:Type} (a:Int) (b:Int) (k0:Int → Option α):Option α := M.shgcd_l0 (fun (x19:Int) ↦ k0 (if IntKind.wrap .i64 ((0:Int) - x19) > x19 then IntKind.wrap .i64 ((0:Int) - x19) else x19)) (100:Nat) a b
theorem shgcd_eq {α:Type} (a:Int) (b:Int) (Q:SV → Hp → Option α):callI E look_shof (exec E look_shof shgcd_l0_lps 400) 93 ([SV.int .i64 a,SV.int .i64 b]) ([]) Q = M.shgcd a b (fun (x20:Int) => Q (SV.int .i64 x20) ([])) := by kernel_rfl
def shgcd_sp:List AS := [.val (.int .i64 0),.val (.int .i64 0)]
theorem mod_half {b r:Nat} (h0:0 < r) (h1:r < b):2 * (b % r) < b := by
 have h2 := Nat.mod_lt b h0
 have h3 := Nat.div_add_mod b r
 have h4:1 ≤ b / r := Nat.div_pos (Nat.le_of_lt h1) h0
 have h5:r * 1 ≤ r * (b / r) := Nat.mul_le_mul_left r h4
 omega
theorem shgcd_l0_val {α:Type} (k1:Int → Option α):∀ (k f:Nat) (a b:Int),b.natAbs < 2 ^ k → 2 * k + 1 ≤ f → ∃ r:Int,M.shgcd_l0 k1 f a b = k1 r ∧ r.natAbs = Nat.gcd a.natAbs b.natAbs := by
 intro k
 induction k with
 | zero =>
   intro f a b hb hf
   obtain ⟨f,rfl⟩:∃ g,f = g + 1 := ⟨f - 1,by omega⟩
   have h0:b = 0 := by simp at hb; exact hb
   subst h0
   exact ⟨a,by simp [M.shgcd_l0,M.shgcd_l0_step,cEq_eq],by simp⟩
 | succ k ih =>
   intro f a b hb hf
   obtain ⟨f,rfl⟩:∃ g,f = g + 2 := ⟨f - 2,by omega⟩
   by_cases h0:b = 0
   · subst h0
     exact ⟨a,by simp [M.shgcd_l0,M.shgcd_l0_step,cEq_eq],by simp⟩
   · by_cases h1 : Int.tmod a b = 0
     · refine ⟨b, by simp [M.shgcd_l0, M.shgcd_l0_step, cEq_eq, h0, h1], ?_⟩
       have e:a.natAbs % b.natAbs = 0 := by rw [← Int.natAbs_tmod,h1]; rfl
       rw [Nat.gcd_comm,Nat.gcd_rec,e,Nat.gcd_zero_left]
     · have hr1 : (Int.tmod a b).natAbs = a.natAbs % b.natAbs := Int.natAbs_tmod ..
       have hr2:(Int.tmod b (Int.tmod a b)).natAbs = b.natAbs % (a.natAbs % b.natAbs) := by rw [Int.natAbs_tmod,hr1]
       have hb0:0 < b.natAbs := Int.natAbs_pos.2 h0
       have hlt := Nat.mod_lt a.natAbs hb0
       have hp:0 < a.natAbs % b.natAbs := by rw [← hr1]; exact Int.natAbs_pos.2 h1
       have hh := mod_half hp hlt
       obtain ⟨r,e1,e2⟩ := ih f (Int.tmod a b) (Int.tmod b (Int.tmod a b)) (by rw [hr2]; rw [Nat.pow_succ] at hb; omega) (by omega)
       refine ⟨r,?_,?_⟩
       · rw [← e1]
         simp [M.shgcd_l0,M.shgcd_l0_step,cEq_eq,h0,h1]
       · rw [e2,hr1,hr2,Nat.gcd_comm,← Nat.gcd_rec,← Nat.gcd_rec,Nat.gcd_comm]
noncomputable def _root_.Go.Proofs.YtlagndfhibkjpaaGreat.V.gcdI (a b:Int):Int := Classical.choose (⟨((Nat.gcd a.natAbs b.natAbs:Nat):Int),rfl⟩:∃ r:Int,r = ((Nat.gcd a.natAbs b.natAbs:Nat):Int))
theorem gcdI_eq (a b:Int):V.gcdI a b = ((Nat.gcd a.natAbs b.natAbs:Nat):Int) := Classical.choose_spec (⟨((Nat.gcd a.natAbs b.natAbs:Nat):Int),rfl⟩:∃ r:Int,r = ((Nat.gcd a.natAbs b.natAbs:Nat):Int))
theorem shgcd_v {α:Type} (a b:Int) (hg:(-9223372036854775808 < a ∧ a < 9223372036854775808) ∧ -562949953421312 < b ∧ b < 562949953421312) (k0:Int → Option α):M.shgcd a b k0 = k0 (V.gcdI a b) := by
 unfold M.shgcd
 obtain ⟨r,e1,e2⟩ := shgcd_l0_val (fun (x19:Int) => k0 (if IntKind.wrap IntKind.i64 ((0:Int) - x19) > x19 then IntKind.wrap IntKind.i64 ((0:Int) - x19) else x19)) 49 100 a b (by omega) (by omega)
 rw [e1]
 have hr:r.natAbs < 9223372036854775808 := by
   rw [e2]
   by_cases h0:b = 0
   · subst h0; simp; omega
   · have := Nat.gcd_le_right a.natAbs (Int.natAbs_pos.2 h0); omega
 rw [IntWalk.i64_in (0 - r) (by omega)]
 rw [gcdI_eq,← e2]
 congr 1
 split <;> omega
noncomputable def shgcd_h {α:Type} (ds:List D) (Q:SV → Hp → Option α):Option α :=
 dI ds fun a ds => dI ds fun b ds => dE ds (if (-9223372036854775808 < a ∧ a < 9223372036854775808) ∧ -562949953421312 < b ∧ b < 562949953421312 then Q (.int .i64 (V.gcdI a b)) ([]) else none)
theorem shgcd_h_ok {α:Type}:FnOk E.P 93 (fEnt (α := α) shgcd_sp shgcd_h) :=
 fEnt_ok E (look_shof_ok) (exec_sound E E_ok (look_shof_ok) (shgcd_l0_lps_ok) 400) fun ds Q r h => by
   unfold shgcd_h at h
   obtain ⟨a,ds,rfl,h1⟩ := dI_inv h
   obtain ⟨b,ds,rfl,h2⟩ := dI_inv h1
   obtain ⟨rfl,hE⟩ := dE_inv h2
   split at hE
   · rename_i hg
     exact ⟨[SV.int .i64 a,SV.int .i64 b],[],fun vs => by kernel_rfl,(shgcd_eq a b Q).trans ((shgcd_v a b hg _).trans hE)⟩
   · cases hE
noncomputable def look_shgcd {α:Type}:LookF α := addFn 93 (fEnt shgcd_sp shgcd_h) look_shof
theorem look_shgcd_ok {α:Type}:LookOk E.P (look_shgcd (α := α)) := addFn_ok shgcd_h_ok (look_shof_ok)
end
section
open Go
set_option maxRecDepth 20000
noncomputable def M.shbare {α:Type} (ax:Int) (ay:Int) (az:Int) (k0:Int → Int → Int → Option α):Option α := if ((-9223372036854775808:Int) < ax ∧ ax < (9223372036854775808:Int)) ∧ (-562949953421312:Int) < ay ∧ ay < (562949953421312:Int) then if ((-9223372036854775808:Int) < V.gcdI ax ay ∧ V.gcdI ax ay < (9223372036854775808:Int)) ∧ (-562949953421312:Int) < az ∧ az < (562949953421312:Int) then if V.shof_g (V.gcdI (V.gcdI ax ay) az) ax ay az = true then k0 (V.shof_r0 (V.gcdI (V.gcdI ax ay) az) ax ay az) (V.shof_r1 (V.gcdI (V.gcdI ax ay) az) ax ay az) (V.shof_r2 (V.gcdI (V.gcdI ax ay) az) ax ay az) else none else none else none
theorem shbare_eq {α:Type} (ax:Int) (ay:Int) (az:Int) (Q:SV → Hp → Option α):callI E look_shgcd (exec E look_shgcd noLps 400) 78 ([SV.agg [SV.int .i64 ax,SV.int .i64 ay,SV.int .i64 az]]) ([]) Q = M.shbare ax ay az (fun (x0 x1 x2:Int) => Q (SV.agg [SV.int .i64 x0,SV.int .i64 x1,SV.int .i64 x2]) ([])) := by kernel_rfl
def shbare_sp:List AS := [.val (.agg [.int .i64 0,.int .i64 0,.int .i64 0])]
noncomputable def _root_.Go.Proofs.YtlagndfhibkjpaaGreat.V.shbare_g (ax:Int) (ay:Int) (az:Int):Bool := if ((-9223372036854775808:Int) < ax ∧ ax < (9223372036854775808:Int)) ∧ (-562949953421312:Int) < ay ∧ ay < (562949953421312:Int) then if ((-9223372036854775808:Int) < V.gcdI ax ay ∧ V.gcdI ax ay < (9223372036854775808:Int)) ∧ (-562949953421312:Int) < az ∧ az < (562949953421312:Int) then if V.shof_g (V.gcdI (V.gcdI ax ay) az) ax ay az = true then true else false else false else false
noncomputable def _root_.Go.Proofs.YtlagndfhibkjpaaGreat.V.shbare_r0 (ax:Int) (ay:Int) (az:Int):Int := if ((-9223372036854775808:Int) < ax ∧ ax < (9223372036854775808:Int)) ∧ (-562949953421312:Int) < ay ∧ ay < (562949953421312:Int) then if ((-9223372036854775808:Int) < V.gcdI ax ay ∧ V.gcdI ax ay < (9223372036854775808:Int)) ∧ (-562949953421312:Int) < az ∧ az < (562949953421312:Int) then if V.shof_g (V.gcdI (V.gcdI ax ay) az) ax ay az = true then V.shof_r0 (V.gcdI (V.gcdI ax ay) az) ax ay az else (0:Int) else (0:Int) else (0:Int)
noncomputable def _root_.Go.Proofs.YtlagndfhibkjpaaGreat.V.shbare_r1 (ax:Int) (ay:Int) (az:Int):Int := if ((-9223372036854775808:Int) < ax ∧ ax < (9223372036854775808:Int)) ∧ (-562949953421312:Int) < ay ∧ ay < (562949953421312:Int) then if ((-9223372036854775808:Int) < V.gcdI ax ay ∧ V.gcdI ax ay < (9223372036854775808:Int)) ∧ (-562949953421312:Int) < az ∧ az < (562949953421312:Int) then if V.shof_g (V.gcdI (V.gcdI ax ay) az) ax ay az = true then V.shof_r1 (V.gcdI (V.gcdI ax ay) az) ax ay az else (0:Int) else (0:Int) else (0:Int)
noncomputable def _root_.Go.Proofs.YtlagndfhibkjpaaGreat.V.shbare_r2 (ax:Int) (ay:Int) (az:Int):Int := if ((-9223372036854775808:Int) < ax ∧ ax < (9223372036854775808:Int)) ∧ (-562949953421312:Int) < ay ∧ ay < (562949953421312:Int) then if ((-9223372036854775808:Int) < V.gcdI ax ay ∧ V.gcdI ax ay < (9223372036854775808:Int)) ∧ (-562949953421312:Int) < az ∧ az < (562949953421312:Int) then if V.shof_g (V.gcdI (V.gcdI ax ay) az) ax ay az = true then V.shof_r2 (V.gcdI (V.gcdI ax ay) az) ax ay az else (0:Int) else (0:Int) else (0:Int)
theorem shbare_val {α:Type} (ax:Int) (ay:Int) (az:Int) (k0:Int → Int → Int → Option α):M.shbare ax ay az k0 = if V.shbare_g ax ay az = true then k0 (V.shbare_r0 ax ay az) (V.shbare_r1 ax ay az) (V.shbare_r2 ax ay az) else none := by
 unfold M.shbare V.shbare_g V.shbare_r0 V.shbare_r1 V.shbare_r2
 repeat' first | rfl | (split <;> rename_i h <;> first | simp only [if_pos h] | simp only [if_neg h] | skip)
noncomputable def shbare_c {α:Type} (ds:List D) (Q:SV → Hp → Option α):Option α :=
 dI ds fun ax ds => dI ds fun ay ds => dI ds fun az ds => dE ds (if V.shbare_g ax ay az = true then Q (SV.agg [SV.int .i64 (V.shbare_r0 ax ay az),SV.int .i64 (V.shbare_r1 ax ay az),SV.int .i64 (V.shbare_r2 ax ay az)]) ([]) else none)
theorem shbare_c_ok {α:Type}:FnOk E.P 78 (fEnt (α := α) shbare_sp shbare_c) :=
 fEnt_ok E (look_shgcd_ok) (exec_sound E E_ok (look_shgcd_ok) (noLps_ok _) 400) fun ds Q r h => by
   unfold shbare_c at h
   obtain ⟨ax,ds,rfl,h1⟩ := dI_inv h
   obtain ⟨ay,ds,rfl,h2⟩ := dI_inv h1
   obtain ⟨az,ds,rfl,h3⟩ := dI_inv h2
   obtain ⟨rfl,hE⟩ := dE_inv h3
   exact ⟨[SV.agg [SV.int .i64 ax,SV.int .i64 ay,SV.int .i64 az]],[],fun vs => by kernel_rfl,(shbare_eq ax ay az Q).trans ((shbare_val ax ay az (fun (x0 x1 x2:Int) => Q (SV.agg [SV.int .i64 x0,SV.int .i64 x1,SV.int .i64 x2]) ([]))).trans hE)⟩
noncomputable def look_shbare {α:Type}:LookF α := addFn 78 (fEnt shbare_sp shbare_c) look_shgcd
theorem look_shbare_ok {α:Type}:LookOk E.P (look_shbare (α := α)) := addFn_ok shbare_c_ok (look_shgcd_ok)
noncomputable abbrev short_S1 (y1 y2 y3 y4 y5 y6:Int):St := St.mk (none :: some (SV.ptr (nat_lit 0) (nat_lit 0)) :: some (SV.ptr (nat_lit 1) (nat_lit 0)) :: nn 16 ([])) [.cells [SV.int .i64 y1,SV.int .i64 y2,SV.int .i64 y3] (nat_lit 23),.cells [SV.int .i64 y4,SV.int .i64 y5,SV.int .i64 y6] (nat_lit 23)]
noncomputable abbrev short_S2:St := St.mk (none :: some (SV.ptr (nat_lit 0) (nat_lit 0)) :: some (SV.ptr (nat_lit 1) (nat_lit 0)) :: nn 16 ([])) [.cells [SV.int .i64 (0:Int),SV.int .i64 (0:Int),SV.int .i64 (0:Int)] (nat_lit 23),.cells [SV.int .i64 (0:Int),SV.int .i64 (0:Int),SV.int .i64 (0:Int)] (nat_lit 23)]
noncomputable def M.short_l0_step {α:Type} (kn:Int → Int → Int → Option α) (k1:Int → Int → Int → Option α) (x9 x10 x11:Int):Option α := if V.shbeyond_r0 x9 x10 x11 (1048576:Int) = true then if V.shof_g (2:Int) x9 x10 x11 = true then kn (V.shof_r0 (2:Int) x9 x10 x11) (V.shof_r1 (2:Int) x9 x10 x11) (V.shof_r2 (2:Int) x9 x10 x11) else none else k1 x9 x10 x11
noncomputable def M.short_l0 {α:Type} (k1:Int → Int → Int → Option α):Nat → Int → Int → Int → Option α
 | 0,_,_,_ => none
 | n + 1,x9,x10,x11 => M.short_l0_step (M.short_l0 k1 n) k1 x9 x10 x11
theorem short_l0_step_eq {α:Type} (x9 x10 x11 x12 x13 x14:Int) (Q:Ex → St → Option α):(loopStep E (exec E look_shbare noLps 400) 46 [false,false,true,true,true] 0 (codeAt E.P 46 [false,false,true,true,true])) (short_S1 x9 x10 x11 x12 x13 x14) Q = M.short_l0_step (fun (x18 x19 x20:Int) => Q .normal (short_S1 x18 x19 x20 x12 x13 x14)) (fun (x15 x16 x17:Int) => Q (.exit 0) (short_S1 x15 x16 x17 x12 x13 x14)) x9 x10 x11 := by kernel_rfl
theorem short_l0_iter {α:Type} (x12 x13 x14:Int) (Q:Ex → St → Option α):∀ (n:Nat) (x9 x10 x11:Int),iter (loopStep E (exec E look_shbare noLps 400) 46 [false,false,true,true,true] 0 (codeAt E.P 46 [false,false,true,true,true])) n (short_S1 x9 x10 x11 x12 x13 x14) Q = M.short_l0 (fun (x15 x16 x17:Int) => Q (.exit 0) (short_S1 x15 x16 x17 x12 x13 x14)) n x9 x10 x11
 | 0,_,_,_ => rfl
 | n + 1,x9,x10,x11 => (short_l0_step_eq x9 x10 x11 x12 x13 x14 (iterK (loopStep E (exec E look_shbare noLps 400) 46 [false,false,true,true,true] 0 (codeAt E.P 46 [false,false,true,true,true])) n Q)).trans (congrArg (fun kn => M.short_l0_step kn (fun (x15 x16 x17:Int) => Q (.exit 0) (short_S1 x15 x16 x17 x12 x13 x14)) x9 x10 x11) (funext fun x9 => funext fun x10 => funext fun x11 => short_l0_iter x12 x13 x14 Q n x9 x10 x11))
noncomputable def short_l0_go {α:Type} (ds:List D) (Q:Ex → St → Option α):Option α :=
 dI ds fun x9 ds => dI ds fun x10 ds => dI ds fun x11 ds => dI ds fun x12 ds => dI ds fun x13 ds => dI ds fun x14 ds => dE ds (M.short_l0 (fun (x15 x16 x17:Int) => Q (.exit 0) (short_S1 x15 x16 x17 x12 x13 x14)) (100) x9 x10 x11)
theorem short_l0_ok {α:Type}:LoopOk E.P 46 [false,false,true,true,true] 0 (lEnt (α := α) (short_S2) short_l0_go) :=
 lEnt_ok E (exec_sound E E_ok (look_shbare_ok) (noLps_ok _) 400) fun ds Q r h S hS => by
   unfold short_l0_go at h
   obtain ⟨x9,ds,rfl,h1⟩ := dI_inv h
   obtain ⟨x10,ds,rfl,h2⟩ := dI_inv h1
   obtain ⟨x11,ds,rfl,h3⟩ := dI_inv h2
   obtain ⟨x12,ds,rfl,h4⟩ := dI_inv h3
   obtain ⟨x13,ds,rfl,h5⟩ := dI_inv h4
   obtain ⟨x14,ds,rfl,h6⟩ := dI_inv h5
   obtain ⟨rfl,hE⟩ := dE_inv h6
   have e:fillS (short_S2) [.i x9,.i x10,.i x11,.i x12,.i x13,.i x14] = some (short_S1 x9 x10 x11 x12 x13 x14) := by kernel_rfl
   rw [e] at hS
   cases hS
   exact ⟨_,(short_l0_iter x12 x13 x14 Q _ x9 x10 x11).trans hE⟩
noncomputable def short_l0_lps {α:Type}:LookL α := addLp 46 [false,false,true,true,true] 0 (lEnt (short_S2) short_l0_go) noLps
theorem short_l0_lps_ok {α:Type}:LoopsOk E.P (short_l0_lps (α := α)) := addLp_ok short_l0_ok (noLps_ok _)
noncomputable def M.short {α:Type} (ax:Int) (ay:Int) (az:Int) (k0:Int → Int → Int → Option α):Option α := if V.shbeyond_r0 ax ay az (4398046511104:Int) = true then k0 (0:Int) (0:Int) (0:Int) else if (cEq ax (0:Int) && (cEq ay (0:Int) && (cEq az (0:Int) && true))) = true then k0 (0:Int) (0:Int) (0:Int) else if V.shbare_g ax ay az = true then M.short_l0 (fun (x21 x22 x23:Int) ↦ if V.shbare_g x21 x22 x23 = true then k0 (V.shbare_r0 x21 x22 x23) (V.shbare_r1 x21 x22 x23) (V.shbare_r2 x21 x22 x23) else none) (100:Nat) (V.shbare_r0 ax ay az) (V.shbare_r1 ax ay az) (V.shbare_r2 ax ay az) else none
theorem short_eq {α:Type} (ax:Int) (ay:Int) (az:Int) (Q:SV → Hp → Option α):callI E look_shbare (exec E look_shbare short_l0_lps 400) 46 ([SV.agg [SV.int .i64 ax,SV.int .i64 ay,SV.int .i64 az]]) ([]) Q = M.short ax ay az (fun (x24 x25 x26:Int) => Q (SV.agg [SV.int .i64 x24,SV.int .i64 x25,SV.int .i64 x26]) ([])) := by kernel_rfl
def short_sp:List AS := [.val (.agg [.int .i64 0,.int .i64 0,.int .i64 0])]
def gcd3 (p:P3):Nat := Nat.gcd (Nat.gcd p.1.natAbs p.2.1.natAbs) p.2.2.natAbs
def divP (p:P3) (n:Int):P3 := (p.1.tdiv n,p.2.1.tdiv n,p.2.2.tdiv n)
def bareP (p:P3):P3 := divP p (gcd3 p)
def bigP (p:P3) (n:Int):Bool := decide (n < p.1) || decide (p.1 < -n) || decide (n < p.2.1) || decide (p.2.1 < -n) || decide (n < p.2.2) || decide (p.2.2 < -n)
def shrinkP:Nat → P3 → P3
 | 0,p => p
 | n + 1,p => if bigP p 1048576 then shrinkP n (divP p 2) else p
def shortP (p:P3):P3 := if bigP p 4398046511104 then (0,0,0) else bareP (shrinkP 64 (bareP p))
noncomputable def _root_.Go.Proofs.YtlagndfhibkjpaaGreat.V.pShort (p:P3):P3 := hid (shortP p)
theorem max_spec (x y:Int):∃ m,(if y > x then y else x) = m ∧ x ≤ m ∧ y ≤ m ∧ (m = x ∨ m = y) := by
 refine ⟨_,rfl,?_⟩
 split <;> omega
theorem min_spec (x y:Int):∃ m,(if y < x then y else x) = m ∧ m ≤ x ∧ m ≤ y ∧ (m = x ∨ m = y) := by
 refine ⟨_,rfl,?_⟩
 split <;> omega
theorem beyond_eq (p:P3) (n:Int) (hn:0 ≤ n ∧ n < 9223372036854775808):V.shbeyond_r0 p.1 p.2.1 p.2.2 n = bigP p n := by
 obtain ⟨x,y,z⟩ := p
 unfold V.shbeyond_r0 bigP
 rw [IntWalk.i64_in (0 - n) (by omega)]
 simp only [cLt_eq]
 obtain ⟨a,e1,h1⟩ := max_spec x y
 obtain ⟨b,e2,h2⟩ := min_spec x y
 rw [e1,e2]
 obtain ⟨c,e3,h3⟩ := max_spec a z
 obtain ⟨d,e4,h4⟩ := min_spec b z
 rw [e3,e4,Bool.eq_iff_iff]
 by_cases hc:n < c
 · simp only [hc,decide_true,if_true,true_iff,Bool.or_eq_true,decide_eq_true_eq]; omega
 · simp only [hc,decide_false,Bool.false_eq_true,if_false,Bool.or_eq_true,decide_eq_true_eq]; omega
theorem bigP_false {p:P3} {n:Int} (h:bigP p n = false):(-n ≤ p.1 ∧ p.1 ≤ n) ∧ (-n ≤ p.2.1 ∧ p.2.1 ≤ n) ∧ (-n ≤ p.2.2 ∧ p.2.2 ≤ n) := by
 simp [bigP] at h; omega
theorem bigP_eq_false {p:P3} {n:Int} (h:(-n ≤ p.1 ∧ p.1 ≤ n) ∧ (-n ≤ p.2.1 ∧ p.2.1 ≤ n) ∧ (-n ≤ p.2.2 ∧ p.2.2 ≤ n)):bigP p n = false := by
 simp [bigP]; omega
theorem tdiv_size (x n:Int):(x.tdiv n).natAbs ≤ x.natAbs := by
 rw [Int.natAbs_tdiv]; exact Nat.div_le_self _ _
theorem bigP_div {p:P3} {m:Int} (n:Int) (h:bigP p m = false):bigP (divP p n) m = false := by
 have h := bigP_false h
 have h1 := tdiv_size p.1 n
 have h2 := tdiv_size p.2.1 n
 have h3 := tdiv_size p.2.2 n
 apply bigP_eq_false
 simp only [divP]
 omega
theorem of_val (p:P3) (d:Int) (hd:d ≠ 0) (hp:bigP p 4398046511104 = false):V.shof_g d p.1 p.2.1 p.2.2 = true ∧ (V.shof_r0 d p.1 p.2.1 p.2.2,V.shof_r1 d p.1 p.2.1 p.2.2,V.shof_r2 d p.1 p.2.1 p.2.2) = divP p d := by
 have h := bigP_false (bigP_div d hp)
 unfold V.shof_g V.shof_r0 V.shof_r1 V.shof_r2
 simp only [if_neg hd,true_and]
 simp only [divP] at h ⊢
 rw [IntWalk.i64_in _ (by omega),IntWalk.i64_in _ (by omega),IntWalk.i64_in _ (by omega)]
theorem gcd3_pos {p:P3} (h:p ≠ (0,0,0)):0 < gcd3 p := by
 obtain ⟨x,y,z⟩ := p
 unfold gcd3
 simp only
 apply Nat.pos_of_ne_zero
 intro h0
 rw [Nat.gcd_eq_zero_iff,Nat.gcd_eq_zero_iff] at h0
 apply h
 simp only [Int.natAbs_eq_zero] at h0
 rw [h0.1.1,h0.1.2,h0.2]
theorem bare_val (p:P3) (h0:p ≠ (0,0,0)) (hp:bigP p 4398046511104 = false):V.shbare_g p.1 p.2.1 p.2.2 = true ∧ (V.shbare_r0 p.1 p.2.1 p.2.2,V.shbare_r1 p.1 p.2.1 p.2.2,V.shbare_r2 p.1 p.2.1 p.2.2) = bareP p := by
 have h := bigP_false hp
 have hg1:V.gcdI p.1 p.2.1 = ((Nat.gcd p.1.natAbs p.2.1.natAbs:Nat):Int) := gcdI_eq _ _
 have hgl:Nat.gcd p.1.natAbs p.2.1.natAbs ≤ 4398046511104 := by
   by_cases hx:p.1.natAbs = 0
   · rw [hx,Nat.gcd_zero_left]; omega
   · have := Nat.gcd_le_left p.2.1.natAbs (Nat.pos_of_ne_zero hx); omega
 have hg:V.gcdI (V.gcdI p.1 p.2.1) p.2.2 = (gcd3 p:Int) := by rw [gcdI_eq,hg1,Int.natAbs_natCast]; rfl
 have hpos := gcd3_pos h0
 obtain ⟨o1,o2⟩ := of_val p (gcd3 p) (by omega) hp
 unfold V.shbare_g V.shbare_r0 V.shbare_r1 V.shbare_r2
 rw [hg]
 have c1:((-9223372036854775808:Int) < p.1 ∧ p.1 < (9223372036854775808:Int)) ∧ (-562949953421312:Int) < p.2.1 ∧ p.2.1 < (562949953421312:Int) := by omega
 have c2:((-9223372036854775808:Int) < V.gcdI p.1 p.2.1 ∧ V.gcdI p.1 p.2.1 < (9223372036854775808:Int)) ∧ (-562949953421312:Int) < p.2.2 ∧ p.2.2 < (562949953421312:Int) := by rw [hg1]; omega
 simp only [if_pos c1,if_pos c2,if_pos o1,true_and]
 exact o2
theorem half_abs (x:Int):(x.tdiv 2).natAbs = x.natAbs / 2 := Int.natAbs_tdiv x 2
theorem divP2_ne {p:P3} (h:bigP p 1048576 = true):divP p 2 ≠ (0,0,0) := by
 intro h0
 simp only [divP,Prod.mk.injEq] at h0
 simp [bigP] at h
 have h1 := half_abs p.1
 have h2 := half_abs p.2.1
 have h3 := half_abs p.2.2
 rw [h0.1] at h1; rw [h0.2.1] at h2; rw [h0.2.2] at h3
 omega
def lim (k:Nat):Int := 1048576 * ((2 ^ k:Nat):Int)
theorem lim_zero:lim 0 = 1048576 := by simp [lim]
theorem lim_succ (k:Nat):lim (k + 1) = 2 * lim k := by
 unfold lim
 rw [Nat.pow_succ,Int.natCast_mul]
 omega
theorem lim_64:4398046511104 ≤ lim 64 := by
 unfold lim
 decide
theorem halved {p:P3} {k:Nat} (h:bigP p (lim (k + 1)) = false):bigP (divP p 2) (lim k) = false := by
 have h := bigP_false h
 apply bigP_eq_false
 simp only [divP]
 rw [lim_succ] at h
 generalize lim k = q at *
 have h1 := half_abs p.1
 have h2 := half_abs p.2.1
 have h3 := half_abs p.2.2
 omega
theorem shrink_stop (n:Nat) {p:P3} (h:bigP p 1048576 = false):shrinkP n p = p := by
 cases n with
 | zero => rfl
 | succ n => simp [shrinkP,h]
theorem shrink_small:∀ (k n:Nat) (p:P3),bigP p (lim k) = false → k ≤ n → bigP (shrinkP n p) 1048576 = false
 | 0,n,p,h,_ => by
   have h':bigP p 1048576 = false := by rw [← lim_zero]; exact h
   rw [shrink_stop n h']; exact h'
 | k + 1,n,p,h,h1 => by
   obtain ⟨n,rfl⟩:∃ q,n = q + 1 := ⟨n - 1,by omega⟩
   simp only [shrinkP]
   split
   · exact shrink_small k n _ (halved h) (by omega)
   · rename_i hb; simpa using hb
theorem shrink_ne:∀ (n:Nat) (p:P3),p ≠ (0,0,0) → shrinkP n p ≠ (0,0,0)
 | 0,p,h => h
 | n + 1,p,h => by
   simp only [shrinkP]
   split
   · rename_i hb; exact shrink_ne n _ (divP2_ne hb)
   · exact h
theorem shrink_big:∀ (n:Nat) (p:P3) (m:Int),bigP p m = false → bigP (shrinkP n p) m = false
 | 0,p,m,h => h
 | n + 1,p,m,h => by
   simp only [shrinkP]
   split
   · exact shrink_big n _ m (bigP_div 2 h)
   · exact h
theorem short_l0_val {α:Type} (k1:Int → Int → Int → Option α):∀ (k fuel:Nat) (p:P3),bigP p (lim k) = false → bigP p 4398046511104 = false → k < fuel →
   M.short_l0 k1 fuel p.1 p.2.1 p.2.2 = k1 (shrinkP k p).1 (shrinkP k p).2.1 (shrinkP k p).2.2
 | k,0,p,h,h2,h3 => by omega
 | k,f + 1,p,h,h2,h3 => by
   unfold M.short_l0 M.short_l0_step
   rw [beyond_eq p 1048576 (by omega)]
   by_cases hb:bigP p 1048576 = true
   · obtain ⟨o1, o2⟩ := of_val p 2 (by decide) h2
     rw [if_pos hb,if_pos o1]
     cases k with
     | zero => exact absurd hb (by rw [← lim_zero,h]; decide)
     | succ k =>
       have ih := short_l0_val k1 k f (divP p 2) (halved h) (bigP_div 2 h2) (by omega)
       have e:shrinkP (k + 1) p = shrinkP k (divP p 2) := by simp [shrinkP,hb]
       rw [e,← ih,← o2]
   · rw [if_neg hb,shrink_stop k (by simpa using hb)]
theorem divP_ne {p:P3} (h0:p ≠ (0,0,0)):bareP p ≠ (0,0,0) := by
 intro h
 apply h0
 have d1:(gcd3 p:Int) ∣ p.1 := Int.ofNat_dvd_left.2 (Nat.dvd_trans (Nat.gcd_dvd_left _ _) (Nat.gcd_dvd_left _ _))
 have d2:(gcd3 p:Int) ∣ p.2.1 := Int.ofNat_dvd_left.2 (Nat.dvd_trans (Nat.gcd_dvd_left _ _) (Nat.gcd_dvd_right _ _))
 have d3:(gcd3 p:Int) ∣ p.2.2 := Int.ofNat_dvd_left.2 (Nat.gcd_dvd_right _ _)
 simp only [bareP,divP,Prod.mk.injEq] at h
 have e1 := Int.mul_tdiv_cancel' d1
 have e2 := Int.mul_tdiv_cancel' d2
 have e3 := Int.mul_tdiv_cancel' d3
 rw [h.1] at e1; rw [h.2.1] at e2; rw [h.2.2] at e3
 obtain ⟨x,y,z⟩ := p
 simp only [Int.mul_zero] at e1 e2 e3
 rw [← e1,← e2,← e3]
theorem short_v {α:Type} (ax ay az:Int) (k0:Int → Int → Int → Option α):M.short ax ay az k0 = k0 (V.pShort (ax,ay,az)).1 (V.pShort (ax,ay,az)).2.1 (V.pShort (ax,ay,az)).2.2 := by
 unfold M.short V.pShort
 rw [hid_eq]
 have hb := beyond_eq (ax,ay,az) 4398046511104 (by omega)
 simp only at hb
 rw [hb]
 unfold shortP
 by_cases h1:bigP (ax,ay,az) 4398046511104 = true
 · simp only [h1,if_true]
 · have h1' : bigP (ax, ay, az) 4398046511104 = false := by simpa using h1
   simp only [h1',Bool.false_eq_true,if_false]
   by_cases h0:(ax,ay,az) = ((0,0,0):P3)
   · cases h0
     rw [if_pos (by simp [cEq_eq])]
     rfl
   · rw [if_neg (by simp only [cEq_eq, Bool.and_true, Bool.and_eq_true, beq_iff_eq]; rintro ⟨rfl, rfl, rfl⟩; exact h0 rfl)]
     obtain ⟨b1,b2⟩ := bare_val (ax,ay,az) h0 h1'
     simp only at b1 b2
     rw [if_pos b1]
     have hs:bigP (bareP (ax,ay,az)) 4398046511104 = false := bigP_div _ h1'
     have hl := short_l0_val (fun (x21 x22 x23:Int) => if V.shbare_g x21 x22 x23 = true then k0 (V.shbare_r0 x21 x22 x23) (V.shbare_r1 x21 x22 x23) (V.shbare_r2 x21 x22 x23) else none) 64 100 (bareP (ax,ay,az)) (by
       have := bigP_false hs
       apply bigP_eq_false
       have e := lim_64
       omega) hs (by omega)
     rw [← b2] at hl
     simp only at hl
     rw [hl,b2]
     obtain ⟨c1,c2⟩ := bare_val (shrinkP 64 (bareP (ax,ay,az))) (shrink_ne _ _ (divP_ne h0)) (shrink_big _ _ _ hs)
     rw [if_pos c1,← c2]
noncomputable def short_h {α:Type} (ds:List D) (Q:SV → Hp → Option α):Option α :=
 dI ds fun ax ds => dI ds fun ay ds => dI ds fun az ds => dE ds (Q (.agg [.int .i64 (V.pShort (ax,ay,az)).1,.int .i64 (V.pShort (ax,ay,az)).2.1,.int .i64 (V.pShort (ax,ay,az)).2.2]) ([]))
theorem short_h_ok {α:Type}:FnOk E.P 46 (fEnt (α := α) short_sp short_h) :=
 fEnt_ok E (look_shbare_ok) (exec_sound E E_ok (look_shbare_ok) (short_l0_lps_ok) 400) fun ds Q r h => by
   unfold short_h at h
   obtain ⟨ax,ds,rfl,h1⟩ := dI_inv h
   obtain ⟨ay,ds,rfl,h2⟩ := dI_inv h1
   obtain ⟨az,ds,rfl,h3⟩ := dI_inv h2
   obtain ⟨rfl,hE⟩ := dE_inv h3
   exact ⟨[SV.agg [SV.int .i64 ax,SV.int .i64 ay,SV.int .i64 az]],[],fun vs => by kernel_rfl,(short_eq ax ay az Q).trans ((short_v ax ay az _).trans hE)⟩
noncomputable def look_short {α:Type}:LookF α := addFn 46 (fEnt short_sp short_h) look_shbare
theorem look_short_ok {α:Type}:LookOk E.P (look_short (α := α)) := addFn_ok short_h_ok (look_shbare_ok)
end
section
open Go
set_option maxRecDepth 20000
noncomputable def _root_.Go.Proofs.YtlagndfhibkjpaaGreat.V.lenB (n:Nat):Bool := hid (decide (n < 1099511627776))
theorem lenB_lt {n:Nat} (h:V.lenB n = true):n < 1099511627776 := by unfold V.lenB at h; rw [hid_eq] at h; simpa using h
theorem lenB_of {n:Nat} (h:n < 1099511627776):V.lenB n = true := by unfold V.lenB; rw [hid_eq]; simpa using h
theorem w_next {i:Nat} (h:i < 1099511627776):IntKind.wrap .i64 ((i:Int) + 1) = ((i + 1:Nat):Int) := by
 rw [IntWalk.i64_in _ (by omega)]; rfl
theorem toNat_nat (i:Nat):Int.toNat (i:Int) = i := rfl
theorem inB {i n:Nat} (h:i < n):((0:Int) ≤ (i:Int) ∧ (i:Int) < (n:Int)) = True := eq_true (by omega)
theorem cLt_nat (i n:Nat):cLt (i:Int) (n:Int) = decide (i < n) := by
 rw [cLt_eq]; congr 1; exact propext (by omega)
def pt (l:List P3) (i:Nat):P3 := l.getD i (0,0,0)
theorem pt_eq (l:List P3) (i:Nat) (h:i < l.length):pt l i = l[i] := by simp [pt,List.getD_eq_getElem?_getD,h]
theorem drop_pt (l:List P3) (i:Nat) (h:i < l.length):l.drop i = pt l i :: l.drop (i + 1) := by rw [pt_eq l i h,List.drop_eq_getElem_cons h]
theorem pt_mem (l:List P3) (i:Nat) (h:i < l.length):pt l i ∈ l := by rw [pt_eq l i h]; exact List.getElem_mem h
theorem eq3 (x y z:Int) (q:P3):(cEq x q.1 && (cEq y q.2.1 && (cEq z q.2.2 && true))) = decide ((x,y,z) = q) := by
 obtain ⟨a,b,c⟩ := q
 rw [Bool.eq_iff_iff]
 simp [cEq_eq]
def idxF (p:P3):List P3 → Nat → Int
 | [],_ => -1
 | q :: l,i => if p = q then (i:Int) else idxF p l (i + 1)
noncomputable def _root_.Go.Proofs.YtlagndfhibkjpaaGreat.V.idxP (l:List P3) (p:P3):Int := hid (idxF p l 0)
def _root_.Go.Proofs.YtlagndfhibkjpaaGreat.V.hasP (l:List P3) (p:P3):Bool := decide (p ∈ l)
theorem idxF_cons (p q:P3) (l:List P3) (i:Nat):idxF p (q :: l) i = if p = q then (i:Int) else idxF p l (i + 1) := rfl
theorem idxF_has (p:P3):∀ (l:List P3) (i:Nat),decide ((0:Int) ≤ idxF p l i) = decide (p ∈ l)
 | [],i => by simp [idxF]
 | q :: l,i => by
   rw [idxF_cons]
   by_cases h:p = q
   · simp [h]
   · simp only [if_neg h,List.mem_cons,h,false_or]; exact idxF_has p l (i + 1)
noncomputable abbrev index_S1 (y1:Value) (y2:L3) (y3 y4 y5 y6 y7:Int):St := St.mk (some (SV.ros y1 kP y2) :: none :: none :: some (SV.ptr (nat_lit 0) (nat_lit 0)) :: nn 3 (some (SV.int .i64 y3) :: some (SV.int .i64 y4) :: nn 10 ([]))) [.cells [SV.int .i64 y5,SV.int .i64 y6,SV.int .i64 y7] (nat_lit 23)]
noncomputable abbrev index_S2:St := St.mk (some (SV.ros undef kP []) :: none :: none :: some (SV.ptr (nat_lit 0) (nat_lit 0)) :: nn 3 (some (SV.int .i64 (0:Int)) :: some (SV.int .i64 (0:Int)) :: nn 10 ([]))) [.cells [SV.int .i64 (0:Int),SV.int .i64 (0:Int),SV.int .i64 (0:Int)] (nat_lit 23)]
noncomputable def M.index_l0_step {α:Type} (x9:L3) (x10 x12 x13 x14:Int) (kn:Int → Option α) (k0:Int → Option α) (k2:Option α) (x11:Int):Option α := if cLt x11 x10 = true then if (0:Int) ≤ x11 ∧ x11 < (↑(List.length x9):Int) then if (cEq x12 (Prod.fst (List.getD x9 (Int.toNat x11) ((0:Int),(0:Int),(0:Int)))) && (cEq x13 (Prod.fst (Prod.snd (List.getD x9 (Int.toNat x11) ((0:Int),(0:Int),(0:Int))))) && (cEq x14 (Prod.snd (Prod.snd (List.getD x9 (Int.toNat x11) ((0:Int),(0:Int),(0:Int))))) && true))) = true then k0 x11 else kn (IntKind.wrap .i64 (x11 + (1:Int))) else none else k2
noncomputable def M.index_l0 {α:Type} (x9:L3) (x10 x12 x13 x14:Int) (k0:Int → Option α) (k2:Option α):Nat → Int → Option α
 | 0,_ => none
 | n + 1,x11 => M.index_l0_step x9 x10 x12 x13 x14 (M.index_l0 x9 x10 x12 x13 x14 k0 k2 n) k0 k2 x11
theorem index_l0_step_eq {α:Type} (x8:Value) (x9:L3) (x10 x11 x12 x13 x14:Int) (Q:Ex → St → Option α):(loopStep E (exec E look_short noLps 400) 113 [false,true,false,true] 0 (codeAt E.P 113 [false,true,false,true])) (index_S1 x8 x9 x10 x11 x12 x13 x14) Q = M.index_l0_step x9 x10 x12 x13 x14 (fun (x16:Int) => Q .normal (index_S1 x8 x9 x10 x16 x12 x13 x14)) (fun (x15:Int) => Q .ret (St.mk (nn 4 (some (SV.int .i64 x15) :: nn 14 ([]))) [])) (Q (.exit 0) (St.mk (nn 19 ([])) [])) x11 := by kernel_rfl
theorem index_l0_iter {α:Type} (x8:Value) (x9:L3) (x10 x12 x13 x14:Int) (Q:Ex → St → Option α):∀ (n:Nat) (x11:Int),iter (loopStep E (exec E look_short noLps 400) 113 [false,true,false,true] 0 (codeAt E.P 113 [false,true,false,true])) n (index_S1 x8 x9 x10 x11 x12 x13 x14) Q = M.index_l0 x9 x10 x12 x13 x14 (fun (x15:Int) => Q .ret (St.mk (nn 4 (some (SV.int .i64 x15) :: nn 14 ([]))) [])) (Q (.exit 0) (St.mk (nn 19 ([])) [])) n x11
 | 0,_ => rfl
 | n + 1,x11 => (index_l0_step_eq x8 x9 x10 x11 x12 x13 x14 (iterK (loopStep E (exec E look_short noLps 400) 113 [false,true,false,true] 0 (codeAt E.P 113 [false,true,false,true])) n Q)).trans (congrArg (fun kn => M.index_l0_step x9 x10 x12 x13 x14 kn (fun (x15:Int) => Q .ret (St.mk (nn 4 (some (SV.int .i64 x15) :: nn 14 ([]))) [])) (Q (.exit 0) (St.mk (nn 19 ([])) [])) x11) (funext fun x11 => index_l0_iter x8 x9 x10 x12 x13 x14 Q n x11))
noncomputable def index_l0_go {α:Type} (ds:List D) (Q:Ex → St → Option α):Option α :=
 dV ds fun x8 ds => dL kP ds fun x9 ds => dI ds fun x10 ds => dI ds fun x11 ds => dI ds fun x12 ds => dI ds fun x13 ds => dI ds fun x14 ds => dE ds (M.index_l0 x9 x10 x12 x13 x14 (fun (x15:Int) => Q .ret (St.mk (nn 4 (some (SV.int .i64 x15) :: nn 14 ([]))) [])) (Q (.exit 0) (St.mk (nn 19 ([])) [])) (100 + x9.length) x11)
theorem index_l0_ok {α:Type}:LoopOk E.P 113 [false,true,false,true] 0 (lEnt (α := α) (index_S2) index_l0_go) :=
 lEnt_ok E (exec_sound E E_ok (look_short_ok) (noLps_ok _) 400) fun ds Q r h S hS => by
   unfold index_l0_go at h
   obtain ⟨x8,ds,rfl,h1⟩ := dV_inv h
   obtain ⟨x9,ds,rfl,h2⟩ := dL_inv h1
   obtain ⟨x10,ds,rfl,h3⟩ := dI_inv h2
   obtain ⟨x11,ds,rfl,h4⟩ := dI_inv h3
   obtain ⟨x12,ds,rfl,h5⟩ := dI_inv h4
   obtain ⟨x13,ds,rfl,h6⟩ := dI_inv h5
   obtain ⟨x14,ds,rfl,h7⟩ := dI_inv h6
   obtain ⟨rfl,hE⟩ := dE_inv h7
   have e:fillS (index_S2) [.v x8,.l kP x9,.i x10,.i x11,.i x12,.i x13,.i x14] = some (index_S1 x8 x9 x10 x11 x12 x13 x14) := by kernel_rfl
   rw [e] at hS
   cases hS
   exact ⟨_,(index_l0_iter x8 x9 x10 x12 x13 x14 Q _ x11).trans hE⟩
noncomputable def index_l0_lps {α:Type}:LookL α := addLp 113 [false,true,false,true] 0 (lEnt (index_S2) index_l0_go) noLps
theorem index_l0_lps_ok {α:Type}:LoopsOk E.P (index_l0_lps (α := α)) := addLp_ok index_l0_ok (noLps_ok _)
noncomputable def M.index {α:Type} (l:L3) (x:Int) (y:Int) (z:Int) (k0:Int → Option α):Option α := M.index_l0 l (↑(List.length l):Int) x y z (fun (x18:Int) ↦ k0 x18) (k0 (-1:Int)) ((100:Nat) + List.length l) (0:Int)
theorem index_eq {α:Type} (l:L3) (x:Int) (y:Int) (z:Int) (v17:Value) (Q:SV → Hp → Option α):callI E look_short (exec E look_short index_l0_lps 400) 113 ([SV.ros v17 kP l,SV.agg [SV.int .i64 x,SV.int .i64 y,SV.int .i64 z]]) ([]) Q = M.index l x y z (fun (x19:Int) => Q (SV.int .i64 x19) ([])) := by kernel_rfl
def index_sp:List AS := [.ro (.st (.i .i64) [.i .i64,.i .i64]),.val (.agg [.int .i64 0,.int .i64 0,.int .i64 0])]
theorem index_l0_val {α:Type} (l:List P3) (hl:l.length < 1099511627776) (x y z:Int) (k0:Int → Option α):∀ (fuel i:Nat),i ≤ l.length → l.length - i < fuel →
   M.index_l0 l (l.length:Int) x y z k0 (k0 (-1)) fuel (i:Int) = k0 (idxF (x,y,z) (l.drop i) i)
 | 0,i,h1,h2 => by omega
 | f + 1,i,h1,h2 => by
   unfold M.index_l0 M.index_l0_step
   rw [cLt_nat]
   by_cases hi:i < l.length
   · have ih := index_l0_val l hl x y z k0 f (i + 1) (by omega) (by omega)
     rw [w_next (by omega),ih]
     simp only [hi,decide_true,if_true,inB hi,toNat_nat,eq3,decide_eq_true_eq]
     rw [drop_pt l i hi,idxF_cons]
     show (if (x,y,z) = pt l i then _ else _) = _
     split <;> rfl
   · have : i = l.length := by omega
     subst this
     simp [idxF]
theorem index_v {α:Type} (l:List P3) (x y z:Int) (hg:V.lenB l.length = true) (k0:Int → Option α):M.index l x y z k0 = k0 (V.idxP l (x,y,z)) := by
 unfold M.index V.idxP
 rw [hid_eq]
 exact index_l0_val l (lenB_lt hg) x y z k0 _ 0 (by omega) (by omega)
noncomputable def index_h {α:Type} (ds:List D) (Q:SV → Hp → Option α):Option α :=
 dL kP ds fun l ds => dI ds fun x ds => dI ds fun y ds => dI ds fun z ds => dE ds (if V.lenB l.length = true then Q (.int .i64 (V.idxP l (x,y,z))) ([]) else none)
theorem index_h_ok {α:Type}:FnOk E.P 113 (fEnt (α := α) index_sp index_h) :=
 fEntR_ok E (look_short_ok) (exec_sound E E_ok (look_short_ok) (index_l0_lps_ok) 400) fun ds Q r h => by
   unfold index_h at h
   obtain ⟨l,ds,rfl,h1⟩ := dL_inv h
   obtain ⟨x,ds,rfl,h2⟩ := dI_inv h1
   obtain ⟨y,ds,rfl,h3⟩ := dI_inv h2
   obtain ⟨z,ds,rfl,h4⟩ := dI_inv h3
   obtain ⟨rfl,hE⟩ := dE_inv h4
   split at hE
   · rename_i hg
     exact ⟨_,_,hE,fun vs => ⟨_,_,by kernel_rfl,(index_eq l x y z (vs.headD undef) _).trans (index_v l x y z hg _)⟩⟩
   · cases hE
noncomputable def look_index {α:Type}:LookF α := addFn 113 (fEnt index_sp index_h) look_short
theorem look_index_ok {α:Type}:LookOk E.P (look_index (α := α)) := addFn_ok index_h_ok (look_short_ok)
noncomputable def M.contains {α:Type} (l:L3) (x:Int) (y:Int) (z:Int) (k0:Bool → Option α):Option α := if V.lenB (List.length l) = true then k0 (cLe (0:Int) (V.idxP l (x,y,z))) else none
theorem contains_eq {α:Type} (l:L3) (x:Int) (y:Int) (z:Int) (v20:Value) (Q:SV → Hp → Option α):callI E look_index (exec E look_index noLps 400) 105 ([SV.ros v20 kP l,SV.agg [SV.int .i64 x,SV.int .i64 y,SV.int .i64 z]]) ([]) Q = M.contains l x y z (fun (x21:Bool) => Q (SV.bool x21) ([])) := by kernel_rfl
def contains_sp:List AS := [.ro (.st (.i .i64) [.i .i64,.i .i64]),.val (.agg [.int .i64 0,.int .i64 0,.int .i64 0])]
theorem contains_v {α:Type} (l:List P3) (x y z:Int) (hg:V.lenB l.length = true) (k0:Bool → Option α):M.contains l x y z k0 = k0 (V.hasP l (x,y,z)) := by
 unfold M.contains V.hasP V.idxP
 rw [if_pos hg,hid_eq,cLe_eq,idxF_has]
noncomputable def contains_h {α:Type} (ds:List D) (Q:SV → Hp → Option α):Option α :=
 dL kP ds fun l ds => dI ds fun x ds => dI ds fun y ds => dI ds fun z ds => dE ds (if V.lenB l.length = true then Q (.bool (V.hasP l (x,y,z))) ([]) else none)
theorem contains_h_ok {α:Type}:FnOk E.P 105 (fEnt (α := α) contains_sp contains_h) :=
 fEntR_ok E (look_index_ok) (exec_sound E E_ok (look_index_ok) (noLps_ok _) 400) fun ds Q r h => by
   unfold contains_h at h
   obtain ⟨l,ds,rfl,h1⟩ := dL_inv h
   obtain ⟨x,ds,rfl,h2⟩ := dI_inv h1
   obtain ⟨y,ds,rfl,h3⟩ := dI_inv h2
   obtain ⟨z,ds,rfl,h4⟩ := dI_inv h3
   obtain ⟨rfl,hE⟩ := dE_inv h4
   split at hE
   · rename_i hg
     exact ⟨_,_,hE,fun vs => ⟨_,_,by kernel_rfl,(contains_eq l x y z (vs.headD undef) _).trans (contains_v l x y z hg _)⟩⟩
   · cases hE
noncomputable def look_contains {α:Type}:LookF α := addFn 105 (fEnt contains_sp contains_h) look_index
theorem look_contains_ok {α:Type}:LookOk E.P (look_contains (α := α)) := addFn_ok contains_h_ok (look_index_ok)
noncomputable def M.clone {α:Type} (l:L3) (v22:Value) (k0:L3 → Option α):Option α := if (nilV v22 && List.isEmpty l) = true then k0 [] else if ((0:Nat) + List.length l) * (24:Nat) ≤ (140737488355328:Nat) then k0 ([] ++ l) else none
theorem clone_eq {α:Type} (l:L3) (v22:Value) (Q:SV → Hp → Option α):callI E look_contains (exec E look_contains noLps 400) 45 ([SV.ros v22 kP l]) ([]) Q = M.clone l v22 (fun (x23:L3) => Q (SV.sl (nat_lit 0)) ([.seq kP x23 (nat_lit 23)])) := by kernel_rfl
def clone_sp:List AS := [.ro (.st (.i .i64) [.i .i64,.i .i64])]
theorem clone_v {α:Type} (l:List P3) (v:Value) (hg:V.lenB l.length = true) (k0:List P3 → Option α):M.clone l v k0 = k0 l := by
 unfold M.clone
 have := lenB_lt hg
 rw [if_pos (by omega:((0:Nat) + l.length) * 24 ≤ 140737488355328)]
 split
 · rename_i h
   simp only [Bool.and_eq_true,List.isEmpty_iff] at h
   rw [h.2]
 · rfl
noncomputable def clone_h {α:Type} (ds:List D) (Q:SV → Hp → Option α):Option α :=
 dL kP ds fun l ds => dE ds (if V.lenB l.length = true then Q (.sl 0) ([.seq (.st (.i .i64) [.i .i64,.i .i64]) l 23]) else none)
theorem clone_h_ok {α:Type}:FnOk E.P 45 (fEnt (α := α) clone_sp clone_h) :=
 fEntR_ok E (look_contains_ok) (exec_sound E E_ok (look_contains_ok) (noLps_ok _) 400) fun ds Q r h => by
   unfold clone_h at h
   obtain ⟨l,ds,rfl,h1⟩ := dL_inv h
   obtain ⟨rfl,hE⟩ := dE_inv h1
   split at hE
   · rename_i hg
     exact ⟨_,_,hE,fun vs => ⟨_,_,by kernel_rfl,(clone_eq l (vs.headD undef) _).trans (clone_v l _ hg _)⟩⟩
   · cases hE
noncomputable def look_clone {α:Type}:LookF α := addFn 45 (fEnt clone_sp clone_h) look_contains
theorem look_clone_ok {α:Type}:LookOk E.P (look_clone (α := α)) := addFn_ok clone_h_ok (look_contains_ok)
noncomputable abbrev side_S1 (y1 y2:Int) (y3:Value) (y4:L3) (y5 y6 y7 y8 y9 y10 y11 y12:Int):St := St.mk (nn 4 (some (SV.ptr (nat_lit 0) (nat_lit 0)) :: some (SV.ptr (nat_lit 1) (nat_lit 0)) :: none :: some (SV.int .i64 y1) :: some (SV.int .i64 y2) :: nn 3 (some (SV.ros y3 kP y4) :: some (SV.int .i64 y5) :: some (SV.int .i64 y6) :: nn 21 ([])))) [.cells [SV.int .i64 y7,SV.int .i64 y8,SV.int .i64 y9] (nat_lit 23),.cells [SV.int .i64 y10,SV.int .i64 y11,SV.int .i64 y12] (nat_lit 23)]
noncomputable abbrev side_S2:St := St.mk (nn 4 (some (SV.ptr (nat_lit 0) (nat_lit 0)) :: some (SV.ptr (nat_lit 1) (nat_lit 0)) :: none :: some (SV.int .i64 (0:Int)) :: some (SV.int .i64 (0:Int)) :: nn 3 (some (SV.ros undef kP []) :: some (SV.int .i64 (0:Int)) :: some (SV.int .i64 (0:Int)) :: nn 21 ([])))) [.cells [SV.int .i64 (0:Int),SV.int .i64 (0:Int),SV.int .i64 (0:Int)] (nat_lit 23),.cells [SV.int .i64 (0:Int),SV.int .i64 (0:Int),SV.int .i64 (0:Int)] (nat_lit 23)]
noncomputable def M.side_l0_step {α:Type} (x40:L3) (x41 x43 x44 x45 x46 x47 x48:Int) (kn:Int → Int → Int → Option α) (k1:Int → Int → Option α) (x37 x38 x42:Int):Option α := if cLt x42 x41 = true then if (0:Int) ≤ x42 ∧ x42 < (↑(List.length x40):Int) then kn (if V.pDot (x43,x44,x45) (V.pSub (List.getD x40 (Int.toNat x42) ((0:Int),(0:Int),(0:Int))) (x46,x47,x48)) < x37 then V.pDot (x43,x44,x45) (V.pSub (List.getD x40 (Int.toNat x42) ((0:Int),(0:Int),(0:Int))) (x46,x47,x48)) else x37) (if V.pDot (x43,x44,x45) (V.pSub (List.getD x40 (Int.toNat x42) ((0:Int),(0:Int),(0:Int))) (x46,x47,x48)) > x38 then V.pDot (x43,x44,x45) (V.pSub (List.getD x40 (Int.toNat x42) ((0:Int),(0:Int),(0:Int))) (x46,x47,x48)) else x38) (IntKind.wrap .i64 (x42 + (1:Int))) else none else k1 x37 x38
noncomputable def M.side_l0 {α:Type} (x40:L3) (x41 x43 x44 x45 x46 x47 x48:Int) (k1:Int → Int → Option α):Nat → Int → Int → Int → Option α
 | 0,_,_,_ => none
 | n + 1,x37,x38,x42 => M.side_l0_step x40 x41 x43 x44 x45 x46 x47 x48 (M.side_l0 x40 x41 x43 x44 x45 x46 x47 x48 k1 n) k1 x37 x38 x42
theorem side_l0_step_eq {α:Type} (x37 x38:Int) (x39:Value) (x40:L3) (x41 x42 x43 x44 x45 x46 x47 x48:Int) (Q:Ex → St → Option α):(loopStep E (exec E look_clone noLps 400) 104 [false,true,false,true,true] 0 (codeAt E.P 104 [false,true,false,true,true])) (side_S1 x37 x38 x39 x40 x41 x42 x43 x44 x45 x46 x47 x48) Q = M.side_l0_step x40 x41 x43 x44 x45 x46 x47 x48 (fun (x51 x52 x53:Int) => Q .normal (side_S1 x51 x52 x39 x40 x41 x53 x43 x44 x45 x46 x47 x48)) (fun (x49 x50:Int) => Q (.exit 0) (St.mk (nn 7 (some (SV.int .i64 x49) :: some (SV.int .i64 x50) :: nn 27 ([]))) [])) x37 x38 x42 := by kernel_rfl
theorem side_l0_iter {α:Type} (x39:Value) (x40:L3) (x41 x43 x44 x45 x46 x47 x48:Int) (Q:Ex → St → Option α):∀ (n:Nat) (x37 x38 x42:Int),iter (loopStep E (exec E look_clone noLps 400) 104 [false,true,false,true,true] 0 (codeAt E.P 104 [false,true,false,true,true])) n (side_S1 x37 x38 x39 x40 x41 x42 x43 x44 x45 x46 x47 x48) Q = M.side_l0 x40 x41 x43 x44 x45 x46 x47 x48 (fun (x49 x50:Int) => Q (.exit 0) (St.mk (nn 7 (some (SV.int .i64 x49) :: some (SV.int .i64 x50) :: nn 27 ([]))) [])) n x37 x38 x42
 | 0,_,_,_ => rfl
 | n + 1,x37,x38,x42 => (side_l0_step_eq x37 x38 x39 x40 x41 x42 x43 x44 x45 x46 x47 x48 (iterK (loopStep E (exec E look_clone noLps 400) 104 [false,true,false,true,true] 0 (codeAt E.P 104 [false,true,false,true,true])) n Q)).trans (congrArg (fun kn => M.side_l0_step x40 x41 x43 x44 x45 x46 x47 x48 kn (fun (x49 x50:Int) => Q (.exit 0) (St.mk (nn 7 (some (SV.int .i64 x49) :: some (SV.int .i64 x50) :: nn 27 ([]))) [])) x37 x38 x42) (funext fun x37 => funext fun x38 => funext fun x42 => side_l0_iter x39 x40 x41 x43 x44 x45 x46 x47 x48 Q n x37 x38 x42))
noncomputable def side_l0_go {α:Type} (ds:List D) (Q:Ex → St → Option α):Option α :=
 dI ds fun x37 ds => dI ds fun x38 ds => dV ds fun x39 ds => dL kP ds fun x40 ds => dI ds fun x41 ds => dI ds fun x42 ds => dI ds fun x43 ds => dI ds fun x44 ds => dI ds fun x45 ds => dI ds fun x46 ds => dI ds fun x47 ds => dI ds fun x48 ds => dE ds (M.side_l0 x40 x41 x43 x44 x45 x46 x47 x48 (fun (x49 x50:Int) => Q (.exit 0) (St.mk (nn 7 (some (SV.int .i64 x49) :: some (SV.int .i64 x50) :: nn 27 ([]))) [])) (100 + x40.length) x37 x38 x42)
theorem side_l0_ok {α:Type}:LoopOk E.P 104 [false,true,false,true,true] 0 (lEnt (α := α) (side_S2) side_l0_go) :=
 lEnt_ok E (exec_sound E E_ok (look_clone_ok) (noLps_ok _) 400) fun ds Q r h S hS => by
   unfold side_l0_go at h
   obtain ⟨x37,ds,rfl,h1⟩ := dI_inv h
   obtain ⟨x38,ds,rfl,h2⟩ := dI_inv h1
   obtain ⟨x39,ds,rfl,h3⟩ := dV_inv h2
   obtain ⟨x40,ds,rfl,h4⟩ := dL_inv h3
   obtain ⟨x41,ds,rfl,h5⟩ := dI_inv h4
   obtain ⟨x42,ds,rfl,h6⟩ := dI_inv h5
   obtain ⟨x43,ds,rfl,h7⟩ := dI_inv h6
   obtain ⟨x44,ds,rfl,h8⟩ := dI_inv h7
   obtain ⟨x45,ds,rfl,h9⟩ := dI_inv h8
   obtain ⟨x46,ds,rfl,h10⟩ := dI_inv h9
   obtain ⟨x47,ds,rfl,h11⟩ := dI_inv h10
   obtain ⟨x48,ds,rfl,h12⟩ := dI_inv h11
   obtain ⟨rfl,hE⟩ := dE_inv h12
   have e:fillS (side_S2) [.i x37,.i x38,.v x39,.l kP x40,.i x41,.i x42,.i x43,.i x44,.i x45,.i x46,.i x47,.i x48] = some (side_S1 x37 x38 x39 x40 x41 x42 x43 x44 x45 x46 x47 x48) := by kernel_rfl
   rw [e] at hS
   cases hS
   exact ⟨_,(side_l0_iter x39 x40 x41 x43 x44 x45 x46 x47 x48 Q _ x37 x38 x42).trans hE⟩
noncomputable def side_l0_lps {α:Type}:LookL α := addLp 104 [false,true,false,true,true] 0 (lEnt (side_S2) side_l0_go) noLps
theorem side_l0_lps_ok {α:Type}:LoopsOk E.P (side_l0_lps (α := α)) := addLp_ok side_l0_ok (noLps_ok _)
noncomputable def M.side {α:Type} (l:L3) (nx:Int) (ny:Int) (nz:Int) (ax:Int) (ay:Int) (az:Int) (k0:Int → Option α):Option α := M.side_l0 l (↑(List.length l):Int) nx ny nz ax ay az (fun (x55 x56:Int) ↦ if cLe x56 (0:Int) = true then k0 (1:Int) else if cLe (0:Int) x55 = true then k0 (-1:Int) else k0 (0:Int)) ((100:Nat) + List.length l) (0:Int) (0:Int) (0:Int)
theorem side_eq {α:Type} (l:L3) (nx:Int) (ny:Int) (nz:Int) (ax:Int) (ay:Int) (az:Int) (v54:Value) (Q:SV → Hp → Option α):callI E look_clone (exec E look_clone side_l0_lps 400) 104 ([SV.ros v54 kP l,SV.agg [SV.int .i64 nx,SV.int .i64 ny,SV.int .i64 nz],SV.agg [SV.int .i64 ax,SV.int .i64 ay,SV.int .i64 az]]) ([]) Q = M.side l nx ny nz ax ay az (fun (x57:Int) => Q (SV.int .i64 x57) ([])) := by kernel_rfl
def side_sp:List AS := [.ro (.st (.i .i64) [.i .i64,.i .i64]),.val (.agg [.int .i64 0,.int .i64 0,.int .i64 0]),.val (.agg [.int .i64 0,.int .i64 0,.int .i64 0])]
def ahead (n a p:P3):Int := V.pDot n (V.pSub p a)
def _root_.Go.Proofs.YtlagndfhibkjpaaGreat.V.sideP (l:List P3) (n a:P3):Int := if ∀ p ∈ l,ahead n a p ≤ 0 then 1 else if ∀ p ∈ l,0 ≤ ahead n a p then -1 else 0
def minF (n a:P3) (l:List P3) (m:Int):Int := l.foldl (fun m p => if ahead n a p < m then ahead n a p else m) m
def maxF (n a:P3) (l:List P3) (m:Int):Int := l.foldl (fun m p => if ahead n a p > m then ahead n a p else m) m
theorem minF_ge (n a:P3):∀ (l:List P3) (m:Int),0 ≤ minF n a l m ↔ 0 ≤ m ∧ ∀ p ∈ l,0 ≤ ahead n a p
 | [],m => by simp [minF]
 | p :: l,m => by
   have := minF_ge n a l (if ahead n a p < m then ahead n a p else m)
   unfold minF at this ⊢
   rw [List.foldl_cons,this]
   simp only [List.mem_cons,forall_eq_or_imp]
   split <;> constructor <;> rintro ⟨h1,h2⟩ <;> first | exact ⟨by omega,h1,h2⟩ | exact ⟨by omega,by omega,h2⟩ | exact ⟨h2.1,h2.2⟩ | exact ⟨h1,h2.2⟩
theorem maxF_le (n a:P3):∀ (l:List P3) (m:Int),maxF n a l m ≤ 0 ↔ m ≤ 0 ∧ ∀ p ∈ l,ahead n a p ≤ 0
 | [],m => by simp [maxF]
 | p :: l,m => by
   have := maxF_le n a l (if ahead n a p > m then ahead n a p else m)
   unfold maxF at this ⊢
   rw [List.foldl_cons,this]
   simp only [List.mem_cons,forall_eq_or_imp]
   split <;> constructor <;> rintro ⟨h1,h2⟩ <;> first | exact ⟨by omega,h1,h2⟩ | exact ⟨by omega,by omega,h2⟩ | exact ⟨h2.1,h2.2⟩ | exact ⟨h1,h2.2⟩
theorem side_l0_val {α:Type} (l:List P3) (hl:l.length < 1099511627776) (n a:P3) (k1:Int → Int → Option α):∀ (fuel i:Nat) (lo hi:Int),i ≤ l.length → l.length - i < fuel →
   M.side_l0 l (l.length:Int) n.1 n.2.1 n.2.2 a.1 a.2.1 a.2.2 k1 fuel lo hi (i:Int) = k1 (minF n a (l.drop i) lo) (maxF n a (l.drop i) hi)
 | 0,i,lo,hi,h1,h2 => by omega
 | f + 1,i,lo,hi,h1,h2 => by
   unfold M.side_l0 M.side_l0_step
   rw [cLt_nat]
   by_cases hx:i < l.length
   · rw [w_next (by omega), side_l0_val l hl n a k1 f (i + 1) _ _ (by omega) (by omega)]
     simp only [hx,decide_true,if_true,inB hx,toNat_nat]
     rw [drop_pt l i hx]
     rfl
   · have : i = l.length := by omega
     subst this
     simp [minF,maxF]
theorem side_v {α:Type} (l:List P3) (nx ny nz ax ay az:Int) (hg:V.lenB l.length = true) (k0:Int → Option α):M.side l nx ny nz ax ay az k0 = k0 (V.sideP l (nx,ny,nz) (ax,ay,az)) := by
 unfold M.side V.sideP
 have := side_l0_val l (lenB_lt hg) (nx,ny,nz) (ax,ay,az) (fun (x53 x54:Int) => if cLe x54 (0:Int) = true then k0 (1:Int) else if cLe (0:Int) x53 = true then k0 (-1:Int) else k0 (0:Int)) (100 + l.length) 0 0 0 (by omega) (by omega)
 simp only at this
 refine this.trans ?_
 simp only [cLe_eq,decide_eq_true_eq,minF_ge,maxF_le,Int.le_refl,true_and,List.drop_zero]
 split
 · rfl
 · split <;> rfl
noncomputable def side_h {α:Type} (ds:List D) (Q:SV → Hp → Option α):Option α :=
 dL kP ds fun l ds => dI ds fun nx ds => dI ds fun ny ds => dI ds fun nz ds => dI ds fun ax ds => dI ds fun ay ds => dI ds fun az ds => dE ds (if V.lenB l.length = true then Q (.int .i64 (V.sideP l (nx,ny,nz) (ax,ay,az))) ([]) else none)
theorem side_h_ok {α:Type}:FnOk E.P 104 (fEnt (α := α) side_sp side_h) :=
 fEntR_ok E (look_clone_ok) (exec_sound E E_ok (look_clone_ok) (side_l0_lps_ok) 400) fun ds Q r h => by
   unfold side_h at h
   obtain ⟨l,ds,rfl,h1⟩ := dL_inv h
   obtain ⟨nx,ds,rfl,h2⟩ := dI_inv h1
   obtain ⟨ny,ds,rfl,h3⟩ := dI_inv h2
   obtain ⟨nz,ds,rfl,h4⟩ := dI_inv h3
   obtain ⟨ax,ds,rfl,h5⟩ := dI_inv h4
   obtain ⟨ay,ds,rfl,h6⟩ := dI_inv h5
   obtain ⟨az,ds,rfl,h7⟩ := dI_inv h6
   obtain ⟨rfl,hE⟩ := dE_inv h7
   split at hE
   · rename_i hg
     exact ⟨_,_,hE,fun vs => ⟨_,_,by kernel_rfl,(side_eq l nx ny nz ax ay az (vs.headD undef) _).trans (side_v l nx ny nz ax ay az hg _)⟩⟩
   · cases hE
noncomputable def look_side {α:Type}:LookF α := addFn 104 (fEnt side_sp side_h) look_clone
theorem look_side_ok {α:Type}:LookOk E.P (look_side (α := α)) := addFn_ok side_h_ok (look_clone_ok)
def _root_.Go.Proofs.YtlagndfhibkjpaaGreat.V.apartP (l:List P3):Bool := decide ((∀ p ∈ l,bigP p 65536 = false) ∧ l.Nodup)
end
section
open Go
set_option maxRecDepth 20000
def apF:List P3 → List P3 → Bool
 | _,[] => true
 | pre,p :: l => !bigP p 65536 && !decide (p ∈ pre) && apF (pre ++ [p]) l
theorem apF_eq:∀ (l pre:List P3),apF pre l = decide ((∀ p ∈ l,bigP p 65536 = false) ∧ l.Nodup ∧ ∀ p ∈ l,p ∉ pre)
 | [],pre => by simp [apF]
 | p :: l,pre => by
   unfold apF
   rw [apF_eq l,Bool.eq_iff_iff]
   simp only [Bool.and_eq_true,Bool.not_eq_true',decide_eq_false_iff_not,decide_eq_true_eq,List.mem_cons,forall_eq_or_imp,List.nodup_cons,List.mem_append,List.mem_singleton,not_or]
   constructor
   · rintro ⟨⟨h1, h2⟩, h3, h4, h5⟩
     exact ⟨⟨h1,h3⟩,⟨fun hp => (h5 p hp).2.1 rfl,h4⟩,h2,fun q hq => (h5 q hq).1⟩
   · rintro ⟨⟨h1, h2⟩, ⟨h3, h4⟩, h5, h6⟩
     exact ⟨⟨h1,h5⟩,h2,h4,fun q hq => ⟨h6 q hq,(fun e => h3 (e ▸ hq)),by simp⟩⟩
def sub3 (a b:P3):P3 := (a.1 - b.1,a.2.1 - b.2.1,a.2.2 - b.2.2)
def cr3 (a b:P3):P3 := (a.2.1 * b.2.2 - a.2.2 * b.2.1,a.2.2 * b.1 - a.1 * b.2.2,a.1 * b.2.1 - a.2.1 * b.1)
def dt3 (a b:P3):Int := a.1 * b.1 + a.2.1 * b.2.1 + a.2.2 * b.2.2
def det (a b c d:P3):Int := dt3 (cr3 (sub3 b a) (sub3 c a)) (sub3 d a)
def Copl (l:List P3):Prop := ∀ a ∈ l,∀ b ∈ l,∀ c ∈ l,∀ d ∈ l,det a b c d = 0
noncomputable def _root_.Go.Proofs.YtlagndfhibkjpaaGreat.V.flatP (l:List P3):Bool := open Classical in hid (decide (Copl l))
theorem flatP_iff (l:List P3):V.flatP l = true ↔ Copl l := by unfold V.flatP; rw [hid_eq]; simp
def Sm (p:P3) (n:Int):Prop := (-n ≤ p.1 ∧ p.1 ≤ n) ∧ (-n ≤ p.2.1 ∧ p.2.1 ≤ n) ∧ (-n ≤ p.2.2 ∧ p.2.2 ≤ n)
theorem sub_sm {a b:P3} (ha:Sm a 65536) (hb:Sm b 65536):V.pSub a b = sub3 a b ∧ Sm (sub3 a b) 131072 := by
 unfold V.pSub sub3 Sm at *
 simp only
 rw [IntWalk.i64_in _ (by omega),IntWalk.i64_in _ (by omega),IntWalk.i64_in _ (by omega)]
 exact ⟨rfl,by omega⟩
theorem mul_sm {x y n m:Int} (hx:-n ≤ x ∧ x ≤ n) (hy:-m ≤ y ∧ y ≤ m):-(n * m) ≤ x * y ∧ x * y ≤ n * m := by
 have h:(x * y).natAbs ≤ (n * m).natAbs := by
   rw [Int.natAbs_mul,Int.natAbs_mul]; exact Nat.mul_le_mul (by omega) (by omega)
 have:0 ≤ n * m := Int.mul_nonneg (by omega) (by omega)
 omega
theorem cr_sm {a b:P3} (ha:Sm a 131072) (hb:Sm b 131072):V.pCross a b = cr3 a b ∧ Sm (cr3 a b) 34359738368 := by
 obtain ⟨a1,a2,a3⟩ := ha
 obtain ⟨b1,b2,b3⟩ := hb
 have h1 := mul_sm a2 b3
 have h2 := mul_sm a3 b2
 have h3 := mul_sm a3 b1
 have h4 := mul_sm a1 b3
 have h5 := mul_sm a1 b2
 have h6 := mul_sm a2 b1
 unfold V.pCross cr3 Sm
 simp only
 generalize a.2.1 * b.2.2 = p1 at *
 generalize a.2.2 * b.2.1 = p2 at *
 generalize a.2.2 * b.1 = p3 at *
 generalize a.1 * b.2.2 = p4 at *
 generalize a.1 * b.2.1 = p5 at *
 generalize a.2.1 * b.1 = p6 at *
 rw [IntWalk.i64_in p1 (by omega),IntWalk.i64_in p2 (by omega),IntWalk.i64_in p3 (by omega),IntWalk.i64_in p4 (by omega),IntWalk.i64_in p5 (by omega),IntWalk.i64_in p6 (by omega)]
 rw [IntWalk.i64_in _ (by omega),IntWalk.i64_in _ (by omega),IntWalk.i64_in _ (by omega)]
 exact ⟨rfl,by omega⟩
theorem dt_sm {a b:P3} (ha:Sm a 34359738368) (hb:Sm b 131072):V.pDot a b = dt3 a b := by
 obtain ⟨a1,a2,a3⟩ := ha
 obtain ⟨b1,b2,b3⟩ := hb
 have h1 := mul_sm a1 b1
 have h2 := mul_sm a2 b2
 have h3 := mul_sm a3 b3
 unfold V.pDot dt3
 generalize a.1 * b.1 = p1 at *
 generalize a.2.1 * b.2.1 = p2 at *
 generalize a.2.2 * b.2.2 = p3 at *
 rw [IntWalk.i64_in p1 (by omega),IntWalk.i64_in p2 (by omega),IntWalk.i64_in p3 (by omega)]
 rw [IntWalk.i64_in (p1 + p2) (by omega),IntWalk.i64_in _ (by omega)]
theorem zero3 {p:P3}:p = (0,0,0) ↔ p.1 = 0 ∧ p.2.1 = 0 ∧ p.2.2 = 0 := by
 obtain ⟨x,y,z⟩ := p; simp
theorem det_perp {n u v w:P3} (hn:n ≠ (0,0,0)) (hu:dt3 n u = 0) (hv:dt3 n v = 0) (hw:dt3 n w = 0):dt3 (cr3 u v) w = 0 := by
 unfold dt3 cr3 at *
 simp only at *
 have e1:(dt3 (cr3 u v) w) * n.1 = 0 := by unfold dt3 cr3; grind
 have e2:(dt3 (cr3 u v) w) * n.2.1 = 0 := by unfold dt3 cr3; grind
 have e3:(dt3 (cr3 u v) w) * n.2.2 = 0 := by unfold dt3 cr3; grind
 rcases Int.mul_eq_zero.1 e1 with h | h1
 · exact h
 rcases Int.mul_eq_zero.1 e2 with h | h2
 · exact h
 rcases Int.mul_eq_zero.1 e3 with h | h3
 · exact h
 exact absurd (zero3.2 ⟨h1,h2,h3⟩) hn
theorem cr_along {n u v:P3} (hn:n ≠ (0,0,0)) (hu:cr3 n u = (0,0,0)) (hv:cr3 n v = (0,0,0)):cr3 u v = (0,0,0) := by
 simp only [zero3,cr3] at hu hv ⊢
 obtain ⟨u1,u2,u3⟩ := hu
 obtain ⟨v1,v2,v3⟩ := hv
 have key:∀ k,k = n.1 ∨ k = n.2.1 ∨ k = n.2.2 → (u.2.1 * v.2.2 - u.2.2 * v.2.1) * k = 0 ∧ (u.2.2 * v.1 - u.1 * v.2.2) * k = 0 ∧ (u.1 * v.2.1 - u.2.1 * v.1) * k = 0 := by
   rintro k (rfl | rfl | rfl) <;> refine ⟨?_,?_,?_⟩ <;> grind
 have fin:∀ k,k ≠ 0 → (k = n.1 ∨ k = n.2.1 ∨ k = n.2.2) → u.2.1 * v.2.2 - u.2.2 * v.2.1 = 0 ∧ u.2.2 * v.1 - u.1 * v.2.2 = 0 ∧ u.1 * v.2.1 - u.2.1 * v.1 = 0 := by
   intro k hk h
   obtain ⟨a,b,c⟩ := key k h
   exact ⟨(Int.mul_eq_zero.1 a).resolve_right hk,(Int.mul_eq_zero.1 b).resolve_right hk,(Int.mul_eq_zero.1 c).resolve_right hk⟩
 by_cases h1:n.1 = 0
 · by_cases h2 : n.2.1 = 0
   · by_cases h3 : n.2.2 = 0
     · exact absurd (zero3.2 ⟨h1,h2,h3⟩) hn
     · exact fin _ h3 (.inr (.inr rfl))
   · exact fin _ h2 (.inr (.inl rfl))
 · exact fin _ h1 (.inl rfl)
theorem sub_sub (a b c:P3):sub3 a b = sub3 (sub3 a c) (sub3 b c) := by
 unfold sub3; simp only; ext <;> simp only <;> omega
theorem dt_sub (n a b:P3):dt3 n (sub3 a b) = dt3 n a - dt3 n b := by
 unfold dt3 sub3; simp only; grind
theorem cr_sub (n a b:P3):cr3 n (sub3 a b) = sub3 (cr3 n a) (cr3 n b) := by
 unfold cr3 sub3; simp only; ext <;> simp only <;> grind
def firstN (ln p0:P3):List P3 → P3 → P3
 | [],n => n
 | p :: l,n => firstN ln p0 l (if n = (0,0,0) then V.pCross ln (V.pSub p p0) else n)
theorem firstN_cons (ln p0 p:P3) (l:List P3) (n:P3):firstN ln p0 (p :: l) n = firstN ln p0 l (if n = (0,0,0) then V.pCross ln (V.pSub p p0) else n) := rfl
theorem firstN_stay (ln p0:P3):∀ (l:List P3) (n:P3),n ≠ (0,0,0) → firstN ln p0 l n = n
 | [],n,h => rfl
 | p :: l,n,h => by rw [firstN_cons,if_neg h,firstN_stay ln p0 l n h]
theorem firstN_spec (ln p0:P3):∀ (l:List P3),(firstN ln p0 l (0,0,0) = (0,0,0) ∧ ∀ p ∈ l,V.pCross ln (V.pSub p p0) = (0,0,0)) ∨ (firstN ln p0 l (0,0,0) ≠ (0,0,0) ∧ ∃ p ∈ l,firstN ln p0 l (0,0,0) = V.pCross ln (V.pSub p p0))
 | [] => .inl ⟨rfl,by simp⟩
 | p :: l => by
   rw [firstN_cons,if_pos rfl]
   by_cases h:V.pCross ln (V.pSub p p0) = (0,0,0)
   · rw [h]
     rcases firstN_spec ln p0 l with ⟨h1,h2⟩ | ⟨h1,q,h2,h3⟩
     · exact .inl ⟨h1,by simp only [List.mem_cons,forall_eq_or_imp]; exact ⟨h,h2⟩⟩
     · exact .inr ⟨h1,q,by simp [h2],h3⟩
   · rw [firstN_stay _ _ _ _ h]
     exact .inr ⟨h,p,by simp,rfl⟩
theorem sm_of {p:P3} {n:Int} (h:bigP p n = false):Sm p n := bigP_false h
theorem flat_plain (a b:P3) (l:List P3) (hs:∀ p ∈ a :: b :: l,bigP p 65536 = false) (hab:a ≠ b) :
   (∀ p ∈ a :: b :: l,V.pDot (firstN (V.pSub b a) a l (0,0,0)) (V.pSub p a) = 0) ↔ Copl (a :: b :: l) := by
 have sa := sm_of (hs a (by simp))
 have sb := sm_of (hs b (by simp))
 obtain ⟨e1,s1⟩ := sub_sm sb sa
 have hln:sub3 b a ≠ (0,0,0) := by
   intro h
   apply hab
   simp only [zero3,sub3] at h
   obtain ⟨a1,a2,a3⟩ := a
   obtain ⟨b1,b2,b3⟩ := b
   simp only at h
   rw [show a1 = b1 by omega,show a2 = b2 by omega,show a3 = b3 by omega]
 have hn:∀ p ∈ a :: b :: l,V.pCross (V.pSub b a) (V.pSub p a) = cr3 (sub3 b a) (sub3 p a) ∧ Sm (cr3 (sub3 b a) (sub3 p a)) 34359738368 := by
   intro p hp
   obtain ⟨e2,s2⟩ := sub_sm (sm_of (hs p hp)) sa
   rw [e1,e2]
   exact cr_sm s1 s2
 rcases firstN_spec (V.pSub b a) a l with ⟨h1,h2⟩ | ⟨h1,q,hq,h3⟩
 · -- all in one line
   rw [h1]
   constructor
   · intro _ x hx y hy z hz w hw
     have al:∀ p ∈ a :: b :: l,cr3 (sub3 b a) (sub3 p a) = (0,0,0) := by
       intro p hp
       rcases List.mem_cons.1 hp with rfl | hp'
       · simp only [zero3,cr3,sub3]; grind
       · rcases List.mem_cons.1 hp' with rfl | hp''
         · simp only [zero3,cr3,sub3]; grind
         · rw [← (hn p hp).1]; exact h2 p hp''
     have al2:∀ p ∈ a :: b :: l,∀ q ∈ a :: b :: l,cr3 (sub3 b a) (sub3 p q) = (0,0,0) := by
       intro p hp q hq
       rw [sub_sub p q a,cr_sub,al p hp,al q hq]; rfl
     unfold det
     rw [cr_along hln (al2 y hy x hx) (al2 z hz x hx)]
     simp [dt3]
   · intro _ p _
     simp [V.pDot]
     decide
 · have hq' : q ∈ a :: b :: l := by simp [hq]
   obtain ⟨e3,s3⟩ := hn q hq'
   rw [h3] at h1 ⊢
   rw [e3] at h1 ⊢
   have hd:∀ p ∈ a :: b :: l,V.pDot (cr3 (sub3 b a) (sub3 q a)) (V.pSub p a) = dt3 (cr3 (sub3 b a) (sub3 q a)) (sub3 p a) := by
     intro p hp
     obtain ⟨e2,s2⟩ := sub_sm (sm_of (hs p hp)) sa
     rw [e2]; exact dt_sm s3 s2
   constructor
   · intro h x hx y hy z hz w hw
     have h':∀ p ∈ a :: b :: l,∀ r ∈ a :: b :: l,dt3 (cr3 (sub3 b a) (sub3 q a)) (sub3 p r) = 0 := by
       intro p hp r hr
       have g1 := h p hp
       have g2 := h r hr
       rw [hd p hp] at g1
       rw [hd r hr] at g2
       rw [sub_sub p r a,dt_sub,g1,g2]; rfl
     exact det_perp h1 (h' y hy x hx) (h' z hz x hx) (h' w hw x hx)
   · intro h p hp
     rw [hd p hp]
     exact h a (by simp) b (by simp) q hq' p hp
noncomputable abbrev apart_S1 (y1:Value) (y2:L3) (y3:Value) (y4:L3) (y5 y6:Int):St := St.mk (some (SV.ros y1 kP y2) :: nn 4 (some (SV.ros y3 kP y4) :: some (SV.int .i64 y5) :: some (SV.int .i64 y6) :: nn 14 ([]))) []
noncomputable abbrev apart_S2:St := St.mk (some (SV.ros undef kP []) :: nn 4 (some (SV.ros undef kP []) :: some (SV.int .i64 (0:Int)) :: some (SV.int .i64 (0:Int)) :: nn 14 ([]))) []
noncomputable def M.apart_l0_step {α:Type} (x8 x10:L3) (x11:Int) (kn:Int → Option α) (k0:Option α) (k2:Option α) (x12:Int):Option α := if cLt x12 x11 = true then if (0:Int) ≤ x12 ∧ x12 < (↑(List.length x10):Int) then if V.shbeyond_r0 (Prod.fst (List.getD x10 (Int.toNat x12) ((0:Int),(0:Int),(0:Int)))) (Prod.fst (Prod.snd (List.getD x10 (Int.toNat x12) ((0:Int),(0:Int),(0:Int))))) (Prod.snd (Prod.snd (List.getD x10 (Int.toNat x12) ((0:Int),(0:Int),(0:Int))))) (65536:Int) = true then k0 else if (0:Int) ≤ (0:Int) ∧ (0:Int) ≤ x12 ∧ x12 ≤ (↑(List.length x8):Int) then if V.lenB (List.length (List.take (Int.toNat (x12 - (0:Int))) (List.drop (0:Nat) x8))) = true then if V.hasP (List.take (Int.toNat (x12 - (0:Int))) (List.drop (0:Nat) x8)) (List.getD x10 (Int.toNat x12) ((0:Int),(0:Int),(0:Int))) = true then k0 else kn (IntKind.wrap .i64 (x12 + (1:Int))) else none else none else none else k2
noncomputable def M.apart_l0 {α:Type} (x8 x10:L3) (x11:Int) (k0:Option α) (k2:Option α):Nat → Int → Option α
 | 0,_ => none
 | n + 1,x12 => M.apart_l0_step x8 x10 x11 (M.apart_l0 x8 x10 x11 k0 k2 n) k0 k2 x12
theorem apart_l0_step_eq {α:Type} (x7:Value) (x8:L3) (x9:Value) (x10:L3) (x11 x12:Int) (Q:Ex → St → Option α):(loopStep E (exec E look_side noLps 400) 100 [false,true,false,true] 0 (codeAt E.P 100 [false,true,false,true])) (apart_S1 x7 x8 x9 x10 x11 x12) Q = M.apart_l0_step x8 x10 x11 (fun (x13:Int) => Q .normal (apart_S1 x7 x8 x9 x10 x11 x13)) (Q .ret (St.mk (none :: none :: some (SV.bool false) :: nn 19 ([])) [])) (Q (.exit 0) (St.mk (nn 22 ([])) [])) x12 := by kernel_rfl
theorem apart_l0_iter {α:Type} (x7:Value) (x8:L3) (x9:Value) (x10:L3) (x11:Int) (Q:Ex → St → Option α):∀ (n:Nat) (x12:Int),iter (loopStep E (exec E look_side noLps 400) 100 [false,true,false,true] 0 (codeAt E.P 100 [false,true,false,true])) n (apart_S1 x7 x8 x9 x10 x11 x12) Q = M.apart_l0 x8 x10 x11 (Q .ret (St.mk (none :: none :: some (SV.bool false) :: nn 19 ([])) [])) (Q (.exit 0) (St.mk (nn 22 ([])) [])) n x12
 | 0,_ => rfl
 | n + 1,x12 => (apart_l0_step_eq x7 x8 x9 x10 x11 x12 (iterK (loopStep E (exec E look_side noLps 400) 100 [false,true,false,true] 0 (codeAt E.P 100 [false,true,false,true])) n Q)).trans (congrArg (fun kn => M.apart_l0_step x8 x10 x11 kn (Q .ret (St.mk (none :: none :: some (SV.bool false) :: nn 19 ([])) [])) (Q (.exit 0) (St.mk (nn 22 ([])) [])) x12) (funext fun x12 => apart_l0_iter x7 x8 x9 x10 x11 Q n x12))
noncomputable def apart_l0_go {α:Type} (ds:List D) (Q:Ex → St → Option α):Option α :=
 dV ds fun x7 ds => dL kP ds fun x8 ds => dV ds fun x9 ds => dL kP ds fun x10 ds => dI ds fun x11 ds => dI ds fun x12 ds => dE ds (M.apart_l0 x8 x10 x11 (Q .ret (St.mk (none :: none :: some (SV.bool false) :: nn 19 ([])) [])) (Q (.exit 0) (St.mk (nn 22 ([])) [])) (100 + x8.length + x10.length) x12)
theorem apart_l0_ok {α:Type}:LoopOk E.P 100 [false,true,false,true] 0 (lEnt (α := α) (apart_S2) apart_l0_go) :=
 lEnt_ok E (exec_sound E E_ok (look_side_ok) (noLps_ok _) 400) fun ds Q r h S hS => by
   unfold apart_l0_go at h
   obtain ⟨x7,ds,rfl,h1⟩ := dV_inv h
   obtain ⟨x8,ds,rfl,h2⟩ := dL_inv h1
   obtain ⟨x9,ds,rfl,h3⟩ := dV_inv h2
   obtain ⟨x10,ds,rfl,h4⟩ := dL_inv h3
   obtain ⟨x11,ds,rfl,h5⟩ := dI_inv h4
   obtain ⟨x12,ds,rfl,h6⟩ := dI_inv h5
   obtain ⟨rfl,hE⟩ := dE_inv h6
   have e:fillS (apart_S2) [.v x7,.l kP x8,.v x9,.l kP x10,.i x11,.i x12] = some (apart_S1 x7 x8 x9 x10 x11 x12) := by kernel_rfl
   rw [e] at hS
   cases hS
   exact ⟨_,(apart_l0_iter x7 x8 x9 x10 x11 Q _ x12).trans hE⟩
noncomputable def apart_l0_lps {α:Type}:LookL α := addLp 100 [false,true,false,true] 0 (lEnt (apart_S2) apart_l0_go) noLps
theorem apart_l0_lps_ok {α:Type}:LoopsOk E.P (apart_l0_lps (α := α)) := addLp_ok apart_l0_ok (noLps_ok _)
noncomputable def M.apart {α:Type} (l:L3) (k0:Bool → Option α):Option α := M.apart_l0 l l (↑(List.length l):Int) (k0 false) (k0 true) ((100:Nat) + List.length l + List.length l) (0:Int)
theorem apart_eq {α:Type} (l:L3) (v14:Value) (Q:SV → Hp → Option α):callI E look_side (exec E look_side apart_l0_lps 400) 100 ([SV.ros v14 kP l]) ([]) Q = M.apart l (fun (x15:Bool) => Q (SV.bool x15) ([])) := by kernel_rfl
def apart_sp:List AS := [.ro (.st (.i .i64) [.i .i64,.i .i64])]
theorem apart_l0_val {α:Type} (l:List P3) (hl:l.length < 1099511627776) (k0 k2:Option α):∀ (fuel i:Nat),i ≤ l.length → l.length - i < fuel →
   M.apart_l0 l l (l.length:Int) k0 k2 fuel (i:Int) = if apF (l.take i) (l.drop i) = true then k2 else k0
 | 0,i,h1,h2 => by omega
 | f + 1,i,h1,h2 => by
   unfold M.apart_l0 M.apart_l0_step
   rw [cLt_nat]
   by_cases hx:i < l.length
   · rw [w_next (by omega), apart_l0_val l hl k0 k2 f (i + 1) (by omega) (by omega)]
     have hb := beyond_eq (pt l i) 65536 (by omega)
     unfold pt at hb
     have hc:(0:Int) ≤ (0:Int) ∧ (0:Int) ≤ (i:Int) ∧ (i:Int) ≤ (l.length:Int) := by omega
     have ht:List.take (Int.toNat ((i:Int) - 0)) (List.drop 0 l) = l.take i := by rw [Int.sub_zero,toNat_nat,List.drop_zero]
     simp only [hx,decide_true,if_true,inB hx,toNat_nat,hb,if_pos hc,ht]
     rw [if_pos (lenB_of (by rw [List.length_take]; omega)),drop_pt l i hx]
     have e:apF (l.take i) (pt l i :: l.drop (i + 1)) = (!bigP (pt l i) 65536 && !decide (pt l i ∈ l.take i) && apF (l.take i ++ [pt l i]) (l.drop (i + 1))) := rfl
     have e2:l.take (i + 1) = l.take i ++ [pt l i] := by rw [pt_eq l i hx,List.take_add_one,List.getElem?_eq_getElem hx]; rfl
     rw [e,e2]
     unfold V.hasP
     show (if bigP (pt l i) 65536 = true then k0 else if decide (pt l i ∈ l.take i) = true then k0 else _) = _
     cases bigP (pt l i) 65536 with
     | true => simp
     | false =>
       cases decide (pt l i ∈ l.take i) with
       | true => simp
       | false => simp
   · have : i = l.length := by omega
     subst this
     simp [apF]
theorem apart_v {α:Type} (l:List P3) (hg:V.lenB l.length = true) (k0:Bool → Option α):M.apart l k0 = k0 (V.apartP l) := by
 unfold M.apart V.apartP
 refine (apart_l0_val l (lenB_lt hg) (k0 false) (k0 true) (100 + l.length + l.length) 0 (by omega) (by omega)).trans ?_
 rw [List.take_zero,List.drop_zero,apF_eq]
 simp only [List.not_mem_nil,not_false_eq_true,implies_true,and_true]
 cases decide ((∀ p ∈ l,bigP p 65536 = false) ∧ l.Nodup) <;> rfl
noncomputable def apart_h {α:Type} (ds:List D) (Q:SV → Hp → Option α):Option α :=
 dL kP ds fun l ds => dE ds (if V.lenB l.length = true then Q (.bool (V.apartP l)) ([]) else none)
theorem apart_h_ok {α:Type}:FnOk E.P 100 (fEnt (α := α) apart_sp apart_h) :=
 fEntR_ok E (look_side_ok) (exec_sound E E_ok (look_side_ok) (apart_l0_lps_ok) 400) fun ds Q r h => by
   unfold apart_h at h
   obtain ⟨l,ds,rfl,h1⟩ := dL_inv h
   obtain ⟨rfl,hE⟩ := dE_inv h1
   split at hE
   · rename_i hg
     exact ⟨_,_,hE,fun vs => ⟨_,_,by kernel_rfl,(apart_eq l (vs.headD undef) _).trans (apart_v l hg _)⟩⟩
   · cases hE
noncomputable def look_apart {α:Type}:LookF α := addFn 100 (fEnt apart_sp apart_h) look_side
theorem look_apart_ok {α:Type}:LookOk E.P (look_apart (α := α)) := addFn_ok apart_h_ok (look_side_ok)
noncomputable abbrev flat_S1 (y1:Value) (y2:L3) (y3 y4:Int) (y5:Value) (y6:L3) (y7 y8 y9 y10 y11 y12:Int):St := St.mk (none :: some (SV.ptr (nat_lit 0) (nat_lit 0)) :: none :: some (SV.ptr (nat_lit 1) (nat_lit 0)) :: some (SV.ptr (nat_lit 2) (nat_lit 0)) :: nn 10 (some (SV.ros y1 kP y2) :: some (SV.int .i64 y3) :: some (SV.int .i64 y4) :: nn 18 ([]))) [.cells [SV.ros y5 kP y6] (nat_lit 24),.cells [SV.int .i64 y7,SV.int .i64 y8,SV.int .i64 y9] (nat_lit 23),.cells [SV.int .i64 y10,SV.int .i64 y11,SV.int .i64 y12] (nat_lit 23)]
noncomputable abbrev flat_S2 (y1:Value) (y2:L3) (y3 y4 y5:Int):St := St.mk (none :: some (SV.ptr (nat_lit 0) (nat_lit 0)) :: none :: none :: some (SV.ptr (nat_lit 1) (nat_lit 0)) :: nn 31 ([])) [.cells [SV.ros y1 kP y2] (nat_lit 24),.cells [SV.int .i64 y3,SV.int .i64 y4,SV.int .i64 y5] (nat_lit 23)]
noncomputable abbrev flat_S3:St := St.mk (none :: some (SV.ptr (nat_lit 0) (nat_lit 0)) :: none :: some (SV.ptr (nat_lit 1) (nat_lit 0)) :: some (SV.ptr (nat_lit 2) (nat_lit 0)) :: nn 10 (some (SV.ros undef kP []) :: some (SV.int .i64 (0:Int)) :: some (SV.int .i64 (0:Int)) :: nn 18 ([]))) [.cells [SV.ros undef kP []] (nat_lit 24),.cells [SV.int .i64 (0:Int),SV.int .i64 (0:Int),SV.int .i64 (0:Int)] (nat_lit 23),.cells [SV.int .i64 (0:Int),SV.int .i64 (0:Int),SV.int .i64 (0:Int)] (nat_lit 23)]
noncomputable abbrev flat_S4 (y1:Value) (y2:L3) (y3 y4:Int) (y5:Value) (y6:L3) (y7 y8 y9:Int):St := St.mk (some (SV.ros y1 kP y2) :: some (SV.fn (nat_lit 111) [] [SV.ptr (nat_lit 1) (nat_lit 0),SV.ptr (nat_lit 0) (nat_lit 0)]) :: nn 5 (some (SV.int .i64 y3) :: some (SV.int .i64 y4) :: nn 10 ([]))) [.cells [SV.ros y5 kP y6] (nat_lit 24),.cells [SV.int .i64 y7,SV.int .i64 y8,SV.int .i64 y9] (nat_lit 23)]
noncomputable abbrev flat_S5 (y1:Int) (y2:Value) (y3:L3) (y4 y5 y6:Int):St := St.mk (nn 4 (some (SV.int .i64 y1) :: nn 14 ([]))) [.cells [SV.ros y2 kP y3] (nat_lit 24),.cells [SV.int .i64 y4,SV.int .i64 y5,SV.int .i64 y6] (nat_lit 23)]
noncomputable abbrev flat_S6 (y1:Value) (y2:L3) (y3 y4 y5:Int):St := St.mk (nn 19 ([])) [.cells [SV.ros y1 kP y2] (nat_lit 24),.cells [SV.int .i64 y3,SV.int .i64 y4,SV.int .i64 y5] (nat_lit 23)]
noncomputable abbrev flat_S7:St := St.mk (some (SV.ros undef kP []) :: some (SV.fn (nat_lit 111) [] [SV.ptr (nat_lit 1) (nat_lit 0),SV.ptr (nat_lit 0) (nat_lit 0)]) :: nn 5 (some (SV.int .i64 (0:Int)) :: some (SV.int .i64 (0:Int)) :: nn 10 ([]))) [.cells [SV.ros undef kP []] (nat_lit 24),.cells [SV.int .i64 (0:Int),SV.int .i64 (0:Int),SV.int .i64 (0:Int)] (nat_lit 23)]
abbrev flat_P1:List Bool := [false,true,false,true,true,true]
noncomputable def M.flat_l0_step {α:Type} (x30:L3) (x31:Int) (x34:L3) (x35 x36 x37:Int) (kn:Int → Int → Int → Int → Option α) (k1:Int → Int → Int → Option α) (x32 x38 x39 x40:Int):Option α := if cLt x32 x31 = true then if (0:Int) ≤ x32 ∧ x32 < (↑(List.length x30):Int) then if (cEq x38 (0:Int) && (cEq x39 (0:Int) && (cEq x40 (0:Int) && true))) = true then if (0:Int) ≤ (0:Int) ∧ (0:Int) < (↑(List.length x34):Int) then kn (IntKind.wrap .i64 (x32 + (1:Int))) (Prod.fst (V.pCross (x35,x36,x37) (V.pSub (List.getD x30 (Int.toNat x32) ((0:Int),(0:Int),(0:Int))) (List.getD x34 (0:Nat) ((0:Int),(0:Int),(0:Int)))))) (Prod.fst (Prod.snd (V.pCross (x35,x36,x37) (V.pSub (List.getD x30 (Int.toNat x32) ((0:Int),(0:Int),(0:Int))) (List.getD x34 (0:Nat) ((0:Int),(0:Int),(0:Int))))))) (Prod.snd (Prod.snd (V.pCross (x35,x36,x37) (V.pSub (List.getD x30 (Int.toNat x32) ((0:Int),(0:Int),(0:Int))) (List.getD x34 (0:Nat) ((0:Int),(0:Int),(0:Int))))))) else none else kn (IntKind.wrap .i64 (x32 + (1:Int))) x38 x39 x40 else none else k1 x38 x39 x40
noncomputable def M.flat_l0 {α:Type} (x30:L3) (x31:Int) (x34:L3) (x35 x36 x37:Int) (k1:Int → Int → Int → Option α):Nat → Int → Int → Int → Int → Option α
 | 0,_,_,_,_ => none
 | n + 1,x32,x38,x39,x40 => M.flat_l0_step x30 x31 x34 x35 x36 x37 (M.flat_l0 x30 x31 x34 x35 x36 x37 k1 n) k1 x32 x38 x39 x40
theorem flat_l0_step_eq {α:Type} (x29:Value) (x30:L3) (x31 x32:Int) (x33:Value) (x34:L3) (x35 x36 x37 x38 x39 x40:Int) (Q:Ex → St → Option α):(loopStep E (exec E look_apart noLps 400) 101 flat_P1 0 (codeAt E.P 101 flat_P1)) (flat_S1 x29 x30 x31 x32 x33 x34 x35 x36 x37 x38 x39 x40) Q = M.flat_l0_step x30 x31 x34 x35 x36 x37 (fun (x44 x45 x46 x47:Int) => Q .normal (flat_S1 x29 x30 x31 x44 x33 x34 x35 x36 x37 x45 x46 x47)) (fun (x41 x42 x43:Int) => Q (.exit 0) (flat_S2 x33 x34 x41 x42 x43)) x32 x38 x39 x40 := by kernel_rfl
theorem flat_l0_iter {α:Type} (x29:Value) (x30:L3) (x31:Int) (x33:Value) (x34:L3) (x35 x36 x37:Int) (Q:Ex → St → Option α):∀ (n:Nat) (x32 x38 x39 x40:Int),iter (loopStep E (exec E look_apart noLps 400) 101 flat_P1 0 (codeAt E.P 101 flat_P1)) n (flat_S1 x29 x30 x31 x32 x33 x34 x35 x36 x37 x38 x39 x40) Q = M.flat_l0 x30 x31 x34 x35 x36 x37 (fun (x41 x42 x43:Int) => Q (.exit 0) (flat_S2 x33 x34 x41 x42 x43)) n x32 x38 x39 x40
 | 0,_,_,_,_ => rfl
 | n + 1,x32,x38,x39,x40 => (flat_l0_step_eq x29 x30 x31 x32 x33 x34 x35 x36 x37 x38 x39 x40 (iterK (loopStep E (exec E look_apart noLps 400) 101 flat_P1 0 (codeAt E.P 101 flat_P1)) n Q)).trans (congrArg (fun kn => M.flat_l0_step x30 x31 x34 x35 x36 x37 kn (fun (x41 x42 x43:Int) => Q (.exit 0) (flat_S2 x33 x34 x41 x42 x43)) x32 x38 x39 x40) (funext fun x32 => funext fun x38 => funext fun x39 => funext fun x40 => flat_l0_iter x29 x30 x31 x33 x34 x35 x36 x37 Q n x32 x38 x39 x40))
noncomputable def flat_l0_go {α:Type} (ds:List D) (Q:Ex → St → Option α):Option α :=
 dV ds fun x29 ds => dL kP ds fun x30 ds => dI ds fun x31 ds => dI ds fun x32 ds => dV ds fun x33 ds => dL kP ds fun x34 ds => dI ds fun x35 ds => dI ds fun x36 ds => dI ds fun x37 ds => dI ds fun x38 ds => dI ds fun x39 ds => dI ds fun x40 ds => dE ds (M.flat_l0 x30 x31 x34 x35 x36 x37 (fun (x41 x42 x43:Int) => Q (.exit 0) (flat_S2 x33 x34 x41 x42 x43)) (100 + x30.length + x34.length) x32 x38 x39 x40)
theorem flat_l0_ok {α:Type}:LoopOk E.P 101 flat_P1 0 (lEnt (α := α) (flat_S3) flat_l0_go) :=
 lEnt_ok E (exec_sound E E_ok (look_apart_ok) (noLps_ok _) 400) fun ds Q r h S hS => by
   unfold flat_l0_go at h
   obtain ⟨x29,ds,rfl,h1⟩ := dV_inv h
   obtain ⟨x30,ds,rfl,h2⟩ := dL_inv h1
   obtain ⟨x31,ds,rfl,h3⟩ := dI_inv h2
   obtain ⟨x32,ds,rfl,h4⟩ := dI_inv h3
   obtain ⟨x33,ds,rfl,h5⟩ := dV_inv h4
   obtain ⟨x34,ds,rfl,h6⟩ := dL_inv h5
   obtain ⟨x35,ds,rfl,h7⟩ := dI_inv h6
   obtain ⟨x36,ds,rfl,h8⟩ := dI_inv h7
   obtain ⟨x37,ds,rfl,h9⟩ := dI_inv h8
   obtain ⟨x38,ds,rfl,h10⟩ := dI_inv h9
   obtain ⟨x39,ds,rfl,h11⟩ := dI_inv h10
   obtain ⟨x40,ds,rfl,h12⟩ := dI_inv h11
   obtain ⟨rfl,hE⟩ := dE_inv h12
   have e:fillS (flat_S3) [.v x29,.l kP x30,.i x31,.i x32,.v x33,.l kP x34,.i x35,.i x36,.i x37,.i x38,.i x39,.i x40] = some (flat_S1 x29 x30 x31 x32 x33 x34 x35 x36 x37 x38 x39 x40) := by kernel_rfl
   rw [e] at hS
   cases hS
   exact ⟨_,(flat_l0_iter x29 x30 x31 x33 x34 x35 x36 x37 Q _ x32 x38 x39 x40).trans hE⟩
noncomputable def flat_l0_lps {α:Type}:LookL α := addLp 101 flat_P1 0 (lEnt (flat_S3) flat_l0_go) noLps
theorem flat_l0_lps_ok {α:Type}:LoopsOk E.P (flat_l0_lps (α := α)) := addLp_ok flat_l0_ok (noLps_ok _)
noncomputable def M.flat_l1_step {α:Type} (x62:L3) (x63:Int) (x66:L3) (x67 x68 x69:Int) (kn:Int → Option α) (k0:Int → Option α) (k2:Option α) (x64:Int):Option α := if cLt x64 x63 = true then if (0:Int) ≤ x64 ∧ x64 < (↑(List.length x62):Int) then if (0:Int) ≤ (0:Int) ∧ (0:Int) < (↑(List.length x66):Int) then if (!cEq (V.pDot (x67,x68,x69) (V.pSub (List.getD x62 (Int.toNat x64) ((0:Int),(0:Int),(0:Int))) (List.getD x66 (0:Nat) ((0:Int),(0:Int),(0:Int))))) (0:Int)) = true then k0 x64 else kn (IntKind.wrap .i64 (x64 + (1:Int))) else none else none else k2
noncomputable def M.flat_l1 {α:Type} (x62:L3) (x63:Int) (x66:L3) (x67 x68 x69:Int) (k0:Int → Option α) (k2:Option α):Nat → Int → Option α
 | 0,_ => none
 | n + 1,x64 => M.flat_l1_step x62 x63 x66 x67 x68 x69 (M.flat_l1 x62 x63 x66 x67 x68 x69 k0 k2 n) k0 k2 x64
theorem flat_l1_step_eq {α:Type} (x61:Value) (x62:L3) (x63 x64:Int) (x65:Value) (x66:L3) (x67 x68 x69:Int) (Q:Ex → St → Option α):(loopStep E (exec E look_apart flat_l0_lps 400) 116 [false,true,false,true] 2 (codeAt E.P 116 [false,true,false,true])) (flat_S4 x61 x62 x63 x64 x65 x66 x67 x68 x69) Q = M.flat_l1_step x62 x63 x66 x67 x68 x69 (fun (x71:Int) => Q .normal (flat_S4 x61 x62 x63 x71 x65 x66 x67 x68 x69)) (fun (x70:Int) => Q .ret (flat_S5 x70 x65 x66 x67 x68 x69)) (Q (.exit 0) (flat_S6 x65 x66 x67 x68 x69)) x64 := by kernel_rfl
theorem flat_l1_iter {α:Type} (x61:Value) (x62:L3) (x63:Int) (x65:Value) (x66:L3) (x67 x68 x69:Int) (Q:Ex → St → Option α):∀ (n:Nat) (x64:Int),iter (loopStep E (exec E look_apart flat_l0_lps 400) 116 [false,true,false,true] 2 (codeAt E.P 116 [false,true,false,true])) n (flat_S4 x61 x62 x63 x64 x65 x66 x67 x68 x69) Q = M.flat_l1 x62 x63 x66 x67 x68 x69 (fun (x70:Int) => Q .ret (flat_S5 x70 x65 x66 x67 x68 x69)) (Q (.exit 0) (flat_S6 x65 x66 x67 x68 x69)) n x64
 | 0,_ => rfl
 | n + 1,x64 => (flat_l1_step_eq x61 x62 x63 x64 x65 x66 x67 x68 x69 (iterK (loopStep E (exec E look_apart flat_l0_lps 400) 116 [false,true,false,true] 2 (codeAt E.P 116 [false,true,false,true])) n Q)).trans (congrArg (fun kn => M.flat_l1_step x62 x63 x66 x67 x68 x69 kn (fun (x70:Int) => Q .ret (flat_S5 x70 x65 x66 x67 x68 x69)) (Q (.exit 0) (flat_S6 x65 x66 x67 x68 x69)) x64) (funext fun x64 => flat_l1_iter x61 x62 x63 x65 x66 x67 x68 x69 Q n x64))
noncomputable def flat_l1_go {α:Type} (ds:List D) (Q:Ex → St → Option α):Option α :=
 dV ds fun x61 ds => dL kP ds fun x62 ds => dI ds fun x63 ds => dI ds fun x64 ds => dV ds fun x65 ds => dL kP ds fun x66 ds => dI ds fun x67 ds => dI ds fun x68 ds => dI ds fun x69 ds => dE ds (M.flat_l1 x62 x63 x66 x67 x68 x69 (fun (x70:Int) => Q .ret (flat_S5 x70 x65 x66 x67 x68 x69)) (Q (.exit 0) (flat_S6 x65 x66 x67 x68 x69)) (100 + x62.length + x66.length) x64)
theorem flat_l1_ok {α:Type}:LoopOk E.P 116 [false,true,false,true] 2 (lEnt (α := α) (flat_S7) flat_l1_go) :=
 lEnt_ok E (exec_sound E E_ok (look_apart_ok) (flat_l0_lps_ok) 400) fun ds Q r h S hS => by
   unfold flat_l1_go at h
   obtain ⟨x61,ds,rfl,h1⟩ := dV_inv h
   obtain ⟨x62,ds,rfl,h2⟩ := dL_inv h1
   obtain ⟨x63,ds,rfl,h3⟩ := dI_inv h2
   obtain ⟨x64,ds,rfl,h4⟩ := dI_inv h3
   obtain ⟨x65,ds,rfl,h5⟩ := dV_inv h4
   obtain ⟨x66,ds,rfl,h6⟩ := dL_inv h5
   obtain ⟨x67,ds,rfl,h7⟩ := dI_inv h6
   obtain ⟨x68,ds,rfl,h8⟩ := dI_inv h7
   obtain ⟨x69,ds,rfl,h9⟩ := dI_inv h8
   obtain ⟨rfl,hE⟩ := dE_inv h9
   have e:fillS (flat_S7) [.v x61,.l kP x62,.i x63,.i x64,.v x65,.l kP x66,.i x67,.i x68,.i x69] = some (flat_S4 x61 x62 x63 x64 x65 x66 x67 x68 x69) := by kernel_rfl
   rw [e] at hS
   cases hS
   exact ⟨_,(flat_l1_iter x61 x62 x63 x65 x66 x67 x68 x69 Q _ x64).trans hE⟩
noncomputable def flat_l1_lps {α:Type}:LookL α := addLp 116 [false,true,false,true] 2 (lEnt (flat_S7) flat_l1_go) flat_l0_lps
theorem flat_l1_lps_ok {α:Type}:LoopsOk E.P (flat_l1_lps (α := α)) := addLp_ok flat_l1_ok (flat_l0_lps_ok)
noncomputable def M.flat {α:Type} (l:L3) (k0:Bool → Option α):Option α := if (0:Int) ≤ (1:Int) ∧ (1:Int) < (↑(List.length l):Int) then if (0:Int) ≤ (0:Int) ∧ (0:Int) < (↑(List.length l):Int) then if (0:Int) ≤ (2:Int) ∧ (2:Int) ≤ (↑(List.length l):Int) ∧ (↑(List.length l):Int) ≤ (↑(List.length l):Int) then M.flat_l0 (List.take (Int.toNat ((↑(List.length l):Int) - (2:Int))) (List.drop (2:Nat) l)) (↑(List.length (List.take (Int.toNat ((↑(List.length l):Int) - (2:Int))) (List.drop (2:Nat) l))):Int) l (Prod.fst (V.pSub (List.getD l (1:Nat) ((0:Int),(0:Int),(0:Int))) (List.getD l (0:Nat) ((0:Int),(0:Int),(0:Int))))) (Prod.fst (Prod.snd (V.pSub (List.getD l (1:Nat) ((0:Int),(0:Int),(0:Int))) (List.getD l (0:Nat) ((0:Int),(0:Int),(0:Int)))))) (Prod.snd (Prod.snd (V.pSub (List.getD l (1:Nat) ((0:Int),(0:Int),(0:Int))) (List.getD l (0:Nat) ((0:Int),(0:Int),(0:Int)))))) (fun (x73 x74 x75:Int) ↦ M.flat_l1 l (↑(List.length l):Int) l x73 x74 x75 (fun (x76:Int) ↦ k0 !cLe (0:Int) x76) (k0 !cLe (0:Int) (-1:Int)) ((100:Nat) + List.length l + List.length l) (0:Int)) ((100:Nat) + List.length (List.take (Int.toNat ((↑(List.length l):Int) - (2:Int))) (List.drop (2:Nat) l)) + List.length l) (0:Int) (0:Int) (0:Int) (0:Int) else none else none else none
theorem flat_eq {α:Type} (l:L3) (v72:Value) (Q:SV → Hp → Option α):callI E look_apart (exec E look_apart flat_l1_lps 400) 101 ([SV.ros v72 kP l]) ([]) Q = M.flat l (fun (x77:Bool) => Q (SV.bool x77) ([])) := by kernel_rfl
def flat_sp:List AS := [.ro (.st (.i .i64) [.i .i64,.i .i64])]
theorem flat_l0_val {α:Type} (m l:List P3) (hm:m.length < 1099511627776) (h0:0 < l.length) (ln:P3) (k1:Int → Int → Int → Option α):∀ (fuel i:Nat) (n:P3),i ≤ m.length → m.length - i < fuel →
   M.flat_l0 m (m.length:Int) l ln.1 ln.2.1 ln.2.2 k1 fuel (i:Int) n.1 n.2.1 n.2.2 = k1 (firstN ln (pt l 0) (m.drop i) n).1 (firstN ln (pt l 0) (m.drop i) n).2.1 (firstN ln (pt l 0) (m.drop i) n).2.2
 | 0,i,n,h1,h2 => by omega
 | f + 1,i,n,h1,h2 => by
   unfold M.flat_l0 M.flat_l0_step
   rw [cLt_nat]
   by_cases hx:i < m.length
   · rw [w_next (by omega)]
     have hc:(0:Int) ≤ (0:Int) ∧ (0:Int) < (l.length:Int) := by omega
     have he:(cEq n.1 (0:Int) && (cEq n.2.1 (0:Int) && (cEq n.2.2 (0:Int) && true))) = decide (n = (0,0,0)) := eq3 n.1 n.2.1 n.2.2 (0,0,0)
     simp only [hx,decide_true,if_true,inB hx,toNat_nat,if_pos hc,he,decide_eq_true_eq]
     rw [drop_pt m i hx,firstN_cons]
     split
     · rw [← flat_l0_val m l hm h0 ln k1 f (i + 1) (V.pCross ln (V.pSub (pt m i) (pt l 0))) (by omega) (by omega)]
       rfl
     · rw [← flat_l0_val m l hm h0 ln k1 f (i + 1) n (by omega) (by omega)]
   · have : i = m.length := by omega
     subst this
     simp [firstN]
theorem flat_l1_val {α:Type} (l:List P3) (hl:l.length < 1099511627776) (h0:0 < l.length) (n:P3) (k0:Int → Option α) (k2:Option α):∀ (fuel i:Nat),i ≤ l.length → l.length - i < fuel →
   ∃ j:Int,0 ≤ j ∧ M.flat_l1 l (l.length:Int) l n.1 n.2.1 n.2.2 k0 k2 fuel (i:Int) = if (l.drop i).all (fun p => V.pDot n (V.pSub p (pt l 0)) == 0) = true then k2 else k0 j
 | 0,i,h1,h2 => by omega
 | f + 1,i,h1,h2 => by
   unfold M.flat_l1 M.flat_l1_step
   rw [cLt_nat]
   by_cases hx:i < l.length
   · obtain ⟨j, hj, ih⟩ := flat_l1_val l hl h0 n k0 k2 f (i + 1) (by omega) (by omega)
     rw [w_next (by omega),ih]
     have hc:(0:Int) ≤ (0:Int) ∧ (0:Int) < (l.length:Int) := by omega
     simp only [hx,decide_true,if_true,inB hx,toNat_nat,if_pos hc,cEq_eq]
     rw [drop_pt l i hx,List.all_cons]
     show ∃ j',0 ≤ j' ∧ (if (!(V.pDot n (V.pSub (pt l i) (pt l 0)) == 0)) = true then k0 (i:Int) else _) = _
     cases (V.pDot n (V.pSub (pt l i) (pt l 0)) == 0) with
     | true => exact ⟨j,hj,by simp only [Bool.not_true,Bool.false_eq_true,if_false,Bool.true_and]⟩
     | false => exact ⟨i,by omega,by simp⟩
   · have : i = l.length := by omega
     subst this
     exact ⟨0,by omega,by simp⟩
noncomputable def _root_.Go.Proofs.YtlagndfhibkjpaaGreat.V.ptsB (l:List P3):Bool := hid (V.apartP l && decide (2 ≤ l.length) && decide (l.length < 1099511627776))
theorem ptsB_of {l:List P3} (h1:V.apartP l = true) (h2:2 ≤ l.length) (h3:l.length < 1099511627776):V.ptsB l = true := by
 unfold V.ptsB; rw [hid_eq]; simp [h1,h2,h3]
theorem ptsB_iff {l:List P3} (h:V.ptsB l = true):(∀ p ∈ l,bigP p 65536 = false) ∧ l.Nodup ∧ 2 ≤ l.length ∧ l.length < 1099511627776 := by
 unfold V.ptsB at h; rw [hid_eq] at h
 simp only [Bool.and_eq_true,V.apartP,decide_eq_true_eq] at h
 exact ⟨h.1.1.1,h.1.1.2,h.1.2,h.2⟩
theorem flat_v {α:Type} (l:List P3) (hg:V.ptsB l = true) (k0:Bool → Option α):M.flat l k0 = k0 (V.flatP l) := by
 obtain ⟨g1,g2,g3,g4⟩ := ptsB_iff hg
 unfold M.flat
 rw [if_pos (by omega:(0:Int) ≤ 1 ∧ (1:Int) < (l.length:Int)),if_pos (by omega:(0:Int) ≤ 0 ∧ (0:Int) < (l.length:Int)),if_pos (by omega:(0:Int) ≤ 2 ∧ (2:Int) ≤ (l.length:Int) ∧ (l.length:Int) ≤ (l.length:Int))]
 have ht:List.take (Int.toNat ((l.length:Int) - 2)) (List.drop 2 l) = l.drop 2 := List.take_of_length_le (by rw [List.length_drop]; omega)
 rw [ht]
 have h1 := flat_l0_val (l.drop 2) l (by rw [List.length_drop]; omega) (by omega) (V.pSub (pt l 1) (pt l 0)) (fun (x113 x114 x115:Int) => M.flat_l1 l (l.length:Int) l x113 x114 x115 (fun (x116:Int) => k0 !cLe (0:Int) x116) (k0 !cLe (0:Int) (-1:Int)) ((100:Nat) + l.length + l.length) (0:Int)) (100 + (l.drop 2).length + l.length) 0 (0,0,0) (by omega) (by omega)
 refine Eq.trans h1 ?_
 rw [List.drop_zero]
 obtain ⟨j,hj,h2⟩ := flat_l1_val l g4 (by omega) (firstN (V.pSub (pt l 1) (pt l 0)) (pt l 0) (l.drop 2) (0,0,0)) (fun (x116:Int) => k0 !cLe (0:Int) x116) (k0 !cLe (0:Int) (-1:Int)) (100 + l.length + l.length) 0 (by omega) (by omega)
 refine Eq.trans h2 ?_
 rw [List.drop_zero]
 match l,g1,g2,g3 with
 | a :: b :: m,g1,g2,g3 =>
   have hab:a ≠ b := by intro e; subst e; simp at g2
   have hp := flat_plain a b m g1 hab
   have hf := flatP_iff (a :: b :: m)
   have e:(a :: b :: m).all (fun p => V.pDot (firstN (V.pSub (pt (a :: b :: m) 1) (pt (a :: b :: m) 0)) (pt (a :: b :: m) 0) ((a :: b :: m).drop 2) (0,0,0)) (V.pSub p (pt (a :: b :: m) 0)) == 0) = V.flatP (a :: b :: m) := by
     rw [Bool.eq_iff_iff,hf,← hp,List.all_eq_true]
     simp only [beq_iff_eq]
     rfl
   rw [e]
   simp only [cLe_eq]
   cases V.flatP (a :: b :: m) with
   | true => rfl
   | false => simp [hj]
noncomputable def flat_h {α:Type} (ds:List D) (Q:SV → Hp → Option α):Option α :=
 dL kP ds fun l ds => dE ds (if V.ptsB l = true then Q (.bool (V.flatP l)) ([]) else none)
theorem flat_h_ok {α:Type}:FnOk E.P 101 (fEnt (α := α) flat_sp flat_h) :=
 fEntR_ok E (look_apart_ok) (exec_sound E E_ok (look_apart_ok) (flat_l1_lps_ok) 400) fun ds Q r h => by
   unfold flat_h at h
   obtain ⟨l,ds,rfl,h1⟩ := dL_inv h
   obtain ⟨rfl,hE⟩ := dE_inv h1
   split at hE
   · rename_i hg
     exact ⟨_,_,hE,fun vs => ⟨_,_,by kernel_rfl,(flat_eq l (vs.headD undef) _).trans (flat_v l hg _)⟩⟩
   · cases hE
noncomputable def look_flat {α:Type}:LookF α := addFn 101 (fEnt flat_sp flat_h) look_apart
theorem look_flat_ok {α:Type}:LookOk E.P (look_flat (α := α)) := addFn_ok flat_h_ok (look_apart_ok)
end
section
open Go
set_option maxRecDepth 20000
def inZ (n lo hi:Int):Bool := decide (lo ≤ n) && decide (n ≤ hi)
theorem within_eq (n lo hi:Int):V.shwithin_r0 n lo hi = inZ n lo hi := by
 unfold V.shwithin_r0 inZ
 simp only [cLe_eq]
 cases decide (lo ≤ n) <;> simp
noncomputable def chkP (k r hx hy hz:Int) (l:List P3):Int :=
 if k = 1 then (if inZ r 1 16384 then 0 else 50)
 else if k = 2 then (if inZ hx 1 65536 && inZ r 1 16384 then 0 else 50)
 else if k = 3 then (if inZ hx 1 65536 && inZ hy 1 65536 && inZ hz 1 65536 && inZ r 0 16384 then 0 else 50)
 else if k = 4 then (if inZ (l.length:Int) 4 12 && V.apartP l && inZ r 0 16384 then (if V.flatP l then 51 else 0) else 50)
 else 50
noncomputable def _root_.Go.Proofs.YtlagndfhibkjpaaGreat.V.chk (k r hx hy hz:Int) (l:List P3):Int := hid (chkP k r hx hy hz l)
theorem brick_eq (hx hy hz:Int):(decide (0 < (if hz < if hy < hx then hy else hx then hz else if hy < hx then hy else hx)) && !bigP (hx,hy,hz) 65536) = (inZ hx 1 65536 && inZ hy 1 65536 && inZ hz 1 65536) := by
 obtain ⟨a,e1,h1⟩ := min_spec hx hy
 obtain ⟨b,e2,h2⟩ := min_spec a hz
 rw [e1,e2,Bool.eq_iff_iff]
 simp only [inZ,bigP,Bool.and_eq_true,decide_eq_true_eq,Bool.not_eq_true',Bool.or_eq_false_iff,decide_eq_false_iff_not]
 omega
noncomputable def M.check {α:Type} (k:Int) (r:Int) (hx:Int) (hy:Int) (hz:Int) (l:L3) (k0:Int → Option α):Option α := if cEq k (1:Int) = true then if (!V.shwithin_r0 r (1:Int) (16384:Int)) = true then k0 (50:Int) else if cEq k (4:Int) = true then if V.ptsB l = true then if V.flatP l = true then k0 (51:Int) else k0 (0:Int) else none else k0 (0:Int) else if cEq k (2:Int) = true then if (!V.shwithin_r0 hx (1:Int) (65536:Int)) = true then k0 (50:Int) else if (!V.shwithin_r0 r (1:Int) (16384:Int)) = true then k0 (50:Int) else if cEq k (4:Int) = true then if V.ptsB l = true then if V.flatP l = true then k0 (51:Int) else k0 (0:Int) else none else k0 (0:Int) else if cEq k (3:Int) = true then if cLt (0:Int) (if hz < if hy < hx then hy else hx then hz else if hy < hx then hy else hx) = true then if (!!V.shbeyond_r0 hx hy hz (65536:Int)) = true then k0 (50:Int) else if (!V.shwithin_r0 r (0:Int) (16384:Int)) = true then k0 (50:Int) else if cEq k (4:Int) = true then if V.ptsB l = true then if V.flatP l = true then k0 (51:Int) else k0 (0:Int) else none else k0 (0:Int) else k0 (50:Int) else if cEq k (4:Int) = true then if V.shwithin_r0 (↑(List.length l):Int) (4:Int) (12:Int) = true then if V.lenB (List.length l) = true then if (!V.apartP l) = true then k0 (50:Int) else if (!V.shwithin_r0 r (0:Int) (16384:Int)) = true then k0 (50:Int) else if cEq k (4:Int) = true then if V.ptsB l = true then if V.flatP l = true then k0 (51:Int) else k0 (0:Int) else none else k0 (0:Int) else none else k0 (50:Int) else k0 (50:Int)
theorem check_eq {α:Type} (k:Int) (r:Int) (hx:Int) (hy:Int) (hz:Int) (l:L3) (v0:Value) (Q:SV → Hp → Option α):callI E look_flat (exec E look_flat noLps 400) 85 ([SV.agg [SV.int .i64 k,SV.int .i64 r,SV.int .i64 hx,SV.int .i64 hy,SV.int .i64 hz,SV.ros v0 kP l]]) ([]) Q = M.check k r hx hy hz l (fun (x1:Int) => Q (SV.int .i64 x1) ([])) := by kernel_rfl
def check_sp:List AS := [.st [.leaf (.int .i64 0),.leaf (.int .i64 0),.leaf (.int .i64 0),.leaf (.int .i64 0),.leaf (.int .i64 0),.ro (.st (.i .i64) [.i .i64,.i .i64])]]
theorem check_v {α:Type} (k r hx hy hz:Int) (l:List P3) (k0:Int → Option α):M.check k r hx hy hz l k0 = k0 (V.chk k r hx hy hz l) := by
 unfold M.check V.chk
 rw [hid_eq]
 unfold chkP
 have hb := beyond_eq (hx,hy,hz) 65536 (by omega)
 have hbr := brick_eq hx hy hz
 simp only at hb
 simp only [cEq_eq,beq_iff_eq,within_eq,cLt_eq,hb]
 by_cases k1:k = 1
 · subst k1
   simp only [if_true,Int.reduceEq,if_false]
   cases inZ r 1 16384 <;> simp
 simp only [if_neg k1]
 by_cases k2:k = 2
 · subst k2
   simp only [if_true,Int.reduceEq,if_false]
   cases inZ hx 1 65536 <;> cases inZ r 1 16384 <;> simp
 simp only [if_neg k2]
 by_cases k3:k = 3
 · subst k3
   simp only [if_true,Int.reduceEq,if_false]
   rw [← hbr]
   cases decide (0 < (if hz < if hy < hx then hy else hx then hz else if hy < hx then hy else hx)) <;> cases bigP (hx,hy,hz) 65536 <;> cases inZ r 0 16384 <;> simp
 simp only [if_neg k3]
 by_cases k4:k = 4
 · subst k4
   simp only [if_true]
   cases h1:inZ (l.length:Int) 4 12 with
   | false => simp
   | true =>
     have hl:4 ≤ l.length ∧ l.length ≤ 12 := by simp [inZ] at h1; omega
     rw [if_pos (lenB_of (by omega))]
     cases h2:V.apartP l with
     | false => simp
     | true =>
       cases inZ r 0 16384 with
       | false => simp
       | true =>
         rw [if_pos (ptsB_of h2 (by omega) (by omega))]
         cases V.flatP l <;> simp
 simp [k4]
noncomputable def check_h {α:Type} (ds:List D) (Q:SV → Hp → Option α):Option α :=
 dI ds fun k ds => dI ds fun r ds => dI ds fun hx ds => dI ds fun hy ds => dI ds fun hz ds => dL kP ds fun l ds => dE ds (Q (.int .i64 (V.chk k r hx hy hz l)) ([]))
theorem check_h_ok {α:Type}:FnOk E.P 85 (fEnt (α := α) check_sp check_h) :=
 fEntR_ok E (look_flat_ok) (exec_sound E E_ok (look_flat_ok) (noLps_ok _) 400) fun ds Q r h => by
   unfold check_h at h
   obtain ⟨k,ds,rfl,h1⟩ := dI_inv h
   obtain ⟨r,ds,rfl,h2⟩ := dI_inv h1
   obtain ⟨hx,ds,rfl,h3⟩ := dI_inv h2
   obtain ⟨hy,ds,rfl,h4⟩ := dI_inv h3
   obtain ⟨hz,ds,rfl,h5⟩ := dI_inv h4
   obtain ⟨l,ds,rfl,h6⟩ := dL_inv h5
   obtain ⟨rfl,hE⟩ := dE_inv h6
   exact ⟨_,_,hE,fun vs => ⟨_,_,by kernel_rfl,(check_eq k r hx hy hz l ((cellsV (vs.headD undef)).tail.tail.tail.tail.tail.headD undef) _).trans (check_v k r hx hy hz l _)⟩⟩
noncomputable def look_check {α:Type}:LookF α := addFn 85 (fEnt check_sp check_h) look_flat
theorem look_check_ok {α:Type}:LookOk E.P (look_check (α := α)) := addFn_ok check_h_ok (look_flat_ok)
end
section
open Go
set_option maxRecDepth 20000
noncomputable abbrev core_S1 (y1 y2 y3 y4 y5 y6 y7 y8 y9 y10:Int) (y11:Value) (y12:L3) (y13:Int) (y14 y15 y16:L3) (y17:Int) (y18 y19 y20:L3) (y21 y22:List Int):St := St.mk (none :: some (SV.ptr (nat_lit 0) (nat_lit 0)) :: some (SV.ptr (nat_lit 1) (nat_lit 0)) :: none :: none :: some (SV.ptr (nat_lit 5) (nat_lit 0)) :: none :: some (SV.int .i64 y1) :: nn 43 (some (SV.sl (nat_lit 9)) :: some (SV.int .i64 y2) :: some (SV.int .i64 y3) :: nn 10 (some (SV.sl (nat_lit 10)) :: some (SV.int .i64 y4) :: some (SV.int .i64 y5) :: nn 40 ([])))) [.cells [SV.int .i64 y6,SV.int .i64 y7,SV.int .i64 y8,SV.int .i64 y9,SV.int .i64 y10,SV.ros y11 kP y12] (nat_lit 37),.cells [SV.sl (nat_lit 2),SV.sl (nat_lit 3),SV.sl (nat_lit 4),SV.int .i64 y13] (nat_lit 33),.seq kP y14 (nat_lit 23),.seq kP y15 (nat_lit 23),.seq kP y16 (nat_lit 23),.cells [SV.sl (nat_lit 6),SV.sl (nat_lit 7),SV.sl (nat_lit 8),SV.int .i64 y17] (nat_lit 33),.seq kP y18 (nat_lit 23),.seq kP y19 (nat_lit 23),.seq kP y20 (nat_lit 23),.seq (K.int IntKind.i64) y21 (nat_lit 3),.seq (K.int IntKind.i64) y22 (nat_lit 3)]
noncomputable abbrev core_S2 (y1 y2 y3 y4 y5 y6 y7:Int) (y8:Value) (y9:L3) (y10:Int) (y11 y12 y13:L3) (y14:Int) (y15 y16 y17:L3) (y18:List Int):St := St.mk (none :: some (SV.ptr (nat_lit 0) (nat_lit 0)) :: some (SV.ptr (nat_lit 1) (nat_lit 0)) :: none :: none :: some (SV.ptr (nat_lit 5) (nat_lit 0)) :: nn 45 (some (SV.sl (nat_lit 9)) :: some (SV.int .i64 y1) :: some (SV.int .i64 y2) :: nn 53 ([]))) [.cells [SV.int .i64 y3,SV.int .i64 y4,SV.int .i64 y5,SV.int .i64 y6,SV.int .i64 y7,SV.ros y8 kP y9] (nat_lit 37),.cells [SV.sl (nat_lit 2),SV.sl (nat_lit 3),SV.sl (nat_lit 4),SV.int .i64 y10] (nat_lit 33),.seq kP y11 (nat_lit 23),.seq kP y12 (nat_lit 23),.seq kP y13 (nat_lit 23),.cells [SV.sl (nat_lit 6),SV.sl (nat_lit 7),SV.sl (nat_lit 8),SV.int .i64 y14] (nat_lit 33),.seq kP y15 (nat_lit 23),.seq kP y16 (nat_lit 23),.seq kP y17 (nat_lit 23),.seq (K.int IntKind.i64) y18 (nat_lit 3)]
noncomputable abbrev core_S3:St := St.mk (none :: some (SV.ptr (nat_lit 0) (nat_lit 0)) :: some (SV.ptr (nat_lit 1) (nat_lit 0)) :: none :: none :: some (SV.ptr (nat_lit 5) (nat_lit 0)) :: none :: some (SV.int .i64 (0:Int)) :: nn 43 (some (SV.sl (nat_lit 9)) :: some (SV.int .i64 (0:Int)) :: some (SV.int .i64 (0:Int)) :: nn 10 (some (SV.sl (nat_lit 10)) :: some (SV.int .i64 (0:Int)) :: some (SV.int .i64 (0:Int)) :: nn 40 ([])))) [.cells [SV.int .i64 (0:Int),SV.int .i64 (0:Int),SV.int .i64 (0:Int),SV.int .i64 (0:Int),SV.int .i64 (0:Int),SV.ros undef kP []] (nat_lit 37),.cells [SV.sl (nat_lit 2),SV.sl (nat_lit 3),SV.sl (nat_lit 4),SV.int .i64 (0:Int)] (nat_lit 33),.seq kP [] (nat_lit 23),.seq kP [] (nat_lit 23),.seq kP [] (nat_lit 23),.cells [SV.sl (nat_lit 6),SV.sl (nat_lit 7),SV.sl (nat_lit 8),SV.int .i64 (0:Int)] (nat_lit 33),.seq kP [] (nat_lit 23),.seq kP [] (nat_lit 23),.seq kP [] (nat_lit 23),.seq (K.int IntKind.i64) [] (nat_lit 3),.seq (K.int IntKind.i64) [] (nat_lit 3)]
noncomputable abbrev core_S4 (y1:Int) (y2 y3 y4:L3) (y5:Int) (y6 y7 y8:L3):St := St.mk (none :: none :: some (SV.ptr (nat_lit 0) (nat_lit 0)) :: none :: none :: some (SV.ptr (nat_lit 4) (nat_lit 0)) :: nn 101 ([])) [.cells [SV.sl (nat_lit 1),SV.sl (nat_lit 2),SV.sl (nat_lit 3),SV.int .i64 y1] (nat_lit 33),.seq kP y2 (nat_lit 23),.seq kP y3 (nat_lit 23),.seq kP y4 (nat_lit 23),.cells [SV.sl (nat_lit 5),SV.sl (nat_lit 6),SV.sl (nat_lit 7),SV.int .i64 y5] (nat_lit 33),.seq kP y6 (nat_lit 23),.seq kP y7 (nat_lit 23),.seq kP y8 (nat_lit 23)]
noncomputable abbrev core_S5:St := St.mk (none :: some (SV.ptr (nat_lit 0) (nat_lit 0)) :: some (SV.ptr (nat_lit 1) (nat_lit 0)) :: none :: none :: some (SV.ptr (nat_lit 5) (nat_lit 0)) :: nn 45 (some (SV.sl (nat_lit 9)) :: some (SV.int .i64 (0:Int)) :: some (SV.int .i64 (0:Int)) :: nn 53 ([]))) [.cells [SV.int .i64 (0:Int),SV.int .i64 (0:Int),SV.int .i64 (0:Int),SV.int .i64 (0:Int),SV.int .i64 (0:Int),SV.ros undef kP []] (nat_lit 37),.cells [SV.sl (nat_lit 2),SV.sl (nat_lit 3),SV.sl (nat_lit 4),SV.int .i64 (0:Int)] (nat_lit 33),.seq kP [] (nat_lit 23),.seq kP [] (nat_lit 23),.seq kP [] (nat_lit 23),.cells [SV.sl (nat_lit 6),SV.sl (nat_lit 7),SV.sl (nat_lit 8),SV.int .i64 (0:Int)] (nat_lit 33),.seq kP [] (nat_lit 23),.seq kP [] (nat_lit 23),.seq kP [] (nat_lit 23),.seq (K.int IntKind.i64) [] (nat_lit 3)]
noncomputable abbrev core_S6 (y1 y2 y3 y4 y5 y6 y7 y8 y9 y10 y11 y12:Int) (y13:Value) (y14 y15 y16 y17:L3) (y18:Int) (y19 y20 y21:L3) (y22:Int) (y23 y24 y25 y26 y27:L3):St := St.mk (some (SV.ptr (nat_lit 8) (nat_lit 0)) :: none :: some (SV.sl (nat_lit 13)) :: some (SV.int .i64 y1) :: some (SV.int .i64 y2) :: some (SV.int .i64 y3) :: nn 10 (some (SV.int .i64 y4) :: some (SV.int .i64 y5) :: nn 114 (some (SV.sl (nat_lit 16)) :: some (SV.int .i64 y6) :: some (SV.int .i64 y7) :: nn 35 ([])))) [.cells [SV.int .i64 y8,SV.int .i64 y9,SV.int .i64 y10,SV.int .i64 y11,SV.int .i64 y12,SV.ros y13 kP y14] (nat_lit 37),.seq kP y15 (nat_lit 23),.seq kP y16 (nat_lit 23),.seq kP y17 (nat_lit 23),.cells [SV.sl (nat_lit 1),SV.sl (nat_lit 2),SV.sl (nat_lit 3),SV.int .i64 y18] (nat_lit 33),.seq kP y19 (nat_lit 23),.seq kP y20 (nat_lit 23),.seq kP y21 (nat_lit 23),.cells [SV.sl (nat_lit 13),SV.sl (nat_lit 14),SV.sl (nat_lit 15),SV.int .i64 y22] (nat_lit 33),.seq kP y23 (nat_lit 23),SObj.dead,SObj.dead,SObj.dead,.seq kP y24 (nat_lit 23),.seq kP y25 (nat_lit 23),.seq kP y26 (nat_lit 23),.seq kP y27 (nat_lit 23)]
noncomputable abbrev core_S7 (y1 y2 y3 y4 y5 y6 y7 y8 y9 y10:Int) (y11:Value) (y12 y13 y14 y15:L3) (y16:Int) (y17 y18 y19:L3) (y20:Int) (y21 y22 y23 y24:L3):St := St.mk (some (SV.ptr (nat_lit 8) (nat_lit 0)) :: none :: some (SV.sl (nat_lit 13)) :: some (SV.int .i64 y1) :: some (SV.int .i64 y2) :: some (SV.int .i64 y3) :: nn 10 (some (SV.int .i64 y4) :: some (SV.int .i64 y5) :: nn 152 ([]))) [.cells [SV.int .i64 y6,SV.int .i64 y7,SV.int .i64 y8,SV.int .i64 y9,SV.int .i64 y10,SV.ros y11 kP y12] (nat_lit 37),.seq kP y13 (nat_lit 23),.seq kP y14 (nat_lit 23),.seq kP y15 (nat_lit 23),.cells [SV.sl (nat_lit 1),SV.sl (nat_lit 2),SV.sl (nat_lit 3),SV.int .i64 y16] (nat_lit 33),.seq kP y17 (nat_lit 23),.seq kP y18 (nat_lit 23),.seq kP y19 (nat_lit 23),.cells [SV.sl (nat_lit 13),SV.sl (nat_lit 14),SV.sl (nat_lit 15),SV.int .i64 y20] (nat_lit 33),.seq kP y21 (nat_lit 23),SObj.dead,SObj.dead,SObj.dead,.seq kP y22 (nat_lit 23),.seq kP y23 (nat_lit 23),.seq kP y24 (nat_lit 23)]
noncomputable abbrev core_S8:St := St.mk (some (SV.ptr (nat_lit 8) (nat_lit 0)) :: none :: some (SV.sl (nat_lit 13)) :: some (SV.int .i64 (0:Int)) :: some (SV.int .i64 (0:Int)) :: some (SV.int .i64 (0:Int)) :: nn 10 (some (SV.int .i64 (0:Int)) :: some (SV.int .i64 (0:Int)) :: nn 114 (some (SV.sl (nat_lit 16)) :: some (SV.int .i64 (0:Int)) :: some (SV.int .i64 (0:Int)) :: nn 35 ([])))) [.cells [SV.int .i64 (0:Int),SV.int .i64 (0:Int),SV.int .i64 (0:Int),SV.int .i64 (0:Int),SV.int .i64 (0:Int),SV.ros undef kP []] (nat_lit 37),.seq kP [] (nat_lit 23),.seq kP [] (nat_lit 23),.seq kP [] (nat_lit 23),.cells [SV.sl (nat_lit 1),SV.sl (nat_lit 2),SV.sl (nat_lit 3),SV.int .i64 (0:Int)] (nat_lit 33),.seq kP [] (nat_lit 23),.seq kP [] (nat_lit 23),.seq kP [] (nat_lit 23),.cells [SV.sl (nat_lit 13),SV.sl (nat_lit 14),SV.sl (nat_lit 15),SV.int .i64 (0:Int)] (nat_lit 33),.seq kP [] (nat_lit 23),SObj.dead,SObj.dead,SObj.dead,.seq kP [] (nat_lit 23),.seq kP [] (nat_lit 23),.seq kP [] (nat_lit 23),.seq kP [] (nat_lit 23)]
noncomputable abbrev core_S9 (y1 y2 y3 y4 y5 y6 y7 y8 y9:Int) (y10:Value) (y11 y12 y13 y14:L3) (y15:Int) (y16 y17 y18:L3) (y19:Int) (y20 y21 y22 y23:L3):St := St.mk (some (SV.ptr (nat_lit 8) (nat_lit 0)) :: none :: some (SV.sl (nat_lit 13)) :: some (SV.int .i64 y1) :: some (SV.int .i64 y2) :: nn 11 (some (SV.int .i64 y3) :: some (SV.int .i64 y4) :: nn 152 ([]))) [.cells [SV.int .i64 y5,SV.int .i64 y6,SV.int .i64 y7,SV.int .i64 y8,SV.int .i64 y9,SV.ros y10 kP y11] (nat_lit 37),.seq kP y12 (nat_lit 23),.seq kP y13 (nat_lit 23),.seq kP y14 (nat_lit 23),.cells [SV.sl (nat_lit 1),SV.sl (nat_lit 2),SV.sl (nat_lit 3),SV.int .i64 y15] (nat_lit 33),.seq kP y16 (nat_lit 23),.seq kP y17 (nat_lit 23),.seq kP y18 (nat_lit 23),.cells [SV.sl (nat_lit 13),SV.sl (nat_lit 14),SV.sl (nat_lit 15),SV.int .i64 y19] (nat_lit 33),.seq kP y20 (nat_lit 23),SObj.dead,SObj.dead,SObj.dead,.seq kP y21 (nat_lit 23),.seq kP y22 (nat_lit 23),.seq kP y23 (nat_lit 23)]
noncomputable abbrev core_S10:St := St.mk (some (SV.ptr (nat_lit 8) (nat_lit 0)) :: none :: some (SV.sl (nat_lit 13)) :: some (SV.int .i64 (0:Int)) :: some (SV.int .i64 (0:Int)) :: some (SV.int .i64 (0:Int)) :: nn 10 (some (SV.int .i64 (0:Int)) :: some (SV.int .i64 (0:Int)) :: nn 152 ([]))) [.cells [SV.int .i64 (0:Int),SV.int .i64 (0:Int),SV.int .i64 (0:Int),SV.int .i64 (0:Int),SV.int .i64 (0:Int),SV.ros undef kP []] (nat_lit 37),.seq kP [] (nat_lit 23),.seq kP [] (nat_lit 23),.seq kP [] (nat_lit 23),.cells [SV.sl (nat_lit 1),SV.sl (nat_lit 2),SV.sl (nat_lit 3),SV.int .i64 (0:Int)] (nat_lit 33),.seq kP [] (nat_lit 23),.seq kP [] (nat_lit 23),.seq kP [] (nat_lit 23),.cells [SV.sl (nat_lit 13),SV.sl (nat_lit 14),SV.sl (nat_lit 15),SV.int .i64 (0:Int)] (nat_lit 33),.seq kP [] (nat_lit 23),SObj.dead,SObj.dead,SObj.dead,.seq kP [] (nat_lit 23),.seq kP [] (nat_lit 23),.seq kP [] (nat_lit 23)]
noncomputable abbrev core_S11 (y1 y2 y3 y4 y5 y6 y7:Int) (y8:Value) (y9 y10 y11 y12:L3) (y13:Int) (y14 y15 y16:L3) (y17:Int) (y18 y19 y20 y21:L3):St := St.mk (some (SV.ptr (nat_lit 8) (nat_lit 0)) :: none :: some (SV.sl (nat_lit 13)) :: nn 13 (some (SV.int .i64 y1) :: some (SV.int .i64 y2) :: nn 152 ([]))) [.cells [SV.int .i64 y3,SV.int .i64 y4,SV.int .i64 y5,SV.int .i64 y6,SV.int .i64 y7,SV.ros y8 kP y9] (nat_lit 37),.seq kP y10 (nat_lit 23),.seq kP y11 (nat_lit 23),.seq kP y12 (nat_lit 23),.cells [SV.sl (nat_lit 1),SV.sl (nat_lit 2),SV.sl (nat_lit 3),SV.int .i64 y13] (nat_lit 33),.seq kP y14 (nat_lit 23),.seq kP y15 (nat_lit 23),.seq kP y16 (nat_lit 23),.cells [SV.sl (nat_lit 13),SV.sl (nat_lit 14),SV.sl (nat_lit 15),SV.int .i64 y17] (nat_lit 33),.seq kP y18 (nat_lit 23),SObj.dead,SObj.dead,SObj.dead,.seq kP y19 (nat_lit 23),.seq kP y20 (nat_lit 23),.seq kP y21 (nat_lit 23)]
noncomputable abbrev core_S12:St := St.mk (some (SV.ptr (nat_lit 8) (nat_lit 0)) :: none :: some (SV.sl (nat_lit 13)) :: some (SV.int .i64 (0:Int)) :: some (SV.int .i64 (0:Int)) :: nn 11 (some (SV.int .i64 (0:Int)) :: some (SV.int .i64 (0:Int)) :: nn 152 ([]))) [.cells [SV.int .i64 (0:Int),SV.int .i64 (0:Int),SV.int .i64 (0:Int),SV.int .i64 (0:Int),SV.int .i64 (0:Int),SV.ros undef kP []] (nat_lit 37),.seq kP [] (nat_lit 23),.seq kP [] (nat_lit 23),.seq kP [] (nat_lit 23),.cells [SV.sl (nat_lit 1),SV.sl (nat_lit 2),SV.sl (nat_lit 3),SV.int .i64 (0:Int)] (nat_lit 33),.seq kP [] (nat_lit 23),.seq kP [] (nat_lit 23),.seq kP [] (nat_lit 23),.cells [SV.sl (nat_lit 13),SV.sl (nat_lit 14),SV.sl (nat_lit 15),SV.int .i64 (0:Int)] (nat_lit 33),.seq kP [] (nat_lit 23),SObj.dead,SObj.dead,SObj.dead,.seq kP [] (nat_lit 23),.seq kP [] (nat_lit 23),.seq kP [] (nat_lit 23)]
noncomputable abbrev core_S13 (y1 y2 y3 y4 y5:Int) (y6:Value) (y7 y8 y9 y10:L3) (y11:Int) (y12 y13 y14:L3) (y15:Int) (y16 y17 y18 y19:L3):St := St.mk (nn 170 ([])) [.cells [SV.int .i64 y1,SV.int .i64 y2,SV.int .i64 y3,SV.int .i64 y4,SV.int .i64 y5,SV.ros y6 kP y7] (nat_lit 37),.seq kP y8 (nat_lit 23),.seq kP y9 (nat_lit 23),.seq kP y10 (nat_lit 23),.cells [SV.sl (nat_lit 1),SV.sl (nat_lit 2),SV.sl (nat_lit 3),SV.int .i64 y11] (nat_lit 33),.seq kP y12 (nat_lit 23),.seq kP y13 (nat_lit 23),.seq kP y14 (nat_lit 23),.cells [SV.sl (nat_lit 13),SV.sl (nat_lit 14),SV.sl (nat_lit 15),SV.int .i64 y15] (nat_lit 33),.seq kP y16 (nat_lit 23),SObj.dead,SObj.dead,SObj.dead,.seq kP y17 (nat_lit 23),.seq kP y18 (nat_lit 23),.seq kP y19 (nat_lit 23)]
noncomputable abbrev core_S14:St := St.mk (some (SV.ptr (nat_lit 8) (nat_lit 0)) :: none :: some (SV.sl (nat_lit 13)) :: nn 13 (some (SV.int .i64 (0:Int)) :: some (SV.int .i64 (0:Int)) :: nn 152 ([]))) [.cells [SV.int .i64 (0:Int),SV.int .i64 (0:Int),SV.int .i64 (0:Int),SV.int .i64 (0:Int),SV.int .i64 (0:Int),SV.ros undef kP []] (nat_lit 37),.seq kP [] (nat_lit 23),.seq kP [] (nat_lit 23),.seq kP [] (nat_lit 23),.cells [SV.sl (nat_lit 1),SV.sl (nat_lit 2),SV.sl (nat_lit 3),SV.int .i64 (0:Int)] (nat_lit 33),.seq kP [] (nat_lit 23),.seq kP [] (nat_lit 23),.seq kP [] (nat_lit 23),.cells [SV.sl (nat_lit 13),SV.sl (nat_lit 14),SV.sl (nat_lit 15),SV.int .i64 (0:Int)] (nat_lit 33),.seq kP [] (nat_lit 23),SObj.dead,SObj.dead,SObj.dead,.seq kP [] (nat_lit 23),.seq kP [] (nat_lit 23),.seq kP [] (nat_lit 23)]
abbrev core_P1:List Bool := [false,true,true,true,true,true,true,false,false,false,false,true,true,false,false,false,true,false,false,true,true,false,false,true,true,false,false,true,true,true,false]
abbrev core_P2:List Bool := [false,true,true,false,false,true,true,false,false,true,false,false,true,true,true,true,true,false,true,false,true,true,true]
abbrev core_P3:List Bool := [false,true,true,false,false,false,true,false,false,true,true,false,false,true,true,false,false,true,true,true,false]
abbrev core_P4:List Bool := [false,true,false,false,true,true,true,true,true,false,true,false,true,true,true]
abbrev core_P5:List Bool := [false,true,true,false,false,true,true,false,false,true,true,true,false]
noncomputable def M.core_l0_step {α:Type} (x59 x62 x68:Int) (x80:List Int) (kn:Int → L3 → Option α) (k1:L3 → Option α) (x63:Int) (x76:L3):Option α := if cLt x63 x62 = true then if (0:Int) ≤ x63 ∧ x63 < (↑(List.length x80):Int) then if (List.length x76 + ((1:Nat) + (1:Nat))) * (24:Nat) ≤ (140737488355328:Nat) then kn (IntKind.wrap .i64 (x63 + (1:Int))) (x76 ++ [(x59,List.getD x80 (Int.toNat x63) (0:Int),IntKind.wrap .i64 ((0:Int) - x68)),(x59,List.getD x80 (Int.toNat x63) (0:Int),x68)]) else none else none else k1 x76
noncomputable def M.core_l0 {α:Type} (x59 x62 x68:Int) (x80:List Int) (k1:L3 → Option α):Nat → Int → L3 → Option α
 | 0,_,_ => none
 | n + 1,x63,x76 => M.core_l0_step x59 x62 x68 x80 (M.core_l0 x59 x62 x68 x80 k1 n) k1 x63 x76
theorem core_l0_step_eq {α:Type} (x59 x60 x61 x62 x63 x64 x65 x66 x67 x68:Int) (x69:Value) (x70:L3) (x71:Int) (x72 x73 x74:L3) (x75:Int) (x76 x77 x78:L3) (x79:List Int) (x80:List Int) (Q:Ex → St → Option α):(loopStep E (exec E look_check noLps 400) 53 core_P2 0 (codeAt E.P 53 core_P2)) (core_S1 x59 x60 x61 x62 x63 x64 x65 x66 x67 x68 x69 x70 x71 x72 x73 x74 x75 x76 x77 x78 x79 x80) Q = M.core_l0_step x59 x62 x68 x80 (fun (x82:Int) (x83:L3) => Q .normal (core_S1 x59 x60 x61 x62 x82 x64 x65 x66 x67 x68 x69 x70 x71 x72 x73 x74 x75 x83 x77 x78 x79 x80)) (fun (x81:L3) => Q (.exit 3) (core_S2 x60 x61 x64 x65 x66 x67 x68 x69 x70 x71 x72 x73 x74 x75 x81 x77 x78 x79)) x63 x76 := by kernel_rfl
theorem core_l0_iter {α:Type} (x59 x60 x61 x62 x64 x65 x66 x67 x68:Int) (x69:Value) (x70:L3) (x71:Int) (x72 x73 x74:L3) (x75:Int) (x77 x78:L3) (x79:List Int) (x80:List Int) (Q:Ex → St → Option α):∀ (n:Nat) (x63:Int) (x76:L3),iter (loopStep E (exec E look_check noLps 400) 53 core_P2 0 (codeAt E.P 53 core_P2)) n (core_S1 x59 x60 x61 x62 x63 x64 x65 x66 x67 x68 x69 x70 x71 x72 x73 x74 x75 x76 x77 x78 x79 x80) Q = M.core_l0 x59 x62 x68 x80 (fun (x81:L3) => Q (.exit 3) (core_S2 x60 x61 x64 x65 x66 x67 x68 x69 x70 x71 x72 x73 x74 x75 x81 x77 x78 x79)) n x63 x76
 | 0,_,_ => rfl
 | n + 1,x63,x76 => (core_l0_step_eq x59 x60 x61 x62 x63 x64 x65 x66 x67 x68 x69 x70 x71 x72 x73 x74 x75 x76 x77 x78 x79 x80 (iterK (loopStep E (exec E look_check noLps 400) 53 core_P2 0 (codeAt E.P 53 core_P2)) n Q)).trans (congrArg (fun kn => M.core_l0_step x59 x62 x68 x80 kn (fun (x81:L3) => Q (.exit 3) (core_S2 x60 x61 x64 x65 x66 x67 x68 x69 x70 x71 x72 x73 x74 x75 x81 x77 x78 x79)) x63 x76) (funext fun x63 => funext fun x76 => core_l0_iter x59 x60 x61 x62 x64 x65 x66 x67 x68 x69 x70 x71 x72 x73 x74 x75 x77 x78 x79 x80 Q n x63 x76))
noncomputable def core_l0_go {α:Type} (ds:List D) (Q:Ex → St → Option α):Option α :=
 dI ds fun x59 ds => dI ds fun x60 ds => dI ds fun x61 ds => dI ds fun x62 ds => dI ds fun x63 ds => dI ds fun x64 ds => dI ds fun x65 ds => dI ds fun x66 ds => dI ds fun x67 ds => dI ds fun x68 ds => dV ds fun x69 ds => dL kP ds fun x70 ds => dI ds fun x71 ds => dL kP ds fun x72 ds => dL kP ds fun x73 ds => dL kP ds fun x74 ds => dI ds fun x75 ds => dL kP ds fun x76 ds => dL kP ds fun x77 ds => dL kP ds fun x78 ds => dL (K.int IntKind.i64) ds fun x79 ds => dL (K.int IntKind.i64) ds fun x80 ds => dE ds (M.core_l0 x59 x62 x68 x80 (fun (x81:L3) => Q (.exit 3) (core_S2 x60 x61 x64 x65 x66 x67 x68 x69 x70 x71 x72 x73 x74 x75 x81 x77 x78 x79)) (100 + x70.length + x72.length + x73.length + x74.length + x76.length + x77.length + x78.length + x79.length + x80.length) x63 x76)
theorem core_l0_ok {α:Type}:LoopOk E.P 53 core_P2 0 (lEnt (α := α) (core_S3) core_l0_go) :=
 lEnt_ok E (exec_sound E E_ok (look_check_ok) (noLps_ok _) 400) fun ds Q r h S hS => by
   unfold core_l0_go at h
   obtain ⟨x59,ds,rfl,h1⟩ := dI_inv h
   obtain ⟨x60,ds,rfl,h2⟩ := dI_inv h1
   obtain ⟨x61,ds,rfl,h3⟩ := dI_inv h2
   obtain ⟨x62,ds,rfl,h4⟩ := dI_inv h3
   obtain ⟨x63,ds,rfl,h5⟩ := dI_inv h4
   obtain ⟨x64,ds,rfl,h6⟩ := dI_inv h5
   obtain ⟨x65,ds,rfl,h7⟩ := dI_inv h6
   obtain ⟨x66,ds,rfl,h8⟩ := dI_inv h7
   obtain ⟨x67,ds,rfl,h9⟩ := dI_inv h8
   obtain ⟨x68,ds,rfl,h10⟩ := dI_inv h9
   obtain ⟨x69,ds,rfl,h11⟩ := dV_inv h10
   obtain ⟨x70,ds,rfl,h12⟩ := dL_inv h11
   obtain ⟨x71,ds,rfl,h13⟩ := dI_inv h12
   obtain ⟨x72,ds,rfl,h14⟩ := dL_inv h13
   obtain ⟨x73,ds,rfl,h15⟩ := dL_inv h14
   obtain ⟨x74,ds,rfl,h16⟩ := dL_inv h15
   obtain ⟨x75,ds,rfl,h17⟩ := dI_inv h16
   obtain ⟨x76,ds,rfl,h18⟩ := dL_inv h17
   obtain ⟨x77,ds,rfl,h19⟩ := dL_inv h18
   obtain ⟨x78,ds,rfl,h20⟩ := dL_inv h19
   obtain ⟨x79,ds,rfl,h21⟩ := dL_inv h20
   obtain ⟨x80,ds,rfl,h22⟩ := dL_inv h21
   obtain ⟨rfl,hE⟩ := dE_inv h22
   have e:fillS (core_S3) [.i x59,.i x60,.i x61,.i x62,.i x63,.i x64,.i x65,.i x66,.i x67,.i x68,.v x69,.l kP x70,.i x71,.l kP x72,.l kP x73,.l kP x74,.i x75,.l kP x76,.l kP x77,.l kP x78,.l (K.int IntKind.i64) x79,.l (K.int IntKind.i64) x80] = some (core_S1 x59 x60 x61 x62 x63 x64 x65 x66 x67 x68 x69 x70 x71 x72 x73 x74 x75 x76 x77 x78 x79 x80) := by kernel_rfl
   rw [e] at hS
   cases hS
   exact ⟨_,(core_l0_iter x59 x60 x61 x62 x64 x65 x66 x67 x68 x69 x70 x71 x72 x73 x74 x75 x77 x78 x79 x80 Q _ x63 x76).trans hE⟩
noncomputable def core_l0_lps {α:Type}:LookL α := addLp 53 core_P2 0 (lEnt (core_S3) core_l0_go) noLps
theorem core_l0_lps_ok {α:Type}:LoopsOk E.P (core_l0_lps (α := α)) := addLp_ok core_l0_ok (noLps_ok _)
noncomputable def M.core_l1_step {α:Type} (x84 x89 x90:Int) (x92 x94 x95 x96 x99 x100:L3) (x101:List Int) (kn:Int → L3 → Option α) (k1:L3 → Option α) (x85:Int) (x98:L3):Option α := if cLt x85 x84 = true then if (0:Int) ≤ x85 ∧ x85 < (↑(List.length x101):Int) then M.core_l0 (List.getD x101 (Int.toNat x85) (0:Int)) (↑((1:Nat) + (1:Nat)):Int) x90 [IntKind.wrap .i64 ((0:Int) - x89),x89] (fun (x102:L3) ↦ kn (IntKind.wrap .i64 (x85 + (1:Int))) x102) ((100:Nat) + List.length x92 + List.length x94 + List.length x95 + List.length x96 + List.length x98 + List.length x99 + List.length x100 + List.length x101 + ((1:Nat) + (1:Nat))) (0:Int) x98 else none else k1 x98
noncomputable def M.core_l1 {α:Type} (x84 x89 x90:Int) (x92 x94 x95 x96 x99 x100:L3) (x101:List Int) (k1:L3 → Option α):Nat → Int → L3 → Option α
 | 0,_,_ => none
 | n + 1,x85,x98 => M.core_l1_step x84 x89 x90 x92 x94 x95 x96 x99 x100 x101 (M.core_l1 x84 x89 x90 x92 x94 x95 x96 x99 x100 x101 k1 n) k1 x85 x98
theorem core_l1_step_eq {α:Type} (x84 x85 x86 x87 x88 x89 x90:Int) (x91:Value) (x92:L3) (x93:Int) (x94 x95 x96:L3) (x97:Int) (x98 x99 x100:L3) (x101:List Int) (Q:Ex → St → Option α):(loopStep E (exec E look_check core_l0_lps 400) 53 core_P4 0 (codeAt E.P 53 core_P4)) (core_S2 x84 x85 x86 x87 x88 x89 x90 x91 x92 x93 x94 x95 x96 x97 x98 x99 x100 x101) Q = M.core_l1_step x84 x89 x90 x92 x94 x95 x96 x99 x100 x101 (fun (x104:Int) (x105:L3) => Q .normal (core_S2 x84 x104 x86 x87 x88 x89 x90 x91 x92 x93 x94 x95 x96 x97 x105 x99 x100 x101)) (fun (x103:L3) => Q (.exit 1) (core_S4 x93 x94 x95 x96 x97 x103 x99 x100)) x85 x98 := by kernel_rfl
theorem core_l1_iter {α:Type} (x84 x86 x87 x88 x89 x90:Int) (x91:Value) (x92:L3) (x93:Int) (x94 x95 x96:L3) (x97:Int) (x99 x100:L3) (x101:List Int) (Q:Ex → St → Option α):∀ (n:Nat) (x85:Int) (x98:L3),iter (loopStep E (exec E look_check core_l0_lps 400) 53 core_P4 0 (codeAt E.P 53 core_P4)) n (core_S2 x84 x85 x86 x87 x88 x89 x90 x91 x92 x93 x94 x95 x96 x97 x98 x99 x100 x101) Q = M.core_l1 x84 x89 x90 x92 x94 x95 x96 x99 x100 x101 (fun (x103:L3) => Q (.exit 1) (core_S4 x93 x94 x95 x96 x97 x103 x99 x100)) n x85 x98
 | 0,_,_ => rfl
 | n + 1,x85,x98 => (core_l1_step_eq x84 x85 x86 x87 x88 x89 x90 x91 x92 x93 x94 x95 x96 x97 x98 x99 x100 x101 (iterK (loopStep E (exec E look_check core_l0_lps 400) 53 core_P4 0 (codeAt E.P 53 core_P4)) n Q)).trans (congrArg (fun kn => M.core_l1_step x84 x89 x90 x92 x94 x95 x96 x99 x100 x101 kn (fun (x103:L3) => Q (.exit 1) (core_S4 x93 x94 x95 x96 x97 x103 x99 x100)) x85 x98) (funext fun x85 => funext fun x98 => core_l1_iter x84 x86 x87 x88 x89 x90 x91 x92 x93 x94 x95 x96 x97 x99 x100 x101 Q n x85 x98))
noncomputable def core_l1_go {α:Type} (ds:List D) (Q:Ex → St → Option α):Option α :=
 dI ds fun x84 ds => dI ds fun x85 ds => dI ds fun x86 ds => dI ds fun x87 ds => dI ds fun x88 ds => dI ds fun x89 ds => dI ds fun x90 ds => dV ds fun x91 ds => dL kP ds fun x92 ds => dI ds fun x93 ds => dL kP ds fun x94 ds => dL kP ds fun x95 ds => dL kP ds fun x96 ds => dI ds fun x97 ds => dL kP ds fun x98 ds => dL kP ds fun x99 ds => dL kP ds fun x100 ds => dL (K.int IntKind.i64) ds fun x101 ds => dE ds (M.core_l1 x84 x89 x90 x92 x94 x95 x96 x99 x100 x101 (fun (x103:L3) => Q (.exit 1) (core_S4 x93 x94 x95 x96 x97 x103 x99 x100)) (100 + x92.length + x94.length + x95.length + x96.length + x98.length + x99.length + x100.length + x101.length) x85 x98)
theorem core_l1_ok {α:Type}:LoopOk E.P 53 core_P4 0 (lEnt (α := α) (core_S5) core_l1_go) :=
 lEnt_ok E (exec_sound E E_ok (look_check_ok) (core_l0_lps_ok) 400) fun ds Q r h S hS => by
   unfold core_l1_go at h
   obtain ⟨x84,ds,rfl,h1⟩ := dI_inv h
   obtain ⟨x85,ds,rfl,h2⟩ := dI_inv h1
   obtain ⟨x86,ds,rfl,h3⟩ := dI_inv h2
   obtain ⟨x87,ds,rfl,h4⟩ := dI_inv h3
   obtain ⟨x88,ds,rfl,h5⟩ := dI_inv h4
   obtain ⟨x89,ds,rfl,h6⟩ := dI_inv h5
   obtain ⟨x90,ds,rfl,h7⟩ := dI_inv h6
   obtain ⟨x91,ds,rfl,h8⟩ := dV_inv h7
   obtain ⟨x92,ds,rfl,h9⟩ := dL_inv h8
   obtain ⟨x93,ds,rfl,h10⟩ := dI_inv h9
   obtain ⟨x94,ds,rfl,h11⟩ := dL_inv h10
   obtain ⟨x95,ds,rfl,h12⟩ := dL_inv h11
   obtain ⟨x96,ds,rfl,h13⟩ := dL_inv h12
   obtain ⟨x97,ds,rfl,h14⟩ := dI_inv h13
   obtain ⟨x98,ds,rfl,h15⟩ := dL_inv h14
   obtain ⟨x99,ds,rfl,h16⟩ := dL_inv h15
   obtain ⟨x100,ds,rfl,h17⟩ := dL_inv h16
   obtain ⟨x101,ds,rfl,h18⟩ := dL_inv h17
   obtain ⟨rfl,hE⟩ := dE_inv h18
   have e:fillS (core_S5) [.i x84,.i x85,.i x86,.i x87,.i x88,.i x89,.i x90,.v x91,.l kP x92,.i x93,.l kP x94,.l kP x95,.l kP x96,.i x97,.l kP x98,.l kP x99,.l kP x100,.l (K.int IntKind.i64) x101] = some (core_S2 x84 x85 x86 x87 x88 x89 x90 x91 x92 x93 x94 x95 x96 x97 x98 x99 x100 x101) := by kernel_rfl
   rw [e] at hS
   cases hS
   exact ⟨_,(core_l1_iter x84 x86 x87 x88 x89 x90 x91 x92 x93 x94 x95 x96 x97 x99 x100 x101 Q _ x85 x98).trans hE⟩
noncomputable def core_l1_lps {α:Type}:LookL α := addLp 53 core_P4 0 (lEnt (core_S5) core_l1_go) core_l0_lps
theorem core_l1_lps_ok {α:Type}:LoopsOk E.P (core_l1_lps (α := α)) := addLp_ok core_l1_ok (core_l0_lps_ok)
noncomputable def M.core_l2_step {α:Type} (x276:Int) (x297:L3) (kn:Int → L3 → Option α) (k1:L3 → Option α) (x277:Int) (x296:L3):Option α := if cLt x277 x276 = true then if (0:Int) ≤ x277 ∧ x277 < (↑(List.length x297):Int) then if V.lenB (List.length x296) = true then if (!V.hasP x296 (V.pShort (List.getD x297 (Int.toNat x277) ((0:Int),(0:Int),(0:Int))))) = true then if V.lenB (List.length x296) = true then if (!V.hasP x296 (V.pSub ((0:Int),(0:Int),(0:Int)) (V.pShort (List.getD x297 (Int.toNat x277) ((0:Int),(0:Int),(0:Int)))))) = true then if (List.length x296 + ((0:Nat) + (1:Nat))) * (24:Nat) ≤ (140737488355328:Nat) then kn (IntKind.wrap .i64 (x277 + (1:Int))) (x296 ++ [V.pShort (List.getD x297 (Int.toNat x277) ((0:Int),(0:Int),(0:Int)))]) else none else kn (IntKind.wrap .i64 (x277 + (1:Int))) x296 else none else kn (IntKind.wrap .i64 (x277 + (1:Int))) x296 else none else none else k1 x296
noncomputable def M.core_l2 {α:Type} (x276:Int) (x297:L3) (k1:L3 → Option α):Nat → Int → L3 → Option α
 | 0,_,_ => none
 | n + 1,x277,x296 => M.core_l2_step x276 x297 (M.core_l2 x276 x297 k1 n) k1 x277 x296
theorem core_l2_step_eq {α:Type} (x271 x272 x273 x274 x275 x276 x277 x278 x279 x280 x281 x282:Int) (x283:Value) (x284 x285 x286 x287:L3) (x288:Int) (x289 x290 x291:L3) (x292:Int) (x293 x294 x295 x296 x297:L3) (Q:Ex → St → Option α):(loopStep E (exec E look_check core_l1_lps 400) 86 core_P1 13 (codeAt E.P 86 core_P1)) (core_S6 x271 x272 x273 x274 x275 x276 x277 x278 x279 x280 x281 x282 x283 x284 x285 x286 x287 x288 x289 x290 x291 x292 x293 x294 x295 x296 x297) Q = M.core_l2_step x276 x297 (fun (x299:Int) (x300:L3) => Q .normal (core_S6 x271 x272 x273 x274 x275 x276 x299 x278 x279 x280 x281 x282 x283 x284 x285 x286 x287 x288 x289 x290 x291 x292 x293 x294 x295 x300 x297)) (fun (x298:L3) => Q (.exit 6) (core_S7 x271 x272 x273 x274 x275 x278 x279 x280 x281 x282 x283 x284 x285 x286 x287 x288 x289 x290 x291 x292 x293 x294 x295 x298)) x277 x296 := by kernel_rfl
theorem core_l2_iter {α:Type} (x271 x272 x273 x274 x275 x276 x278 x279 x280 x281 x282:Int) (x283:Value) (x284 x285 x286 x287:L3) (x288:Int) (x289 x290 x291:L3) (x292:Int) (x293 x294 x295 x297:L3) (Q:Ex → St → Option α):∀ (n:Nat) (x277:Int) (x296:L3),iter (loopStep E (exec E look_check core_l1_lps 400) 86 core_P1 13 (codeAt E.P 86 core_P1)) n (core_S6 x271 x272 x273 x274 x275 x276 x277 x278 x279 x280 x281 x282 x283 x284 x285 x286 x287 x288 x289 x290 x291 x292 x293 x294 x295 x296 x297) Q = M.core_l2 x276 x297 (fun (x298:L3) => Q (.exit 6) (core_S7 x271 x272 x273 x274 x275 x278 x279 x280 x281 x282 x283 x284 x285 x286 x287 x288 x289 x290 x291 x292 x293 x294 x295 x298)) n x277 x296
 | 0,_,_ => rfl
 | n + 1,x277,x296 => (core_l2_step_eq x271 x272 x273 x274 x275 x276 x277 x278 x279 x280 x281 x282 x283 x284 x285 x286 x287 x288 x289 x290 x291 x292 x293 x294 x295 x296 x297 (iterK (loopStep E (exec E look_check core_l1_lps 400) 86 core_P1 13 (codeAt E.P 86 core_P1)) n Q)).trans (congrArg (fun kn => M.core_l2_step x276 x297 kn (fun (x298:L3) => Q (.exit 6) (core_S7 x271 x272 x273 x274 x275 x278 x279 x280 x281 x282 x283 x284 x285 x286 x287 x288 x289 x290 x291 x292 x293 x294 x295 x298)) x277 x296) (funext fun x277 => funext fun x296 => core_l2_iter x271 x272 x273 x274 x275 x276 x278 x279 x280 x281 x282 x283 x284 x285 x286 x287 x288 x289 x290 x291 x292 x293 x294 x295 x297 Q n x277 x296))
noncomputable def core_l2_go {α:Type} (ds:List D) (Q:Ex → St → Option α):Option α :=
 dI ds fun x271 ds => dI ds fun x272 ds => dI ds fun x273 ds => dI ds fun x274 ds => dI ds fun x275 ds => dI ds fun x276 ds => dI ds fun x277 ds => dI ds fun x278 ds => dI ds fun x279 ds => dI ds fun x280 ds => dI ds fun x281 ds => dI ds fun x282 ds => dV ds fun x283 ds => dL kP ds fun x284 ds => dL kP ds fun x285 ds => dL kP ds fun x286 ds => dL kP ds fun x287 ds => dI ds fun x288 ds => dL kP ds fun x289 ds => dL kP ds fun x290 ds => dL kP ds fun x291 ds => dI ds fun x292 ds => dL kP ds fun x293 ds => dL kP ds fun x294 ds => dL kP ds fun x295 ds => dL kP ds fun x296 ds => dL kP ds fun x297 ds => dE ds (M.core_l2 x276 x297 (fun (x298:L3) => Q (.exit 6) (core_S7 x271 x272 x273 x274 x275 x278 x279 x280 x281 x282 x283 x284 x285 x286 x287 x288 x289 x290 x291 x292 x293 x294 x295 x298)) (100 + x284.length + x285.length + x286.length + x287.length + x289.length + x290.length + x291.length + x293.length + x294.length + x295.length + x296.length + x297.length) x277 x296)
theorem core_l2_ok {α:Type}:LoopOk E.P 86 core_P1 13 (lEnt (α := α) (core_S8) core_l2_go) :=
 lEnt_ok E (exec_sound E E_ok (look_check_ok) (core_l1_lps_ok) 400) fun ds Q r h S hS => by
   unfold core_l2_go at h
   obtain ⟨x271,ds,rfl,h1⟩ := dI_inv h
   obtain ⟨x272,ds,rfl,h2⟩ := dI_inv h1
   obtain ⟨x273,ds,rfl,h3⟩ := dI_inv h2
   obtain ⟨x274,ds,rfl,h4⟩ := dI_inv h3
   obtain ⟨x275,ds,rfl,h5⟩ := dI_inv h4
   obtain ⟨x276,ds,rfl,h6⟩ := dI_inv h5
   obtain ⟨x277,ds,rfl,h7⟩ := dI_inv h6
   obtain ⟨x278,ds,rfl,h8⟩ := dI_inv h7
   obtain ⟨x279,ds,rfl,h9⟩ := dI_inv h8
   obtain ⟨x280,ds,rfl,h10⟩ := dI_inv h9
   obtain ⟨x281,ds,rfl,h11⟩ := dI_inv h10
   obtain ⟨x282,ds,rfl,h12⟩ := dI_inv h11
   obtain ⟨x283,ds,rfl,h13⟩ := dV_inv h12
   obtain ⟨x284,ds,rfl,h14⟩ := dL_inv h13
   obtain ⟨x285,ds,rfl,h15⟩ := dL_inv h14
   obtain ⟨x286,ds,rfl,h16⟩ := dL_inv h15
   obtain ⟨x287,ds,rfl,h17⟩ := dL_inv h16
   obtain ⟨x288,ds,rfl,h18⟩ := dI_inv h17
   obtain ⟨x289,ds,rfl,h19⟩ := dL_inv h18
   obtain ⟨x290,ds,rfl,h20⟩ := dL_inv h19
   obtain ⟨x291,ds,rfl,h21⟩ := dL_inv h20
   obtain ⟨x292,ds,rfl,h22⟩ := dI_inv h21
   obtain ⟨x293,ds,rfl,h23⟩ := dL_inv h22
   obtain ⟨x294,ds,rfl,h24⟩ := dL_inv h23
   obtain ⟨x295,ds,rfl,h25⟩ := dL_inv h24
   obtain ⟨x296,ds,rfl,h26⟩ := dL_inv h25
   obtain ⟨x297,ds,rfl,h27⟩ := dL_inv h26
   obtain ⟨rfl,hE⟩ := dE_inv h27
   have e:fillS (core_S8) [.i x271,.i x272,.i x273,.i x274,.i x275,.i x276,.i x277,.i x278,.i x279,.i x280,.i x281,.i x282,.v x283,.l kP x284,.l kP x285,.l kP x286,.l kP x287,.i x288,.l kP x289,.l kP x290,.l kP x291,.i x292,.l kP x293,.l kP x294,.l kP x295,.l kP x296,.l kP x297] = some (core_S6 x271 x272 x273 x274 x275 x276 x277 x278 x279 x280 x281 x282 x283 x284 x285 x286 x287 x288 x289 x290 x291 x292 x293 x294 x295 x296 x297) := by kernel_rfl
   rw [e] at hS
   cases hS
   exact ⟨_,(core_l2_iter x271 x272 x273 x274 x275 x276 x278 x279 x280 x281 x282 x283 x284 x285 x286 x287 x288 x289 x290 x291 x292 x293 x294 x295 x297 Q _ x277 x296).trans hE⟩
noncomputable def core_l2_lps {α:Type}:LookL α := addLp 86 core_P1 13 (lEnt (core_S8) core_l2_go) core_l1_lps
theorem core_l2_lps_ok {α:Type}:LoopsOk E.P (core_l2_lps (α := α)) := addLp_ok core_l2_ok (core_l1_lps_ok)
noncomputable def M.core_l3_step {α:Type} (x301 x302:Int) (x312 x313 x314 x315 x317 x318 x319 x321 x322:L3) (kn:Int → L3 → L3 → Option α) (k0:L3 → L3 → Option α) (k1:L3 → L3 → Option α) (x303:Int) (x323 x324:L3):Option α := let s327:Nat := List.length x322; let s328:Nat := List.length x323; let s329:Nat := List.length x324; let s330:Int := (↑s327:Int); let s331:K.T kP := List.getD x322 (Int.toNat x302) ((0:Int),(0:Int),(0:Int)); let s332:K.T kP := List.getD x322 (Int.toNat x301) ((0:Int),(0:Int),(0:Int)); let s333:P3 := V.pSub (List.getD x322 (Int.toNat x303) ((0:Int),(0:Int),(0:Int))) s332; let s334:P3 := V.pSub s331 s332; let s335:P3 := V.pCross s334 s333; let s336:Int × Int := Prod.snd s335; let s337:Int := Prod.fst s335; let s338:Int := Prod.snd s336; let s339:Int := Prod.fst s336; let s340:Int := V.sideP x322 s335 s332; let s341:P3 := V.pShort (IntKind.wrap .i64 (s340 * s337),IntKind.wrap .i64 (s340 * s339),IntKind.wrap .i64 (s340 * s338)); let s342:List (K.T kP) := x323 ++ [s341]; if cEq x303 s330 = true then if cEq x302 (IntKind.wrap .i64 (s330 - (1:Int))) = true then k0 x323 x324 else k1 x323 x324 else if (0:Int) ≤ x302 ∧ x302 < s330 then if (0:Int) ≤ x301 ∧ x301 < s330 then if (0:Int) ≤ x303 ∧ x303 < s330 then if (0:Int) ≤ x301 ∧ x301 < s330 then if (0:Int) ≤ x301 ∧ x301 < s330 then if V.lenB (List.length x322) = true then if (cEq s337 (0:Int) && (cEq s339 (0:Int) && (cEq s338 (0:Int) && true))) = true then kn (IntKind.wrap .i64 (x303 + (1:Int))) x323 x324 else if cEq s340 (0:Int) = true then kn (IntKind.wrap .i64 (x303 + (1:Int))) x323 x324 else if V.lenB (List.length x323) = true then if (!V.hasP x323 s341) = true then if (s328 + ((0:Nat) + (1:Nat))) * (24:Nat) ≤ (140737488355328:Nat) then if (0:Int) ≤ x302 ∧ x302 < s330 then if (0:Int) ≤ x301 ∧ x301 < s330 then if (0:Int) ≤ x303 ∧ x303 < s330 then if (0:Int) ≤ x301 ∧ x301 < s330 then if (0:Int) ≤ x303 ∧ x303 < s330 then if (0:Int) ≤ x302 ∧ x302 < s330 then M.core_l2 (↑((2:Nat) + (1:Nat)):Int) [s334,s333,V.pSub (List.getD x322 (Int.toNat x303) ((0:Int),(0:Int),(0:Int))) s331] (fun (x325:L3) ↦ kn (IntKind.wrap .i64 (x303 + (1:Int))) s342 x325) ((100:Nat) + List.length x312 + List.length x313 + List.length x314 + List.length x315 + List.length x317 + List.length x318 + List.length x319 + List.length x321 + s327 + List.length s342 + s329 + ((2:Nat) + (1:Nat))) (0:Int) x324 else none else none else none else none else none else none else none else if (0:Int) ≤ x302 ∧ x302 < s330 then if (0:Int) ≤ x301 ∧ x301 < s330 then if (0:Int) ≤ x303 ∧ x303 < s330 then if (0:Int) ≤ x301 ∧ x301 < s330 then if (0:Int) ≤ x303 ∧ x303 < s330 then if (0:Int) ≤ x302 ∧ x302 < s330 then M.core_l2 (↑((2:Nat) + (1:Nat)):Int) [s334,s333,V.pSub (List.getD x322 (Int.toNat x303) ((0:Int),(0:Int),(0:Int))) s331] (fun (x326:L3) ↦ kn (IntKind.wrap .i64 (x303 + (1:Int))) x323 x326) ((100:Nat) + List.length x312 + List.length x313 + List.length x314 + List.length x315 + List.length x317 + List.length x318 + List.length x319 + List.length x321 + s327 + s328 + s329 + ((2:Nat) + (1:Nat))) (0:Int) x324 else none else none else none else none else none else none else none else none else none else none else none else none else none
noncomputable def M.core_l3 {α:Type} (x301 x302:Int) (x312 x313 x314 x315 x317 x318 x319 x321 x322:L3) (k0:L3 → L3 → Option α) (k1:L3 → L3 → Option α):Nat → Int → L3 → L3 → Option α
 | 0,_,_,_ => none
 | n + 1,x303,x323,x324 => M.core_l3_step x301 x302 x312 x313 x314 x315 x317 x318 x319 x321 x322 (M.core_l3 x301 x302 x312 x313 x314 x315 x317 x318 x319 x321 x322 k0 k1 n) k0 k1 x303 x323 x324
theorem core_l3_step_eq {α:Type} (x301 x302 x303 x304 x305 x306 x307 x308 x309 x310:Int) (x311:Value) (x312 x313 x314 x315:L3) (x316:Int) (x317 x318 x319:L3) (x320:Int) (x321 x322 x323 x324:L3) (Q:Ex → St → Option α):(loopStep E (exec E look_check core_l2_lps 400) 86 core_P3 13 (codeAt E.P 86 core_P3)) (core_S7 x301 x302 x303 x304 x305 x306 x307 x308 x309 x310 x311 x312 x313 x314 x315 x316 x317 x318 x319 x320 x321 x322 x323 x324) Q = M.core_l3_step x301 x302 x312 x313 x314 x315 x317 x318 x319 x321 x322 (fun (x347:Int) (x348 x349:L3) => Q .normal (core_S7 x301 x302 x347 x304 x305 x306 x307 x308 x309 x310 x311 x312 x313 x314 x315 x316 x317 x318 x319 x320 x321 x322 x348 x349)) (fun (x343 x344:L3) => Q (.exit 1) (core_S9 x301 x302 x304 x305 x306 x307 x308 x309 x310 x311 x312 x313 x314 x315 x316 x317 x318 x319 x320 x321 x322 x343 x344)) (fun (x345 x346:L3) => Q (.exit 4) (core_S9 x301 x302 x304 x305 x306 x307 x308 x309 x310 x311 x312 x313 x314 x315 x316 x317 x318 x319 x320 x321 x322 x345 x346)) x303 x323 x324 := by kernel_rfl
theorem core_l3_iter {α:Type} (x301 x302 x304 x305 x306 x307 x308 x309 x310:Int) (x311:Value) (x312 x313 x314 x315:L3) (x316:Int) (x317 x318 x319:L3) (x320:Int) (x321 x322:L3) (Q:Ex → St → Option α):∀ (n:Nat) (x303:Int) (x323 x324:L3),iter (loopStep E (exec E look_check core_l2_lps 400) 86 core_P3 13 (codeAt E.P 86 core_P3)) n (core_S7 x301 x302 x303 x304 x305 x306 x307 x308 x309 x310 x311 x312 x313 x314 x315 x316 x317 x318 x319 x320 x321 x322 x323 x324) Q = M.core_l3 x301 x302 x312 x313 x314 x315 x317 x318 x319 x321 x322 (fun (x343 x344:L3) => Q (.exit 1) (core_S9 x301 x302 x304 x305 x306 x307 x308 x309 x310 x311 x312 x313 x314 x315 x316 x317 x318 x319 x320 x321 x322 x343 x344)) (fun (x345 x346:L3) => Q (.exit 4) (core_S9 x301 x302 x304 x305 x306 x307 x308 x309 x310 x311 x312 x313 x314 x315 x316 x317 x318 x319 x320 x321 x322 x345 x346)) n x303 x323 x324
 | 0,_,_,_ => rfl
 | n + 1,x303,x323,x324 => (core_l3_step_eq x301 x302 x303 x304 x305 x306 x307 x308 x309 x310 x311 x312 x313 x314 x315 x316 x317 x318 x319 x320 x321 x322 x323 x324 (iterK (loopStep E (exec E look_check core_l2_lps 400) 86 core_P3 13 (codeAt E.P 86 core_P3)) n Q)).trans (congrArg (fun kn => M.core_l3_step x301 x302 x312 x313 x314 x315 x317 x318 x319 x321 x322 kn (fun (x343 x344:L3) => Q (.exit 1) (core_S9 x301 x302 x304 x305 x306 x307 x308 x309 x310 x311 x312 x313 x314 x315 x316 x317 x318 x319 x320 x321 x322 x343 x344)) (fun (x345 x346:L3) => Q (.exit 4) (core_S9 x301 x302 x304 x305 x306 x307 x308 x309 x310 x311 x312 x313 x314 x315 x316 x317 x318 x319 x320 x321 x322 x345 x346)) x303 x323 x324) (funext fun x303 => funext fun x323 => funext fun x324 => core_l3_iter x301 x302 x304 x305 x306 x307 x308 x309 x310 x311 x312 x313 x314 x315 x316 x317 x318 x319 x320 x321 x322 Q n x303 x323 x324))
noncomputable def core_l3_go {α:Type} (ds:List D) (Q:Ex → St → Option α):Option α :=
 dI ds fun x301 ds => dI ds fun x302 ds => dI ds fun x303 ds => dI ds fun x304 ds => dI ds fun x305 ds => dI ds fun x306 ds => dI ds fun x307 ds => dI ds fun x308 ds => dI ds fun x309 ds => dI ds fun x310 ds => dV ds fun x311 ds => dL kP ds fun x312 ds => dL kP ds fun x313 ds => dL kP ds fun x314 ds => dL kP ds fun x315 ds => dI ds fun x316 ds => dL kP ds fun x317 ds => dL kP ds fun x318 ds => dL kP ds fun x319 ds => dI ds fun x320 ds => dL kP ds fun x321 ds => dL kP ds fun x322 ds => dL kP ds fun x323 ds => dL kP ds fun x324 ds => dE ds (M.core_l3 x301 x302 x312 x313 x314 x315 x317 x318 x319 x321 x322 (fun (x343 x344:L3) => Q (.exit 1) (core_S9 x301 x302 x304 x305 x306 x307 x308 x309 x310 x311 x312 x313 x314 x315 x316 x317 x318 x319 x320 x321 x322 x343 x344)) (fun (x345 x346:L3) => Q (.exit 4) (core_S9 x301 x302 x304 x305 x306 x307 x308 x309 x310 x311 x312 x313 x314 x315 x316 x317 x318 x319 x320 x321 x322 x345 x346)) (100 + x312.length + x313.length + x314.length + x315.length + x317.length + x318.length + x319.length + x321.length + x322.length + x323.length + x324.length) x303 x323 x324)
theorem core_l3_ok {α:Type}:LoopOk E.P 86 core_P3 13 (lEnt (α := α) (core_S10) core_l3_go) :=
 lEnt_ok E (exec_sound E E_ok (look_check_ok) (core_l2_lps_ok) 400) fun ds Q r h S hS => by
   unfold core_l3_go at h
   obtain ⟨x301,ds,rfl,h1⟩ := dI_inv h
   obtain ⟨x302,ds,rfl,h2⟩ := dI_inv h1
   obtain ⟨x303,ds,rfl,h3⟩ := dI_inv h2
   obtain ⟨x304,ds,rfl,h4⟩ := dI_inv h3
   obtain ⟨x305,ds,rfl,h5⟩ := dI_inv h4
   obtain ⟨x306,ds,rfl,h6⟩ := dI_inv h5
   obtain ⟨x307,ds,rfl,h7⟩ := dI_inv h6
   obtain ⟨x308,ds,rfl,h8⟩ := dI_inv h7
   obtain ⟨x309,ds,rfl,h9⟩ := dI_inv h8
   obtain ⟨x310,ds,rfl,h10⟩ := dI_inv h9
   obtain ⟨x311,ds,rfl,h11⟩ := dV_inv h10
   obtain ⟨x312,ds,rfl,h12⟩ := dL_inv h11
   obtain ⟨x313,ds,rfl,h13⟩ := dL_inv h12
   obtain ⟨x314,ds,rfl,h14⟩ := dL_inv h13
   obtain ⟨x315,ds,rfl,h15⟩ := dL_inv h14
   obtain ⟨x316,ds,rfl,h16⟩ := dI_inv h15
   obtain ⟨x317,ds,rfl,h17⟩ := dL_inv h16
   obtain ⟨x318,ds,rfl,h18⟩ := dL_inv h17
   obtain ⟨x319,ds,rfl,h19⟩ := dL_inv h18
   obtain ⟨x320,ds,rfl,h20⟩ := dI_inv h19
   obtain ⟨x321,ds,rfl,h21⟩ := dL_inv h20
   obtain ⟨x322,ds,rfl,h22⟩ := dL_inv h21
   obtain ⟨x323,ds,rfl,h23⟩ := dL_inv h22
   obtain ⟨x324,ds,rfl,h24⟩ := dL_inv h23
   obtain ⟨rfl,hE⟩ := dE_inv h24
   have e:fillS (core_S10) [.i x301,.i x302,.i x303,.i x304,.i x305,.i x306,.i x307,.i x308,.i x309,.i x310,.v x311,.l kP x312,.l kP x313,.l kP x314,.l kP x315,.i x316,.l kP x317,.l kP x318,.l kP x319,.i x320,.l kP x321,.l kP x322,.l kP x323,.l kP x324] = some (core_S7 x301 x302 x303 x304 x305 x306 x307 x308 x309 x310 x311 x312 x313 x314 x315 x316 x317 x318 x319 x320 x321 x322 x323 x324) := by kernel_rfl
   rw [e] at hS
   cases hS
   exact ⟨_,(core_l3_iter x301 x302 x304 x305 x306 x307 x308 x309 x310 x311 x312 x313 x314 x315 x316 x317 x318 x319 x320 x321 x322 Q _ x303 x323 x324).trans hE⟩
noncomputable def core_l3_lps {α:Type}:LookL α := addLp 86 core_P3 13 (lEnt (core_S10) core_l3_go) core_l2_lps
theorem core_l3_lps_ok {α:Type}:LoopsOk E.P (core_l3_lps (α := α)) := addLp_ok core_l3_ok (core_l2_lps_ok)
noncomputable def M.core_l4_step {α:Type} (x350:Int) (x360 x361 x362 x363 x365 x366 x367 x369 x370:L3) (kn:Int → L3 → L3 → Option α) (k0:L3 → L3 → Option α) (k2:L3 → L3 → Option α) (x351:Int) (x371 x372:L3):Option α := if cLt x351 (↑(List.length x370):Int) = true then M.core_l3 x350 x351 x360 x361 x362 x363 x365 x366 x367 x369 x370 (fun (x373 x374:L3) ↦ k0 x373 x374) (fun (x375 x376:L3) ↦ kn (IntKind.wrap .i64 (x351 + (1:Int))) x375 x376) ((100:Nat) + List.length x360 + List.length x361 + List.length x362 + List.length x363 + List.length x365 + List.length x366 + List.length x367 + List.length x369 + List.length x370 + List.length x371 + List.length x372) (IntKind.wrap .i64 (x351 + (1:Int))) x371 x372 else k2 x371 x372
noncomputable def M.core_l4 {α:Type} (x350:Int) (x360 x361 x362 x363 x365 x366 x367 x369 x370:L3) (k0:L3 → L3 → Option α) (k2:L3 → L3 → Option α):Nat → Int → L3 → L3 → Option α
 | 0,_,_,_ => none
 | n + 1,x351,x371,x372 => M.core_l4_step x350 x360 x361 x362 x363 x365 x366 x367 x369 x370 (M.core_l4 x350 x360 x361 x362 x363 x365 x366 x367 x369 x370 k0 k2 n) k0 k2 x351 x371 x372
theorem core_l4_step_eq {α:Type} (x350 x351 x352 x353 x354 x355 x356 x357 x358:Int) (x359:Value) (x360 x361 x362 x363:L3) (x364:Int) (x365 x366 x367:L3) (x368:Int) (x369 x370 x371 x372:L3) (Q:Ex → St → Option α):(loopStep E (exec E look_check core_l3_lps 400) 86 core_P5 13 (codeAt E.P 86 core_P5)) (core_S9 x350 x351 x352 x353 x354 x355 x356 x357 x358 x359 x360 x361 x362 x363 x364 x365 x366 x367 x368 x369 x370 x371 x372) Q = M.core_l4_step x350 x360 x361 x362 x363 x365 x366 x367 x369 x370 (fun (x381:Int) (x382 x383:L3) => Q .normal (core_S9 x350 x381 x352 x353 x354 x355 x356 x357 x358 x359 x360 x361 x362 x363 x364 x365 x366 x367 x368 x369 x370 x382 x383)) (fun (x377 x378:L3) => Q (.exit 1) (core_S11 x352 x353 x354 x355 x356 x357 x358 x359 x360 x361 x362 x363 x364 x365 x366 x367 x368 x369 x370 x377 x378)) (fun (x379 x380:L3) => Q (.exit 2) (core_S11 x352 x353 x354 x355 x356 x357 x358 x359 x360 x361 x362 x363 x364 x365 x366 x367 x368 x369 x370 x379 x380)) x351 x371 x372 := by kernel_rfl
theorem core_l4_iter {α:Type} (x350 x352 x353 x354 x355 x356 x357 x358:Int) (x359:Value) (x360 x361 x362 x363:L3) (x364:Int) (x365 x366 x367:L3) (x368:Int) (x369 x370:L3) (Q:Ex → St → Option α):∀ (n:Nat) (x351:Int) (x371 x372:L3),iter (loopStep E (exec E look_check core_l3_lps 400) 86 core_P5 13 (codeAt E.P 86 core_P5)) n (core_S9 x350 x351 x352 x353 x354 x355 x356 x357 x358 x359 x360 x361 x362 x363 x364 x365 x366 x367 x368 x369 x370 x371 x372) Q = M.core_l4 x350 x360 x361 x362 x363 x365 x366 x367 x369 x370 (fun (x377 x378:L3) => Q (.exit 1) (core_S11 x352 x353 x354 x355 x356 x357 x358 x359 x360 x361 x362 x363 x364 x365 x366 x367 x368 x369 x370 x377 x378)) (fun (x379 x380:L3) => Q (.exit 2) (core_S11 x352 x353 x354 x355 x356 x357 x358 x359 x360 x361 x362 x363 x364 x365 x366 x367 x368 x369 x370 x379 x380)) n x351 x371 x372
 | 0,_,_,_ => rfl
 | n + 1,x351,x371,x372 => (core_l4_step_eq x350 x351 x352 x353 x354 x355 x356 x357 x358 x359 x360 x361 x362 x363 x364 x365 x366 x367 x368 x369 x370 x371 x372 (iterK (loopStep E (exec E look_check core_l3_lps 400) 86 core_P5 13 (codeAt E.P 86 core_P5)) n Q)).trans (congrArg (fun kn => M.core_l4_step x350 x360 x361 x362 x363 x365 x366 x367 x369 x370 kn (fun (x377 x378:L3) => Q (.exit 1) (core_S11 x352 x353 x354 x355 x356 x357 x358 x359 x360 x361 x362 x363 x364 x365 x366 x367 x368 x369 x370 x377 x378)) (fun (x379 x380:L3) => Q (.exit 2) (core_S11 x352 x353 x354 x355 x356 x357 x358 x359 x360 x361 x362 x363 x364 x365 x366 x367 x368 x369 x370 x379 x380)) x351 x371 x372) (funext fun x351 => funext fun x371 => funext fun x372 => core_l4_iter x350 x352 x353 x354 x355 x356 x357 x358 x359 x360 x361 x362 x363 x364 x365 x366 x367 x368 x369 x370 Q n x351 x371 x372))
noncomputable def core_l4_go {α:Type} (ds:List D) (Q:Ex → St → Option α):Option α :=
 dI ds fun x350 ds => dI ds fun x351 ds => dI ds fun x352 ds => dI ds fun x353 ds => dI ds fun x354 ds => dI ds fun x355 ds => dI ds fun x356 ds => dI ds fun x357 ds => dI ds fun x358 ds => dV ds fun x359 ds => dL kP ds fun x360 ds => dL kP ds fun x361 ds => dL kP ds fun x362 ds => dL kP ds fun x363 ds => dI ds fun x364 ds => dL kP ds fun x365 ds => dL kP ds fun x366 ds => dL kP ds fun x367 ds => dI ds fun x368 ds => dL kP ds fun x369 ds => dL kP ds fun x370 ds => dL kP ds fun x371 ds => dL kP ds fun x372 ds => dE ds (M.core_l4 x350 x360 x361 x362 x363 x365 x366 x367 x369 x370 (fun (x377 x378:L3) => Q (.exit 1) (core_S11 x352 x353 x354 x355 x356 x357 x358 x359 x360 x361 x362 x363 x364 x365 x366 x367 x368 x369 x370 x377 x378)) (fun (x379 x380:L3) => Q (.exit 2) (core_S11 x352 x353 x354 x355 x356 x357 x358 x359 x360 x361 x362 x363 x364 x365 x366 x367 x368 x369 x370 x379 x380)) (100 + x360.length + x361.length + x362.length + x363.length + x365.length + x366.length + x367.length + x369.length + x370.length + x371.length + x372.length) x351 x371 x372)
theorem core_l4_ok {α:Type}:LoopOk E.P 86 core_P5 13 (lEnt (α := α) (core_S12) core_l4_go) :=
 lEnt_ok E (exec_sound E E_ok (look_check_ok) (core_l3_lps_ok) 400) fun ds Q r h S hS => by
   unfold core_l4_go at h
   obtain ⟨x350,ds,rfl,h1⟩ := dI_inv h
   obtain ⟨x351,ds,rfl,h2⟩ := dI_inv h1
   obtain ⟨x352,ds,rfl,h3⟩ := dI_inv h2
   obtain ⟨x353,ds,rfl,h4⟩ := dI_inv h3
   obtain ⟨x354,ds,rfl,h5⟩ := dI_inv h4
   obtain ⟨x355,ds,rfl,h6⟩ := dI_inv h5
   obtain ⟨x356,ds,rfl,h7⟩ := dI_inv h6
   obtain ⟨x357,ds,rfl,h8⟩ := dI_inv h7
   obtain ⟨x358,ds,rfl,h9⟩ := dI_inv h8
   obtain ⟨x359,ds,rfl,h10⟩ := dV_inv h9
   obtain ⟨x360,ds,rfl,h11⟩ := dL_inv h10
   obtain ⟨x361,ds,rfl,h12⟩ := dL_inv h11
   obtain ⟨x362,ds,rfl,h13⟩ := dL_inv h12
   obtain ⟨x363,ds,rfl,h14⟩ := dL_inv h13
   obtain ⟨x364,ds,rfl,h15⟩ := dI_inv h14
   obtain ⟨x365,ds,rfl,h16⟩ := dL_inv h15
   obtain ⟨x366,ds,rfl,h17⟩ := dL_inv h16
   obtain ⟨x367,ds,rfl,h18⟩ := dL_inv h17
   obtain ⟨x368,ds,rfl,h19⟩ := dI_inv h18
   obtain ⟨x369,ds,rfl,h20⟩ := dL_inv h19
   obtain ⟨x370,ds,rfl,h21⟩ := dL_inv h20
   obtain ⟨x371,ds,rfl,h22⟩ := dL_inv h21
   obtain ⟨x372,ds,rfl,h23⟩ := dL_inv h22
   obtain ⟨rfl,hE⟩ := dE_inv h23
   have e:fillS (core_S12) [.i x350,.i x351,.i x352,.i x353,.i x354,.i x355,.i x356,.i x357,.i x358,.v x359,.l kP x360,.l kP x361,.l kP x362,.l kP x363,.i x364,.l kP x365,.l kP x366,.l kP x367,.i x368,.l kP x369,.l kP x370,.l kP x371,.l kP x372] = some (core_S9 x350 x351 x352 x353 x354 x355 x356 x357 x358 x359 x360 x361 x362 x363 x364 x365 x366 x367 x368 x369 x370 x371 x372) := by kernel_rfl
   rw [e] at hS
   cases hS
   exact ⟨_,(core_l4_iter x350 x352 x353 x354 x355 x356 x357 x358 x359 x360 x361 x362 x363 x364 x365 x366 x367 x368 x369 x370 Q _ x351 x371 x372).trans hE⟩
noncomputable def core_l4_lps {α:Type}:LookL α := addLp 86 core_P5 13 (lEnt (core_S12) core_l4_go) core_l3_lps
theorem core_l4_lps_ok {α:Type}:LoopsOk E.P (core_l4_lps (α := α)) := addLp_ok core_l4_ok (core_l3_lps_ok)
noncomputable def M.core_l5_step {α:Type} (x384:Int) (x392 x393 x394 x395 x397 x398 x399 x401 x402:L3) (kn:Int → L3 → L3 → Option α) (k1:L3 → L3 → Option α) (x385:Int) (x403 x404:L3):Option α := if cLt x385 x384 = true then M.core_l4 x385 x392 x393 x394 x395 x397 x398 x399 x401 x402 (fun (x405 x406:L3) ↦ kn (IntKind.wrap .i64 (x385 + (1:Int))) x405 x406) (fun (x407 x408:L3) ↦ kn (IntKind.wrap .i64 (x385 + (1:Int))) x407 x408) ((100:Nat) + List.length x392 + List.length x393 + List.length x394 + List.length x395 + List.length x397 + List.length x398 + List.length x399 + List.length x401 + List.length x402 + List.length x403 + List.length x404) (IntKind.wrap .i64 (x385 + (1:Int))) x403 x404 else k1 x403 x404
noncomputable def M.core_l5 {α:Type} (x384:Int) (x392 x393 x394 x395 x397 x398 x399 x401 x402:L3) (k1:L3 → L3 → Option α):Nat → Int → L3 → L3 → Option α
 | 0,_,_,_ => none
 | n + 1,x385,x403,x404 => M.core_l5_step x384 x392 x393 x394 x395 x397 x398 x399 x401 x402 (M.core_l5 x384 x392 x393 x394 x395 x397 x398 x399 x401 x402 k1 n) k1 x385 x403 x404
theorem core_l5_step_eq {α:Type} (x384 x385 x386 x387 x388 x389 x390:Int) (x391:Value) (x392 x393 x394 x395:L3) (x396:Int) (x397 x398 x399:L3) (x400:Int) (x401 x402 x403 x404:L3) (Q:Ex → St → Option α):(loopStep E (exec E look_check core_l4_lps 400) 86 [false,true,true,true,false] 13 (codeAt E.P 86 [false,true,true,true,false])) (core_S11 x384 x385 x386 x387 x388 x389 x390 x391 x392 x393 x394 x395 x396 x397 x398 x399 x400 x401 x402 x403 x404) Q = M.core_l5_step x384 x392 x393 x394 x395 x397 x398 x399 x401 x402 (fun (x411:Int) (x412 x413:L3) => Q .normal (core_S11 x384 x411 x386 x387 x388 x389 x390 x391 x392 x393 x394 x395 x396 x397 x398 x399 x400 x401 x402 x412 x413)) (fun (x409 x410:L3) => Q (.exit 0) (core_S13 x386 x387 x388 x389 x390 x391 x392 x393 x394 x395 x396 x397 x398 x399 x400 x401 x402 x409 x410)) x385 x403 x404 := by kernel_rfl
theorem core_l5_iter {α:Type} (x384 x386 x387 x388 x389 x390:Int) (x391:Value) (x392 x393 x394 x395:L3) (x396:Int) (x397 x398 x399:L3) (x400:Int) (x401 x402:L3) (Q:Ex → St → Option α):∀ (n:Nat) (x385:Int) (x403 x404:L3),iter (loopStep E (exec E look_check core_l4_lps 400) 86 [false,true,true,true,false] 13 (codeAt E.P 86 [false,true,true,true,false])) n (core_S11 x384 x385 x386 x387 x388 x389 x390 x391 x392 x393 x394 x395 x396 x397 x398 x399 x400 x401 x402 x403 x404) Q = M.core_l5 x384 x392 x393 x394 x395 x397 x398 x399 x401 x402 (fun (x409 x410:L3) => Q (.exit 0) (core_S13 x386 x387 x388 x389 x390 x391 x392 x393 x394 x395 x396 x397 x398 x399 x400 x401 x402 x409 x410)) n x385 x403 x404
 | 0,_,_,_ => rfl
 | n + 1,x385,x403,x404 => (core_l5_step_eq x384 x385 x386 x387 x388 x389 x390 x391 x392 x393 x394 x395 x396 x397 x398 x399 x400 x401 x402 x403 x404 (iterK (loopStep E (exec E look_check core_l4_lps 400) 86 [false,true,true,true,false] 13 (codeAt E.P 86 [false,true,true,true,false])) n Q)).trans (congrArg (fun kn => M.core_l5_step x384 x392 x393 x394 x395 x397 x398 x399 x401 x402 kn (fun (x409 x410:L3) => Q (.exit 0) (core_S13 x386 x387 x388 x389 x390 x391 x392 x393 x394 x395 x396 x397 x398 x399 x400 x401 x402 x409 x410)) x385 x403 x404) (funext fun x385 => funext fun x403 => funext fun x404 => core_l5_iter x384 x386 x387 x388 x389 x390 x391 x392 x393 x394 x395 x396 x397 x398 x399 x400 x401 x402 Q n x385 x403 x404))
noncomputable def core_l5_go {α:Type} (ds:List D) (Q:Ex → St → Option α):Option α :=
 dI ds fun x384 ds => dI ds fun x385 ds => dI ds fun x386 ds => dI ds fun x387 ds => dI ds fun x388 ds => dI ds fun x389 ds => dI ds fun x390 ds => dV ds fun x391 ds => dL kP ds fun x392 ds => dL kP ds fun x393 ds => dL kP ds fun x394 ds => dL kP ds fun x395 ds => dI ds fun x396 ds => dL kP ds fun x397 ds => dL kP ds fun x398 ds => dL kP ds fun x399 ds => dI ds fun x400 ds => dL kP ds fun x401 ds => dL kP ds fun x402 ds => dL kP ds fun x403 ds => dL kP ds fun x404 ds => dE ds (M.core_l5 x384 x392 x393 x394 x395 x397 x398 x399 x401 x402 (fun (x409 x410:L3) => Q (.exit 0) (core_S13 x386 x387 x388 x389 x390 x391 x392 x393 x394 x395 x396 x397 x398 x399 x400 x401 x402 x409 x410)) (100 + x392.length + x393.length + x394.length + x395.length + x397.length + x398.length + x399.length + x401.length + x402.length + x403.length + x404.length) x385 x403 x404)
theorem core_l5_ok {α:Type}:LoopOk E.P 86 [false,true,true,true,false] 13 (lEnt (α := α) (core_S14) core_l5_go) :=
 lEnt_ok E (exec_sound E E_ok (look_check_ok) (core_l4_lps_ok) 400) fun ds Q r h S hS => by
   unfold core_l5_go at h
   obtain ⟨x384,ds,rfl,h1⟩ := dI_inv h
   obtain ⟨x385,ds,rfl,h2⟩ := dI_inv h1
   obtain ⟨x386,ds,rfl,h3⟩ := dI_inv h2
   obtain ⟨x387,ds,rfl,h4⟩ := dI_inv h3
   obtain ⟨x388,ds,rfl,h5⟩ := dI_inv h4
   obtain ⟨x389,ds,rfl,h6⟩ := dI_inv h5
   obtain ⟨x390,ds,rfl,h7⟩ := dI_inv h6
   obtain ⟨x391,ds,rfl,h8⟩ := dV_inv h7
   obtain ⟨x392,ds,rfl,h9⟩ := dL_inv h8
   obtain ⟨x393,ds,rfl,h10⟩ := dL_inv h9
   obtain ⟨x394,ds,rfl,h11⟩ := dL_inv h10
   obtain ⟨x395,ds,rfl,h12⟩ := dL_inv h11
   obtain ⟨x396,ds,rfl,h13⟩ := dI_inv h12
   obtain ⟨x397,ds,rfl,h14⟩ := dL_inv h13
   obtain ⟨x398,ds,rfl,h15⟩ := dL_inv h14
   obtain ⟨x399,ds,rfl,h16⟩ := dL_inv h15
   obtain ⟨x400,ds,rfl,h17⟩ := dI_inv h16
   obtain ⟨x401,ds,rfl,h18⟩ := dL_inv h17
   obtain ⟨x402,ds,rfl,h19⟩ := dL_inv h18
   obtain ⟨x403,ds,rfl,h20⟩ := dL_inv h19
   obtain ⟨x404,ds,rfl,h21⟩ := dL_inv h20
   obtain ⟨rfl,hE⟩ := dE_inv h21
   have e:fillS (core_S14) [.i x384,.i x385,.i x386,.i x387,.i x388,.i x389,.i x390,.v x391,.l kP x392,.l kP x393,.l kP x394,.l kP x395,.i x396,.l kP x397,.l kP x398,.l kP x399,.i x400,.l kP x401,.l kP x402,.l kP x403,.l kP x404] = some (core_S11 x384 x385 x386 x387 x388 x389 x390 x391 x392 x393 x394 x395 x396 x397 x398 x399 x400 x401 x402 x403 x404) := by kernel_rfl
   rw [e] at hS
   cases hS
   exact ⟨_,(core_l5_iter x384 x386 x387 x388 x389 x390 x391 x392 x393 x394 x395 x396 x397 x398 x399 x400 x401 x402 Q _ x385 x403 x404).trans hE⟩
noncomputable def core_l5_lps {α:Type}:LookL α := addLp 86 [false,true,true,true,false] 13 (lEnt (core_S14) core_l5_go) core_l4_lps
theorem core_l5_lps_ok {α:Type}:LoopsOk E.P (core_l5_lps (α := α)) := addLp_ok core_l5_ok (core_l4_lps_ok)
noncomputable def M.core {α:Type} (k:Int) (r:Int) (hx:Int) (hy:Int) (hz:Int) (l:L3) (k0:Int → Int → L3 → L3 → L3 → Option α):Option α := if (!cEq (V.chk k r hx hy hz l) (0:Int)) = true then k0 (0:Int) (V.chk k r hx hy hz l) [] [] [] else if cEq k (1:Int) = true then k0 r (0:Int) [((0:Int),(0:Int),(0:Int))] [] [] else if cEq k (2:Int) = true then k0 r (0:Int) [(IntKind.wrap .i64 ((0:Int) - hx),(0:Int),(0:Int)),(hx,(0:Int),(0:Int))] [] [((1:Int),(0:Int),(0:Int))] else if cEq k (3:Int) = true then M.core_l1 (↑((0:Nat) + (1:Nat) + (1:Nat)):Int) hy hz l [] [] [] [] [] [IntKind.wrap .i64 ((0:Int) - hx),hx] (fun (x415:L3) ↦ if V.lenB (3:Nat) = true then k0 r (0:Int) x415 [((1:Int),(0:Int),(0:Int)),((0:Int),(1:Int),(0:Int)),((0:Int),(0:Int),(1:Int))] [((1:Int),(0:Int),(0:Int)),((0:Int),(1:Int),(0:Int)),((0:Int),(0:Int),(1:Int))] else none) ((100:Nat) + List.length l + (0:Nat) + (0:Nat) + (0:Nat) + (0:Nat) + (0:Nat) + (0:Nat) + ((0:Nat) + (1:Nat) + (1:Nat))) (0:Int) [] else if cEq k (4:Int) = true then if V.lenB (List.length l) = true then M.core_l5 (↑(List.length l):Int) l [] [] [] [] [] [] [] l (fun (x416 x417:L3) ↦ k0 r (0:Int) l x416 x417) ((100:Nat) + List.length l + (0:Nat) + (0:Nat) + (0:Nat) + (0:Nat) + (0:Nat) + (0:Nat) + (0:Nat) + List.length l + (0:Nat) + (0:Nat)) (0:Int) [] [] else none else k0 r (0:Int) [] [] []
theorem core_eq {α:Type} (k:Int) (r:Int) (hx:Int) (hy:Int) (hz:Int) (l:L3) (v414:Value) (Q:SV → Hp → Option α):callI E look_check (exec E look_check core_l5_lps 400) 53 ([SV.agg [SV.int .i64 k,SV.int .i64 r,SV.int .i64 hx,SV.int .i64 hy,SV.int .i64 hz,SV.ros v414 kP l]]) ([]) Q = M.core k r hx hy hz l (fun (x418 x419:Int) (x420 x421 x422:L3) => Q (SV.tup [SV.agg [SV.sl (nat_lit 0),SV.sl (nat_lit 1),SV.sl (nat_lit 2),SV.int .i64 x418],SV.int .i64 x419]) ([.seq kP x420 (nat_lit 23),.seq kP x421 (nat_lit 23),.seq kP x422 (nat_lit 23)])) := by kernel_rfl
def core_sp:List AS := [.st [.leaf (.int .i64 0),.leaf (.int .i64 0),.leaf (.int .i64 0),.leaf (.int .i64 0),.leaf (.int .i64 0),.ro (.st (.i .i64) [.i .i64,.i .i64])]]
def negP (p:P3):P3 := V.pSub (0,0,0) p
noncomputable def addE (es:List P3) (e:P3):List P3 := if V.pShort e ∈ es ∨ negP (V.pShort e) ∈ es then es else es ++ [V.pShort e]
def triN (l:List P3) (i j k:Nat):P3 := V.pCross (V.pSub (pt l j) (pt l i)) (V.pSub (pt l k) (pt l i))
def mulP (s:Int) (p:P3):P3 := (IntKind.wrap .i64 (s * p.1),IntKind.wrap .i64 (s * p.2.1),IntKind.wrap .i64 (s * p.2.2))
def triS (l:List P3) (i j k:Nat):Int := V.sideP l (triN l i j k) (pt l i)
noncomputable def triA (l:List P3) (i j k:Nat):P3 := V.pShort (mulP (triS l i j k) (triN l i j k))
def triE (l:List P3) (i j k:Nat):List P3 := [V.pSub (pt l j) (pt l i),V.pSub (pt l k) (pt l i),V.pSub (pt l k) (pt l j)]
abbrev St2 := List P3 × List P3
noncomputable def trip (l:List P3) (i j k:Nat) (st:St2):St2 :=
 if triN l i j k = (0,0,0) then st else if triS l i j k = 0 then st
 else (if triA l i j k ∈ st.1 then st.1 else st.1 ++ [triA l i j k],(triE l i j k).foldl addE st.2)
noncomputable def kF (l:List P3) (i j:Nat):Nat → Nat → St2 → St2
 | 0,_,st => st
 | m + 1,k,st => kF l i j m (k + 1) (trip l i j k st)
noncomputable def jF (l:List P3) (i:Nat):Nat → Nat → St2 → St2
 | 0,_,st => st
 | m + 1,j,st => jF l i m (j + 1) (kF l i j (l.length - (j + 1)) (j + 1) st)
noncomputable def iF (l:List P3):Nat → Nat → St2 → St2
 | 0,_,st => st
 | m + 1,i,st => iF l m (i + 1) (jF l i (l.length - (i + 1)) (i + 1) st)
noncomputable def facesP (l:List P3):St2 := iF l l.length 0 ([],[])
def sz2 (st:St2):Nat := st.1.length + st.2.length
theorem addE_len (es:List P3) (e:P3):(addE es e).length ≤ es.length + 1 := by
 unfold addE; split <;> simp
theorem addEs_len:∀ (l es:List P3),(l.foldl addE es).length ≤ es.length + l.length
 | [],es => by simp
 | e :: l,es => by
   have h1 := addEs_len l (addE es e)
   have h2 := addE_len es e
   simp only [List.foldl_cons,List.length_cons]; omega
theorem trip_len (l:List P3) (i j k:Nat) (st:St2):sz2 (trip l i j k st) ≤ sz2 st + 4 := by
 unfold trip
 split
 · omega
 · split
   · omega
   · have h := addEs_len (triE l i j k) st.2
     have h3:(triE l i j k).length = 3 := rfl
     unfold sz2
     simp only
     split <;> (try rw [List.length_append,List.length_singleton]) <;> omega
theorem kF_len (l:List P3) (i j:Nat):∀ (m k:Nat) (st:St2),sz2 (kF l i j m k st) ≤ sz2 st + 4 * m
 | 0,k,st => by simp [kF]
 | m + 1,k,st => by
   have h1 := kF_len l i j m (k + 1) (trip l i j k st)
   have h2 := trip_len l i j k st
   simp only [kF]; omega
theorem jF_len (l:List P3) (i:Nat) (hl:l.length ≤ 12):∀ (m j:Nat) (st:St2),sz2 (jF l i m j st) ≤ sz2 st + 48 * m
 | 0,j,st => by simp [jF]
 | m + 1,j,st => by
   have h1 := jF_len l i hl m (j + 1) (kF l i j (l.length - (j + 1)) (j + 1) st)
   have h2 := kF_len l i j (l.length - (j + 1)) (j + 1) st
   simp only [jF]; omega
theorem iF_len (l:List P3) (hl:l.length ≤ 12):∀ (m i:Nat) (st:St2),sz2 (iF l m i st) ≤ sz2 st + 576 * m
 | 0,i,st => by simp [iF]
 | m + 1,i,st => by
   have h1 := iF_len l hl m (i + 1) (jF l i (l.length - (i + 1)) (i + 1) st)
   have h2 := jF_len l i hl (l.length - (i + 1)) (i + 1) st
   simp only [iF]; omega
theorem edges_val {α:Type} (es:List P3) (hes:es.length < 1000) (k1:List P3 → Option α):∀ (fuel i:Nat) (E:List P3),i ≤ es.length → es.length - i < fuel → E.length + (es.length - i) < 1000000 →
   M.core_l2 (es.length:Int) es k1 fuel (i:Int) E = k1 ((es.drop i).foldl addE E)
 | 0,i,E,h1,h2,h3 => by omega
 | f + 1,i,E,h1,h2,h3 => by
   unfold M.core_l2 M.core_l2_step
   rw [cLt_nat]
   by_cases hi:i < es.length
   · have a2 := addE_len E (pt es i)
     have hd := drop_pt es i hi
     rw [w_next (by omega)]
     rw [if_pos (by simpa using hi),if_pos (by omega:(0:Int) ≤ (i:Int) ∧ (i:Int) < (es.length:Int)),if_pos (lenB_of (n := E.length) (by omega)),if_pos (lenB_of (n := E.length) (by omega)),if_pos (by omega:(E.length + (0 + 1)) * 24 ≤ 140737488355328)]
     rw [hd,List.foldl_cons]
     have e:∀ X,X = addE E (pt es i) → M.core_l2 (es.length:Int) es k1 f ((i + 1:Nat):Int) X = k1 ((es.drop (i + 1)).foldl addE (addE E (pt es i))) := by
       intro X hX
       rw [hX]
       exact edges_val es hes k1 f (i + 1) _ (by omega) (by omega) (by omega)
     show (if (!V.hasP E (V.pShort (pt es i))) = true then if (!V.hasP E (negP (V.pShort (pt es i)))) = true then _ else _ else _) = _
     unfold V.hasP
     by_cases c1:V.pShort (pt es i) ∈ E
     · rw [if_neg (by simp [c1])]
       exact e E (by unfold addE; rw [if_pos (.inl c1)])
     · rw [if_pos (by simp [c1])]
       by_cases c2:negP (V.pShort (pt es i)) ∈ E
       · rw [if_neg (by simp [c2])]
         exact e E (by unfold addE; rw [if_pos (.inr c2)])
       · rw [if_pos (by simp [c2])]
         exact e _ (by unfold addE; rw [if_neg (by rintro (h | h); exact c1 h; exact c2 h)]; rfl)
   · have : i = es.length := by omega
     subst this
     simp
theorem w_pred {n:Nat} (h0:0 < n) (h:n < 1099511627776):IntKind.wrap .i64 ((n:Int) - 1) = ((n - 1:Nat):Int) := by
 rw [IntWalk.i64_in _ (by omega)]; omega
theorem cEq_nat (i n:Nat):cEq (i:Int) (n:Int) = decide (i = n) := by
 rw [cEq_eq,Bool.eq_iff_iff]; simp [Int.natCast_inj]
theorem tri_val {α:Type} (l:List P3) (hl:l.length ≤ 12) (i j k:Nat) (hi:i < l.length) (hj:j < l.length) (hk:k < l.length) (a b c d e f g h A E:List P3) (hA:A.length + E.length < 900000) (k0 k1:List P3 → List P3 → Option α) (kn:Int → List P3 → List P3 → Option α) :
   M.core_l3_step (i:Int) (j:Int) a b c d e f g h l kn k0 k1 (k:Int) A E = kn ((k + 1:Nat):Int) (trip l i j k (A,E)).1 (trip l i j k (A,E)).2 := by
 unfold M.core_l3_step
 try simp only
 have ci:(0:Int) ≤ (i:Int) ∧ (i:Int) < (l.length:Int) := by omega
 have cj:(0:Int) ≤ (j:Int) ∧ (j:Int) < (l.length:Int) := by omega
 have ck:(0:Int) ≤ (k:Int) ∧ (k:Int) < (l.length:Int) := by omega
 rw [cEq_nat,if_neg (by simp; omega),if_pos cj,if_pos ci,if_pos ck,if_pos ci,if_pos ci,if_pos (lenB_of (n := l.length) (by omega)),w_next (by omega)]
 have hN:(cEq (triN l i j k).1 (0:Int) && (cEq (triN l i j k).2.1 (0:Int) && (cEq (triN l i j k).2.2 (0:Int) && true))) = decide (triN l i j k = (0,0,0)) := eq3 _ _ _ (0,0,0)
 show (if (cEq (triN l i j k).1 (0:Int) && (cEq (triN l i j k).2.1 (0:Int) && (cEq (triN l i j k).2.2 (0:Int) && true))) = true then kn _ A E else if cEq (triS l i j k) 0 = true then kn _ A E else _) = _
 rw [hN,cEq_eq]
 by_cases c1:triN l i j k = (0,0,0)
 · have e : trip l i j k (A, E) = (A, E) := by unfold trip; rw [if_pos c1]
   rw [if_pos (by simpa using c1),e]
 · rw [if_neg (by simpa using c1)]
   by_cases c2:triS l i j k = 0
   · have e : trip l i j k (A, E) = (A, E) := by unfold trip; rw [if_neg c1, if_pos c2]
     rw [if_pos (by simpa using c2),e]
   · rw [if_neg (by simpa using c2), if_pos (lenB_of (n := A.length) (by omega))]
     have e:trip l i j k (A,E) = (if triA l i j k ∈ A then A else A ++ [triA l i j k],(triE l i j k).foldl addE E) := by unfold trip; rw [if_neg c1,if_neg c2]
     rw [e]
     show (if (!V.hasP A (triA l i j k)) = true then _ else _) = _
     unfold V.hasP
     have h2:∀ (fuel:Nat) (k1:List P3 → Option α),3 < fuel → M.core_l2 (↑((2:Nat) + (1:Nat)):Int) (triE l i j k) k1 fuel (0:Int) E = k1 ((triE l i j k).foldl addE E) := by
       intro fuel k1 hf
       exact edges_val (triE l i j k) (by show 3 < 1000; omega) k1 fuel 0 E (Nat.zero_le _) (by show 3 - 0 < fuel; omega) (by show E.length + (3 - 0) < 1000000; omega)
     by_cases c3:triA l i j k ∈ A
     · rw [if_neg (by simp [c3]), if_pos cj, if_pos ci, if_pos ck, if_pos ci, if_pos ck, if_pos cj, if_pos c3]
       refine (h2 _ _ (by omega)).trans ?_
       rfl
     · rw [if_pos (by simp [c3]),if_pos (by omega:(A.length + (0 + 1)) * 24 ≤ 140737488355328),if_pos cj,if_pos ci,if_pos ck,if_pos ci,if_pos ck,if_pos cj,if_neg c3]
       refine (h2 _ _ (by omega)).trans ?_
       rfl
theorem kF_val {α:Type} (l:List P3) (hl:l.length ≤ 12) (i j:Nat) (hi:i < l.length) (hj:j < l.length) (a b c d e f g h:List P3) (k0 k1:List P3 → List P3 → Option α):∀ (fuel k:Nat) (st:St2),k ≤ l.length → l.length - k < fuel → sz2 st + 4 * (l.length - k) < 900000 →
   M.core_l3 (i:Int) (j:Int) a b c d e f g h l k0 k1 fuel (k:Int) st.1 st.2 = if j = l.length - 1 then k0 (kF l i j (l.length - k) k st).1 (kF l i j (l.length - k) k st).2 else k1 (kF l i j (l.length - k) k st).1 (kF l i j (l.length - k) k st).2
 | 0,k,st,h1,h2,h3 => by omega
 | fu + 1,k,st,h1,h2,h3 => by
   unfold M.core_l3
   by_cases hk:k < l.length
   · have hs := trip_len l i j k st
     rw [tri_val l hl i j k hi hj hk _ _ _ _ _ _ _ _ _ _ (by unfold sz2 at h3; omega)]
     rw [kF_val l hl i j hi hj a b c d e f g h k0 k1 fu (k + 1) (trip l i j k (st.1,st.2)) (by omega) (by omega) (by show sz2 (trip l i j k st) + _ < _; omega)]
     have hq:l.length - k = (l.length - (k + 1)) + 1 := by omega
     rw [hq]
     rfl
   · have hk' : k = l.length := by omega
     subst hk'
     unfold M.core_l3_step
     try simp only
     rw [cEq_nat,if_pos (by simp),w_pred (by omega) (by omega),cEq_nat,Nat.sub_self]
     simp only [decide_eq_true_eq,kF]
theorem jF_val {α:Type} (l:List P3) (hl:l.length ≤ 12) (i:Nat) (hi:i < l.length) (a b c d e f g h:List P3) (kk:List P3 → List P3 → Option α):∀ (fuel j:Nat) (st:St2),i < j → j ≤ l.length → l.length - j < fuel → sz2 st + 48 * (l.length - j) < 800000 →
   M.core_l4 (i:Int) a b c d e f g h l kk kk fuel (j:Int) st.1 st.2 = kk (jF l i (l.length - j) j st).1 (jF l i (l.length - j) j st).2
 | 0,j,st,h0,h1,h2,h3 => by omega
 | fu + 1,j,st,h0,h1,h2,h3 => by
   unfold M.core_l4 M.core_l4_step
   rw [cLt_nat]
   by_cases hj:j < l.length
   · have hs := kF_len l i j (l.length - (j + 1)) (j + 1) st
     rw [if_pos (by simpa using hj),w_next (by omega)]
     rw [kF_val l hl i j hi hj a b c d e f g h _ _ _ (j + 1) st (by omega) (by omega) (by omega)]
     have hq:l.length - j = (l.length - (j + 1)) + 1 := by omega
     rw [hq]
     simp only [jF]
     by_cases hj2:j = l.length - 1
     · rw [if_pos hj2]
       have e2:l.length - (j + 1) = 0 := by omega
       rw [e2]
       simp only [jF]
     · rw [if_neg hj2]
       exact jF_val l hl i hi a b c d e f g h kk fu (j + 1) (kF l i j (l.length - (j + 1)) (j + 1) st) (by omega) (by omega) (by omega) (by omega)
   · have hj' : j = l.length := by omega
     subst hj'
     rw [if_neg (by simp),Nat.sub_self]
     simp only [jF]
theorem iF_val {α:Type} (l:List P3) (hl:l.length ≤ 12) (a b c d e f g h:List P3) (k1:List P3 → List P3 → Option α):∀ (fuel i:Nat) (st:St2),i ≤ l.length → l.length - i < fuel → sz2 st + 576 * (l.length - i) < 700000 →
   M.core_l5 (l.length:Int) a b c d e f g h l k1 fuel (i:Int) st.1 st.2 = k1 (iF l (l.length - i) i st).1 (iF l (l.length - i) i st).2
 | 0,i,st,h1,h2,h3 => by omega
 | fu + 1,i,st,h1,h2,h3 => by
   unfold M.core_l5 M.core_l5_step
   rw [cLt_nat]
   by_cases hi:i < l.length
   · have hs := jF_len l i hl (l.length - (i + 1)) (i + 1) st
     rw [if_pos (by simpa using hi),w_next (by omega)]
     rw [jF_val l hl i hi a b c d e f g h _ _ (i + 1) st (by omega) (by omega) (by omega) (by omega)]
     have hq:l.length - i = (l.length - (i + 1)) + 1 := by omega
     rw [hq]
     simp only [iF]
     exact iF_val l hl a b c d e f g h k1 fu (i + 1) (jF l i (l.length - (i + 1)) (i + 1) st) (by omega) (by omega) (by omega)
   · have hi' : i = l.length := by omega
     subst hi'
     rw [if_neg (by simp),Nat.sub_self]
     simp only [iF]
def brickP (x y z:Int):List P3 := [(-x,-y,-z),(-x,-y,z),(-x,y,-z),(-x,y,z),(x,-y,-z),(x,-y,z),(x,y,-z),(x,y,z)]
noncomputable def corPP (k hx hy hz:Int) (l:List P3):List P3 := if k = 1 then [(0,0,0)] else if k = 2 then [(-hx,0,0),(hx,0,0)] else if k = 3 then brickP hx hy hz else l
noncomputable def corAP (k:Int) (l:List P3):List P3 := if k = 3 then [(1,0,0),(0,1,0),(0,0,1)] else if k = 4 then (facesP l).1 else []
noncomputable def corEP (k:Int) (l:List P3):List P3 := if k = 2 then [(1,0,0)] else if k = 3 then [(1,0,0),(0,1,0),(0,0,1)] else if k = 4 then (facesP l).2 else []
noncomputable def _root_.Go.Proofs.YtlagndfhibkjpaaGreat.V.corP (k r hx hy hz:Int) (l:List P3):List P3 := hid (if chkP k r hx hy hz l = 0 then corPP k hx hy hz l else [])
noncomputable def _root_.Go.Proofs.YtlagndfhibkjpaaGreat.V.corA (k r hx hy hz:Int) (l:List P3):List P3 := hid (if chkP k r hx hy hz l = 0 then corAP k l else [])
noncomputable def _root_.Go.Proofs.YtlagndfhibkjpaaGreat.V.corE (k r hx hy hz:Int) (l:List P3):List P3 := hid (if chkP k r hx hy hz l = 0 then corEP k l else [])
noncomputable def _root_.Go.Proofs.YtlagndfhibkjpaaGreat.V.corR (k r hx hy hz:Int) (l:List P3):Int := hid (if chkP k r hx hy hz l = 0 then r else 0)
theorem chk_range {k r hx hy hz:Int} {l:List P3} (h:chkP k r hx hy hz l = 0) :
   (k = 1 ∧ 1 ≤ r ∧ r ≤ 16384) ∨ (k = 2 ∧ (1 ≤ r ∧ r ≤ 16384) ∧ 1 ≤ hx ∧ hx ≤ 65536) ∨ (k = 3 ∧ (0 ≤ r ∧ r ≤ 16384) ∧ (1 ≤ hx ∧ hx ≤ 65536) ∧ (1 ≤ hy ∧ hy ≤ 65536) ∧ 1 ≤ hz ∧ hz ≤ 65536) ∨
     (k = 4 ∧ (0 ≤ r ∧ r ≤ 16384) ∧ (4 ≤ l.length ∧ l.length ≤ 12) ∧ V.apartP l = true ∧ V.flatP l = false) := by
 unfold chkP at h
 split at h
 · rename_i hk
   split at h
   · rename_i h1; simp [inZ] at h1; exact .inl ⟨hk,h1⟩
   · cases h
 split at h
 · rename_i hk
   split at h
   · rename_i h1; simp [inZ] at h1; exact .inr (.inl ⟨hk,h1.2,h1.1⟩)
   · cases h
 split at h
 · rename_i hk
   split at h
   · rename_i h1; simp [inZ] at h1; exact .inr (.inr (.inl ⟨hk,h1.2,h1.1.1.1,h1.1.1.2,h1.1.2⟩))
   · cases h
 split at h
 · rename_i hk
   split at h
   · rename_i h1
     split at h
     · cases h
     · rename_i hf
       simp [inZ] at h1
       exact .inr (.inr (.inr ⟨hk,h1.2,by omega,h1.1.2,by simpa using hf⟩))
   · cases h
 · cases h
theorem brick_l0 {α:Type} (x y z:Int) (hz:-65536 ≤ z ∧ z ≤ 65536) (k1:List P3 → Option α) (fuel:Nat) (hf:3 ≤ fuel) (pts:List P3) (hp:pts.length < 1000) :
   M.core_l0 x (↑((0:Nat) + (1:Nat) + (1:Nat)):Int) z [IntKind.wrap .i64 (0 - y),y] k1 fuel 0 pts = k1 (pts ++ [(x,IntKind.wrap .i64 (0 - y),-z),(x,IntKind.wrap .i64 (0 - y),z)] ++ [(x,y,-z),(x,y,z)]) := by
 obtain ⟨f,rfl⟩:∃ f,fuel = f + 3 := ⟨fuel - 3,by omega⟩
 have w0:IntKind.wrap .i64 (0 + 1) = 1 := by decide
 have w1:IntKind.wrap .i64 (1 + 1) = 2 := by decide
 have wz:IntKind.wrap .i64 (0 - z) = -z := by rw [IntWalk.i64_in _ (by omega)]; omega
 have l0:cLt (0:Int) (↑((0:Nat) + (1:Nat) + (1:Nat)):Int) = true := by rw [cLt_eq]; decide
 have l1:cLt (1:Int) (↑((0:Nat) + (1:Nat) + (1:Nat)):Int) = true := by rw [cLt_eq]; decide
 have l2:¬ cLt (2:Int) (↑((0:Nat) + (1:Nat) + (1:Nat)):Int) = true := by rw [cLt_eq]; decide
 have c0:(0:Int) ≤ 0 ∧ (0:Int) < ((List.length [IntKind.wrap .i64 (0 - y),y]:Nat):Int) := by simp
 have c1:(0:Int) ≤ 1 ∧ (1:Int) < ((List.length [IntKind.wrap .i64 (0 - y),y]:Nat):Int) := by simp
 have q:∀ (m:Nat) (n:Nat),m < 2000 → n < 10 → (m + n) * 24 ≤ 140737488355328 := by intro m n h1 h2; omega
 unfold M.core_l0 M.core_l0_step
 rw [if_pos l0,if_pos c0,if_pos (q _ _ (by omega) (by decide)),w0,wz]
 unfold M.core_l0 M.core_l0_step
 rw [if_pos l1,if_pos c1,if_pos (q _ _ (by rw [List.length_append]; simp; omega) (by decide)),w1,wz]
 unfold M.core_l0 M.core_l0_step
 rw [if_neg l2]
 rfl
theorem brick_l1 {α:Type} (x y z:Int) (hx:-65536 ≤ x ∧ x ≤ 65536) (hy:-65536 ≤ y ∧ y ≤ 65536) (hz:-65536 ≤ z ∧ z ≤ 65536) (a b c d e g:List P3) (k1:List P3 → Option α) (fuel:Nat) (hf:3 ≤ fuel) :
   M.core_l1 (↑((0:Nat) + (1:Nat) + (1:Nat)):Int) y z a b c d e g [IntKind.wrap .i64 (0 - x),x] k1 fuel 0 [] = k1 (brickP x y z) := by
 obtain ⟨f,rfl⟩:∃ f,fuel = f + 3 := ⟨fuel - 3,by omega⟩
 have w0:IntKind.wrap .i64 (0 + 1) = 1 := by decide
 have w1:IntKind.wrap .i64 (1 + 1) = 2 := by decide
 have wx:IntKind.wrap .i64 (0 - x) = -x := by rw [IntWalk.i64_in _ (by omega)]; omega
 have wy:IntKind.wrap .i64 (0 - y) = -y := by rw [IntWalk.i64_in _ (by omega)]; omega
 have hb := fun (x:Int) (k1:List P3 → Option α) (fuel:Nat) (hf:3 ≤ fuel) (pts:List P3) (hp:pts.length < 1000) => brick_l0 x y z hz k1 fuel hf pts hp
 have c0:(0:Int) ≤ 0 ∧ (0:Int) < ((List.length [IntKind.wrap .i64 (0 - x),x]:Nat):Int) := by simp
 have c1:(0:Int) ≤ 1 ∧ (1:Int) < ((List.length [IntKind.wrap .i64 (0 - x),x]:Nat):Int) := by simp
 have l0:cLt (0:Int) (↑((0:Nat) + (1:Nat) + (1:Nat)):Int) = true := by rw [cLt_eq]; decide
 have l1:cLt (1:Int) (↑((0:Nat) + (1:Nat) + (1:Nat)):Int) = true := by rw [cLt_eq]; decide
 have l2:¬ cLt (2:Int) (↑((0:Nat) + (1:Nat) + (1:Nat)):Int) = true := by rw [cLt_eq]; decide
 unfold M.core_l1 M.core_l1_step
 rw [if_pos l0,if_pos c0]
 rw [hb _ _ _ (by omega) _ (by simp),w0]
 unfold M.core_l1 M.core_l1_step
 rw [if_pos l1,if_pos c1]
 rw [hb _ _ _ (by omega) _ (by simp),w1]
 unfold M.core_l1 M.core_l1_step
 rw [if_neg l2]
 simp only [List.getD_cons_zero,List.getD_cons_succ,Int.toNat_zero,List.nil_append,show Int.toNat 1 = 1 from rfl,wx,wy]
 rfl
theorem core_v {α:Type} (k r hx hy hz:Int) (l:List P3) (k0:Int → Int → List P3 → List P3 → List P3 → Option α) :
   M.core k r hx hy hz l k0 = k0 (V.corR k r hx hy hz l) (V.chk k r hx hy hz l) (V.corP k r hx hy hz l) (V.corA k r hx hy hz l) (V.corE k r hx hy hz l) := by
 unfold M.core V.corR V.corP V.corA V.corE V.chk
 simp only [hid_eq,cEq_eq]
 by_cases hc:chkP k r hx hy hz l = 0
 · simp only [hc, beq_self_eq_true, Bool.not_true, Bool.false_eq_true, if_false, if_true, beq_iff_eq]
   rcases chk_range hc with ⟨rfl,h1⟩ | ⟨rfl,h1,h2⟩ | ⟨rfl,h1,h2,h3,h4⟩ | ⟨rfl,h1,h2,h3,h4⟩
   · rfl
   · have wx : IntKind.wrap .i64 (0 - hx) = -hx := by rw [IntWalk.i64_in _ (by omega)]; omega
     simp only [wx]
     rfl
   · simp only [Int.reduceEq, if_false, if_true]
     rw [brick_l1 hx hy hz (by omega) (by omega) (by omega) _ _ _ _ _ _ _ _ (by omega),if_pos (lenB_of (n := 3) (by omega))]
     rfl
   · simp only [Int.reduceEq, if_false, if_true]
     rw [if_pos (lenB_of (n := l.length) (by omega))]
     have := iF_val l h2.2 l [] [] [] [] [] [] [] (fun (x402 x403:List P3) => k0 r (0:Int) l x402 x403) (100 + l.length + 0 + 0 + 0 + 0 + 0 + 0 + 0 + l.length + 0 + 0) 0 ([],[]) (by omega) (by omega) (by show 0 + 576 * _ < 700000; omega)
     refine Eq.trans this ?_
     rfl
 · simp [hc]
noncomputable def core_h {α:Type} (ds:List D) (Q:SV → Hp → Option α):Option α :=
 dI ds fun k ds => dI ds fun r ds => dI ds fun hx ds => dI ds fun hy ds => dI ds fun hz ds => dL kP ds fun l ds => dE ds (Q (.tup [.agg [.sl 0,.sl 1,.sl 2,.int .i64 (V.corR k r hx hy hz l)],.int .i64 (V.chk k r hx hy hz l)]) ([.seq (.st (.i .i64) [.i .i64,.i .i64]) (V.corP k r hx hy hz l) 23,.seq (.st (.i .i64) [.i .i64,.i .i64]) (V.corA k r hx hy hz l) 23,.seq (.st (.i .i64) [.i .i64,.i .i64]) (V.corE k r hx hy hz l) 23]))
theorem core_h_ok {α:Type}:FnOk E.P 53 (fEnt (α := α) core_sp core_h) :=
 fEntR_ok E (look_check_ok) (exec_sound E E_ok (look_check_ok) (core_l5_lps_ok) 400) fun ds Q r h => by
   unfold core_h at h
   obtain ⟨k,ds,rfl,h1⟩ := dI_inv h
   obtain ⟨r,ds,rfl,h2⟩ := dI_inv h1
   obtain ⟨hx,ds,rfl,h3⟩ := dI_inv h2
   obtain ⟨hy,ds,rfl,h4⟩ := dI_inv h3
   obtain ⟨hz,ds,rfl,h5⟩ := dI_inv h4
   obtain ⟨l,ds,rfl,h6⟩ := dL_inv h5
   obtain ⟨rfl,hE⟩ := dE_inv h6
   exact ⟨_,_,hE,fun vs => ⟨_,_,by kernel_rfl,(core_eq k r hx hy hz l ((cellsV (vs.headD undef)).tail.tail.tail.tail.tail.headD undef) _).trans (core_v k r hx hy hz l _)⟩⟩
noncomputable def look_core {α:Type}:LookF α := addFn 53 (fEnt core_sp core_h) look_check
theorem look_core_ok {α:Type}:LookOk E.P (look_core (α := α)) := addFn_ok core_h_ok (look_check_ok)
end
section
open Go
def loF (f:P3 → Int) (l:List P3) (m:Int):Int := l.foldl (fun m p => if f p < m then f p else m) m
def hiF (f:P3 → Int) (l:List P3) (m:Int):Int := l.foldl (fun m p => if f p > m then f p else m) m
theorem corPP_pos {k r hx hy hz:Int} {l:List P3} (h:chkP k r hx hy hz l = 0):0 < (corPP k hx hy hz l).length ∧ (corPP k hx hy hz l).length ≤ 12 ∧ (∀ p ∈ corPP k hx hy hz l,Sm p 65536) := by
 unfold corPP
 rcases chk_range h with ⟨rfl,h1⟩ | ⟨rfl,h1,h2⟩ | ⟨rfl,h1,h2,h3,h4⟩ | ⟨rfl,h1,h2,h3,h4⟩
 · simp only [if_true]; exact ⟨by decide,by decide,by simp [Sm]⟩
 · simp only [Int.reduceEq, if_false, if_true]
   refine ⟨by simp,by simp,?_⟩
   intro p hp
   simp only [List.mem_cons,List.not_mem_nil,or_false] at hp
   rcases hp with rfl | rfl <;> (unfold Sm; simp only; omega)
 · simp only [Int.reduceEq, if_false, if_true]
   refine ⟨by simp [brickP],by simp [brickP],?_⟩
   intro p hp
   simp only [brickP,List.mem_cons,List.not_mem_nil,or_false] at hp
   rcases hp with rfl | rfl | rfl | rfl | rfl | rfl | rfl | rfl <;> (unfold Sm; simp only; omega)
 · simp only [Int.reduceEq, if_false]
   refine ⟨by omega,h2.2,?_⟩
   intro p hp
   simp only [V.apartP,decide_eq_true_eq] at h3
   exact sm_of (h3.1 p hp)
end
end Go.Proofs.YtlagndfhibkjpaaGreat.Sx
