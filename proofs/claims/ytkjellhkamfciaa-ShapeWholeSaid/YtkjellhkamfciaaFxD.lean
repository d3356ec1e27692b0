/- fx: roots and sums. -/
import Derived.Test.YtkjellhkamfciaaFxM
namespace Go.Proofs.Ytkjellhkamfciaa.Sx
open Go
set_option maxRecDepth 20000
set_option linter.unusedVariables false
set_option linter.unusedSimpArgs false
noncomputable def _root_.Go.Proofs.Ytkjellhkamfciaa.M.tell {α : Type} (bad : Bool) (n : Int) (k0 : Int → Bool → Option α) : Option α :=
  if V.anyG [n] = true then k0 (0 : Int) true else k0 n bad
theorem tell_eq {α : Type} (bad : Bool) (n : Int) (Q : SV → Hp → Option α) : callI E look_div64 (exec E look_div64 noLps 400) 70 ([SV.ptr (nat_lit 0) (nat_lit 0), SV.int .i64 n]) ([.cells [SV.bool bad] (nat_lit 62)]) Q = M.tell bad n (fun (x0 : Int) (x1 : Bool) => Q (SV.int .i64 x0) ([.cells [SV.bool x1] (nat_lit 62)])) := by kernel_rfl
def tell_sp : List AS := [.ptr 62 [.bool false], .val (.int .i64 0)]
noncomputable def _root_.Go.Proofs.Ytkjellhkamfciaa.V.tell_r0 (bad : Bool) (n : Int) : Int :=
  if V.anyG [n] = true then (0 : Int) else n
noncomputable def _root_.Go.Proofs.Ytkjellhkamfciaa.V.tell_r1 (bad : Bool) (n : Int) : Bool :=
  if V.anyG [n] = true then true else bad
theorem tell_val {α : Type} (bad : Bool) (n : Int) (k0 : Int → Bool → Option α) : M.tell bad n k0 = k0 (V.tell_r0 bad n) (V.tell_r1 bad n) := by
  unfold M.tell V.tell_r0 V.tell_r1
  repeat' first | rfl | (split <;> rename_i h <;> first | simp only [if_pos h] | simp only [if_neg h] | skip)
noncomputable def tell_c {α : Type} (ds : List D) (Q : SV → Hp → Option α) : Option α :=
  dB ds fun bad ds => dI ds fun n ds => dE ds (Q (SV.int .i64 (V.tell_r0 bad n)) ([.cells [SV.bool (V.tell_r1 bad n)] (nat_lit 62)]))
theorem tell_c_ok {α : Type} : FnOk E.P 70 (fEnt (α := α) tell_sp tell_c) :=
  fEnt_ok E (look_div64_ok) (exec_sound E E_ok (look_div64_ok) (noLps_ok _) 400) fun ds Q r h => by
    unfold tell_c at h
    obtain ⟨bad, ds, rfl, h1⟩ := dB_inv h
    obtain ⟨n, ds, rfl, h2⟩ := dI_inv h1
    obtain ⟨rfl, hE⟩ := dE_inv h2
    exact ⟨[SV.ptr (nat_lit 0) (nat_lit 0), SV.int .i64 n], [.cells [SV.bool bad] (nat_lit 62)], fun vs => by kernel_rfl, (tell_eq bad n Q).trans ((tell_val bad n (fun (x0 : Int) (x1 : Bool) => Q (SV.int .i64 x0) ([.cells [SV.bool x1] (nat_lit 62)]))).trans hE)⟩
noncomputable def tell_go {α : Type} (ds : List D) (Q : SV → Hp → Option α) : Option α :=
  dB ds fun bad ds => dI ds fun n ds => dE ds (M.tell bad n (fun (x0 : Int) (x1 : Bool) => Q (SV.int .i64 x0) ([.cells [SV.bool x1] (nat_lit 62)])))
theorem tell_ok {α : Type} : FnOk E.P 70 (fEnt (α := α) tell_sp tell_go) :=
  fEnt_ok E (look_div64_ok) (exec_sound E E_ok (look_div64_ok) (noLps_ok _) 400) fun ds Q r h => by
    unfold tell_go at h
    obtain ⟨bad, ds, rfl, h1⟩ := dB_inv h
    obtain ⟨n, ds, rfl, h2⟩ := dI_inv h1
    obtain ⟨rfl, hE⟩ := dE_inv h2
    exact ⟨[SV.ptr (nat_lit 0) (nat_lit 0), SV.int .i64 n], [.cells [SV.bool bad] (nat_lit 62)], fun vs => by kernel_rfl, (tell_eq bad n Q).trans hE⟩
theorem tell_v {α : Type} (bad : Bool) (n : Int) (k0 : Int → Bool → Option α) : M.tell bad n k0 = k0 (V.gv (V.tl n)) (V.gn (V.tl n) bad) := by
  unfold M.tell V.anyG V.tl V.gv V.gn
  cases h : isG n <;> simp [h]
noncomputable def tell_h {α : Type} (ds : List D) (Q : SV → Hp → Option α) : Option α :=
  dB ds fun bad ds => dI ds fun n ds => dE ds (Q (.int .i64 (V.gv (V.tl n))) ([.cells [.bool (V.gn (V.tl n) bad)] 62]))
theorem tell_h_ok {α : Type} : FnOk E.P 70 (fEnt (α := α) tell_sp tell_h) :=
  fEnt_ok E (look_div64_ok) (exec_sound E E_ok (look_div64_ok) (noLps_ok _) 400) fun ds Q r h => by
    unfold tell_h at h
    obtain ⟨bad, ds, rfl, h1⟩ := dB_inv h
    obtain ⟨n, ds, rfl, h2⟩ := dI_inv h1
    obtain ⟨rfl, hE⟩ := dE_inv h2
    exact ⟨[SV.ptr (nat_lit 0) (nat_lit 0), SV.int .i64 n], [.cells [SV.bool bad] (nat_lit 62)], fun vs => by kernel_rfl, (tell_eq bad n Q).trans ((tell_v bad n _).trans hE)⟩
noncomputable def look_tell {α : Type} : LookF α := addFn 70 (fEnt tell_sp tell_h) look_div64
theorem look_tell_ok {α : Type} : LookOk E.P (look_tell (α := α)) := addFn_ok tell_h_ok (look_div64_ok)
noncomputable def _root_.Go.Proofs.Ytkjellhkamfciaa.M.shift {α : Type} (bad : Bool) (hi : Int) (lo : Int) (k0 : Int → Bool → Option α) : Option α :=
  if (!cEq (Int.fdiv (IntKind.wrap .i64 hi) (4294967296 : Int)) (Int.fdiv (IntKind.wrap .i64 (borI IntKind.u64 (IntKind.wrap IntKind.u64 (hi * (4294967296 : Int))) (Int.fdiv lo (4294967296 : Int)))) (9223372036854775808 : Int))) = true then k0 (0 : Int) true
else k0 (V.gv (V.tl (IntKind.wrap .i64 (borI IntKind.u64 (IntKind.wrap IntKind.u64 (hi * (4294967296 : Int))) (Int.fdiv lo (4294967296 : Int)))))) (V.gn (V.tl (IntKind.wrap .i64 (borI IntKind.u64 (IntKind.wrap IntKind.u64 (hi * (4294967296 : Int))) (Int.fdiv lo (4294967296 : Int))))) bad)
theorem shift_eq {α : Type} (bad : Bool) (hi : Int) (lo : Int) (Q : SV → Hp → Option α) : callI E look_tell (exec E look_tell noLps 400) 65 ([SV.ptr (nat_lit 0) (nat_lit 0), SV.agg [SV.int IntKind.u64 hi, SV.int IntKind.u64 lo]]) ([.cells [SV.bool bad] (nat_lit 62)]) Q = M.shift bad hi lo (fun (x2 : Int) (x3 : Bool) => Q (SV.int .i64 x2) ([.cells [SV.bool x3] (nat_lit 62)])) := by kernel_rfl
def shift_sp : List AS := [.ptr 62 [.bool false], .val (.agg [.int .u64 0, .int .u64 0])]
noncomputable def _root_.Go.Proofs.Ytkjellhkamfciaa.V.shift_r0 (bad : Bool) (hi : Int) (lo : Int) : Int :=
  if (!cEq (Int.fdiv (IntKind.wrap .i64 hi) (4294967296 : Int)) (Int.fdiv (IntKind.wrap .i64 (borI IntKind.u64 (IntKind.wrap IntKind.u64 (hi * (4294967296 : Int))) (Int.fdiv lo (4294967296 : Int)))) (9223372036854775808 : Int))) = true then (0 : Int) else V.gv (V.tl (IntKind.wrap .i64 (borI IntKind.u64 (IntKind.wrap IntKind.u64 (hi * (4294967296 : Int))) (Int.fdiv lo (4294967296 : Int)))))
noncomputable def _root_.Go.Proofs.Ytkjellhkamfciaa.V.shift_r1 (bad : Bool) (hi : Int) (lo : Int) : Bool :=
  if (!cEq (Int.fdiv (IntKind.wrap .i64 hi) (4294967296 : Int)) (Int.fdiv (IntKind.wrap .i64 (borI IntKind.u64 (IntKind.wrap IntKind.u64 (hi * (4294967296 : Int))) (Int.fdiv lo (4294967296 : Int)))) (9223372036854775808 : Int))) = true then true else V.gn (V.tl (IntKind.wrap .i64 (borI IntKind.u64 (IntKind.wrap IntKind.u64 (hi * (4294967296 : Int))) (Int.fdiv lo (4294967296 : Int))))) bad
theorem shift_val {α : Type} (bad : Bool) (hi : Int) (lo : Int) (k0 : Int → Bool → Option α) : M.shift bad hi lo k0 = k0 (V.shift_r0 bad hi lo) (V.shift_r1 bad hi lo) := by
  unfold M.shift V.shift_r0 V.shift_r1
  repeat' first | rfl | (split <;> rename_i h <;> first | simp only [if_pos h] | simp only [if_neg h] | skip)
noncomputable def shift_c {α : Type} (ds : List D) (Q : SV → Hp → Option α) : Option α :=
  dB ds fun bad ds => dI ds fun hi ds => dI ds fun lo ds => dE ds (Q (SV.int .i64 (V.shift_r0 bad hi lo)) ([.cells [SV.bool (V.shift_r1 bad hi lo)] (nat_lit 62)]))
theorem shift_c_ok {α : Type} : FnOk E.P 65 (fEnt (α := α) shift_sp shift_c) :=
  fEnt_ok E (look_tell_ok) (exec_sound E E_ok (look_tell_ok) (noLps_ok _) 400) fun ds Q r h => by
    unfold shift_c at h
    obtain ⟨bad, ds, rfl, h1⟩ := dB_inv h
    obtain ⟨hi, ds, rfl, h2⟩ := dI_inv h1
    obtain ⟨lo, ds, rfl, h3⟩ := dI_inv h2
    obtain ⟨rfl, hE⟩ := dE_inv h3
    exact ⟨[SV.ptr (nat_lit 0) (nat_lit 0), SV.agg [SV.int IntKind.u64 hi, SV.int IntKind.u64 lo]], [.cells [SV.bool bad] (nat_lit 62)], fun vs => by kernel_rfl, (shift_eq bad hi lo Q).trans ((shift_val bad hi lo (fun (x2 : Int) (x3 : Bool) => Q (SV.int .i64 x2) ([.cells [SV.bool x3] (nat_lit 62)]))).trans hE)⟩
noncomputable def shift_go {α : Type} (ds : List D) (Q : SV → Hp → Option α) : Option α :=
  dB ds fun bad ds => dI ds fun hi ds => dI ds fun lo ds => dE ds (M.shift bad hi lo (fun (x2 : Int) (x3 : Bool) => Q (SV.int .i64 x2) ([.cells [SV.bool x3] (nat_lit 62)])))
theorem shift_ok {α : Type} : FnOk E.P 65 (fEnt (α := α) shift_sp shift_go) :=
  fEnt_ok E (look_tell_ok) (exec_sound E E_ok (look_tell_ok) (noLps_ok _) 400) fun ds Q r h => by
    unfold shift_go at h
    obtain ⟨bad, ds, rfl, h1⟩ := dB_inv h
    obtain ⟨hi, ds, rfl, h2⟩ := dI_inv h1
    obtain ⟨lo, ds, rfl, h3⟩ := dI_inv h2
    obtain ⟨rfl, hE⟩ := dE_inv h3
    exact ⟨[SV.ptr (nat_lit 0) (nat_lit 0), SV.agg [SV.int IntKind.u64 hi, SV.int IntKind.u64 lo]], [.cells [SV.bool bad] (nat_lit 62)], fun vs => by kernel_rfl, (shift_eq bad hi lo Q).trans hE⟩
noncomputable def look_shift {α : Type} : LookF α := addFn 65 (fEnt shift_sp shift_c) look_tell
theorem look_shift_ok {α : Type} : LookOk E.P (look_shift (α := α)) := addFn_ok shift_c_ok (look_tell_ok)
/-- A number by 2^32, down. -/
theorem shift_r {x : Int} (bad : Bool) (h0 : -170141183460469231731687303715884105728 ≤ x) (h1 : x < 170141183460469231731687303715884105728) :
    V.shift_r0 bad (hiW x) (loW x) = V.gv (V.tl (x / 4294967296)) ∧ V.shift_r1 bad (hiW x) (loW x) = V.gn (V.tl (x / 4294967296)) bad := by
  unfold V.shift_r0 V.shift_r1
  have a1 := hiW_lo x
  have a2 := loW_lo x
  have e1 : borI IntKind.u64 (IntKind.wrap IntKind.u64 (hiW x * 4294967296)) (Int.fdiv (loW x) 4294967296) = hiW x % 4294967296 * 4294967296 + loW x / 4294967296 := by
    rw [fdiv_pos _ _ (by decide), show IntKind.wrap IntKind.u64 (hiW x * 4294967296) = hiW x % 4294967296 * 2 ^ 32 by rw [IntKind.wrap_u64]; omega]
    rw [bor_add (by omega) (by omega) (by omega) (by omega) (by omega)]
    omega
  rw [e1, cEq_eq, fdiv_pos _ _ (by decide), fdiv_pos _ _ (by decide)]
  unfold V.tl V.gv V.gn
  have hG := isG_iff (x / 4294967296)
  by_cases hb : isG (x / 4294967296) = true
  · have hb' := hG.1 hb
    by_cases hc : IntKind.wrap .i64 (hiW x) / 4294967296 = IntKind.wrap .i64 (hiW x % 4294967296 * 4294967296 + loW x / 4294967296) / 9223372036854775808
    · have : IntKind.wrap .i64 (hiW x % 4294967296 * 4294967296 + loW x / 4294967296) = x / 4294967296 := by
        simp only [IntKind.wrap_i64, hiW, loW] at *; omega
      simp [hc, this, hb]
    · simp [hc, hb]
  · have hb' : isG (x / 4294967296) = false := by simpa using hb
    have hb2 := (isG_false _).1 hb'
    have hn : IntKind.wrap .i64 (hiW x % 4294967296 * 4294967296 + loW x / 4294967296) = x / 4294967296 := by
      simp only [IntKind.wrap_i64, hiW, loW] at *; omega
    have hc : IntKind.wrap .i64 (hiW x) / 4294967296 = x / 4294967296 / 9223372036854775808 := by
      simp only [IntKind.wrap_i64, hiW, loW] at *; omega
    simp [hn, hc, hb']
theorem anyG_get {l : List Int} (h : V.anyG l = false) (i : Nat) : R64 (l.getD i 0) := by
  unfold V.anyG at h
  by_cases hi : i < l.length
  · have := List.any_eq_false.1 h (l[i]) (List.getElem_mem hi)
    rw [Bool.not_eq_true, isG_false] at this
    have e : l.getD i 0 = l[i] := by simp [List.getD_eq_getElem?_getD, hi]
    rw [e]; unfold R64; omega
  · have e : l.getD i 0 = 0 := by simp [List.getD_eq_getElem?_getD, hi]
    rw [e]; unfold R64; omega
theorem dotZ_drop (a b : List Int) (i : Nat) (h1 : i < a.length) (h2 : i < b.length) : V.dotZ (a.drop i) (b.drop i) = a.getD i 0 * b.getD i 0 + V.dotZ (a.drop (i + 1)) (b.drop (i + 1)) := by
  unfold V.dotZ
  rw [List.drop_eq_getElem_cons h1, List.drop_eq_getElem_cons h2, List.zipWith_cons_cons, List.sum_cons]
  simp [List.getD_eq_getElem?_getD, h1, h2]
end Go.Proofs.Ytkjellhkamfciaa.Sx
