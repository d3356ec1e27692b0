/- fx: roots and sums. -/
import Derived.Test.YtmcifgaaojgheaaFxM
namespace Go.Proofs.Ytmcifgaaojgheaa.Sx
open Go
set_option maxRecDepth 20000
set_option linter.unusedVariables false
set_option linter.unusedSimpArgs false
noncomputable def _root_.Go.Proofs.Ytmcifgaaojgheaa.M.tell {α : Type} (bad : Bool) (n : Int) (k0 : Int → Bool → Option α) : Option α :=
  if V.anyG [n] = true then k0 (0 : Int) true else k0 n bad
theorem tell_eq {α : Type} (bad : Bool) (n : Int) (Q : SV → Hp → Option α) : callI E look_div64 (exec E look_div64 noLps 400) 76 ([SV.ptr (nat_lit 0) (nat_lit 0), SV.int IntKind.i64 n]) ([SObj.cells [SV.bool bad] (nat_lit 27)]) Q = Go.Proofs.Ytmcifgaaojgheaa.M.tell bad n (fun (x0 : Int) (x1 : Bool) => Q (SV.int IntKind.i64 x0) ([SObj.cells [SV.bool x1] (nat_lit 27)])) := by kernel_rfl
def tell_sp : List AS := [.ptr 27 [.bool false], .val (.int .i64 0)]
noncomputable def _root_.Go.Proofs.Ytmcifgaaojgheaa.V.tell_r0 (bad : Bool) (n : Int) : Int :=
  if V.anyG [n] = true then (0 : Int) else n
noncomputable def _root_.Go.Proofs.Ytmcifgaaojgheaa.V.tell_r1 (bad : Bool) (n : Int) : Bool :=
  if V.anyG [n] = true then true else bad
theorem tell_val {α : Type} (bad : Bool) (n : Int) (k0 : Int → Bool → Option α) : Go.Proofs.Ytmcifgaaojgheaa.M.tell bad n k0 = k0 (Go.Proofs.Ytmcifgaaojgheaa.V.tell_r0 bad n) (Go.Proofs.Ytmcifgaaojgheaa.V.tell_r1 bad n) := by
  unfold Go.Proofs.Ytmcifgaaojgheaa.M.tell Go.Proofs.Ytmcifgaaojgheaa.V.tell_r0 Go.Proofs.Ytmcifgaaojgheaa.V.tell_r1
  repeat' first | rfl | (split <;> rename_i h <;> first | simp only [if_pos h] | simp only [if_neg h] | skip)
noncomputable def tell_c {α : Type} (ds : List D) (Q : SV → Hp → Option α) : Option α :=
  dB ds fun bad ds => dI ds fun n ds => dE ds (Q (SV.int IntKind.i64 (Go.Proofs.Ytmcifgaaojgheaa.V.tell_r0 bad n)) ([SObj.cells [SV.bool (Go.Proofs.Ytmcifgaaojgheaa.V.tell_r1 bad n)] (nat_lit 27)]))
theorem tell_c_ok {α : Type} : FnOk E.P 76 (fEnt (α := α) tell_sp tell_c) :=
  fEnt_ok E (look_div64_ok) (exec_sound E E_ok (look_div64_ok) (noLps_ok _) 400) fun ds Q r h => by
    unfold tell_c at h
    obtain ⟨bad, ds, rfl, h1⟩ := dB_inv h
    obtain ⟨n, ds, rfl, h2⟩ := dI_inv h1
    obtain ⟨rfl, hE⟩ := dE_inv h2
    exact ⟨[SV.ptr (nat_lit 0) (nat_lit 0), SV.int IntKind.i64 n], [SObj.cells [SV.bool bad] (nat_lit 27)], fun vs => by kernel_rfl, (tell_eq bad n Q).trans ((tell_val bad n (fun (x0 : Int) (x1 : Bool) => Q (SV.int IntKind.i64 x0) ([SObj.cells [SV.bool x1] (nat_lit 27)]))).trans hE)⟩
noncomputable def tell_go {α : Type} (ds : List D) (Q : SV → Hp → Option α) : Option α :=
  dB ds fun bad ds => dI ds fun n ds => dE ds (Go.Proofs.Ytmcifgaaojgheaa.M.tell bad n (fun (x0 : Int) (x1 : Bool) => Q (SV.int IntKind.i64 x0) ([SObj.cells [SV.bool x1] (nat_lit 27)])))
theorem tell_ok {α : Type} : FnOk E.P 76 (fEnt (α := α) tell_sp tell_go) :=
  fEnt_ok E (look_div64_ok) (exec_sound E E_ok (look_div64_ok) (noLps_ok _) 400) fun ds Q r h => by
    unfold tell_go at h
    obtain ⟨bad, ds, rfl, h1⟩ := dB_inv h
    obtain ⟨n, ds, rfl, h2⟩ := dI_inv h1
    obtain ⟨rfl, hE⟩ := dE_inv h2
    exact ⟨[SV.ptr (nat_lit 0) (nat_lit 0), SV.int IntKind.i64 n], [SObj.cells [SV.bool bad] (nat_lit 27)], fun vs => by kernel_rfl, (tell_eq bad n Q).trans hE⟩
theorem tell_v {α : Type} (bad : Bool) (n : Int) (k0 : Int → Bool → Option α) : M.tell bad n k0 = k0 (V.gv (V.tl n)) (V.gn (V.tl n) bad) := by
  unfold M.tell V.anyG V.tl V.gv V.gn
  cases h : isG n <;> simp [h]
noncomputable def tell_h {α : Type} (ds : List D) (Q : SV → Hp → Option α) : Option α :=
  dB ds fun bad ds => dI ds fun n ds => dE ds (Q (.int .i64 (V.gv (V.tl n))) ([.cells [.bool (V.gn (V.tl n) bad)] 27]))
theorem tell_h_ok {α : Type} : FnOk E.P 76 (fEnt (α := α) tell_sp tell_h) :=
  fEnt_ok E (look_div64_ok) (exec_sound E E_ok (look_div64_ok) (noLps_ok _) 400) fun ds Q r h => by
    unfold tell_h at h
    obtain ⟨bad, ds, rfl, h1⟩ := dB_inv h
    obtain ⟨n, ds, rfl, h2⟩ := dI_inv h1
    obtain ⟨rfl, hE⟩ := dE_inv h2
    exact ⟨[SV.ptr (nat_lit 0) (nat_lit 0), SV.int IntKind.i64 n], [SObj.cells [SV.bool bad] (nat_lit 27)], fun vs => by kernel_rfl, (tell_eq bad n Q).trans ((tell_v bad n _).trans hE)⟩
noncomputable def look_tell {α : Type} : LookF α := addFn 76 (fEnt tell_sp tell_h) look_div64
theorem look_tell_ok {α : Type} : LookOk E.P (look_tell (α := α)) := addFn_ok tell_h_ok (look_div64_ok)
noncomputable def _root_.Go.Proofs.Ytmcifgaaojgheaa.M.shift {α : Type} (bad : Bool) (hi : Int) (lo : Int) (k0 : Int → Bool → Option α) : Option α :=
  if
    (!cEq (Int.fdiv (IntKind.wrap IntKind.i64 hi) (4294967296 : Int))
          (Int.fdiv (IntKind.wrap IntKind.i64 (borI IntKind.u64 (IntKind.wrap IntKind.u64 (hi * (4294967296 : Int))) (Int.fdiv lo (4294967296 : Int))))
            (9223372036854775808 : Int))) =
      true then
  k0 (0 : Int) true
else
  k0 (V.gv (V.tl (IntKind.wrap IntKind.i64 (borI IntKind.u64 (IntKind.wrap IntKind.u64 (hi * (4294967296 : Int))) (Int.fdiv lo (4294967296 : Int))))))
    (V.gn (V.tl (IntKind.wrap IntKind.i64 (borI IntKind.u64 (IntKind.wrap IntKind.u64 (hi * (4294967296 : Int))) (Int.fdiv lo (4294967296 : Int))))) bad)
theorem shift_eq {α : Type} (bad : Bool) (hi : Int) (lo : Int) (Q : SV → Hp → Option α) : callI E look_tell (exec E look_tell noLps 400) 77 ([SV.ptr (nat_lit 0) (nat_lit 0), SV.agg [SV.int IntKind.u64 hi, SV.int IntKind.u64 lo]]) ([SObj.cells [SV.bool bad] (nat_lit 27)]) Q = Go.Proofs.Ytmcifgaaojgheaa.M.shift bad hi lo (fun (x2 : Int) (x3 : Bool) => Q (SV.int IntKind.i64 x2) ([SObj.cells [SV.bool x3] (nat_lit 27)])) := by kernel_rfl
def shift_sp : List AS := [.ptr 27 [.bool false], .val (.agg [.int .u64 0, .int .u64 0])]
noncomputable def _root_.Go.Proofs.Ytmcifgaaojgheaa.V.shift_r0 (bad : Bool) (hi : Int) (lo : Int) : Int :=
  if
    (!cEq (Int.fdiv (IntKind.wrap IntKind.i64 hi) (4294967296 : Int))
          (Int.fdiv (IntKind.wrap IntKind.i64 (borI IntKind.u64 (IntKind.wrap IntKind.u64 (hi * (4294967296 : Int))) (Int.fdiv lo (4294967296 : Int))))
            (9223372036854775808 : Int))) =
      true then
  (0 : Int)
else V.gv (V.tl (IntKind.wrap IntKind.i64 (borI IntKind.u64 (IntKind.wrap IntKind.u64 (hi * (4294967296 : Int))) (Int.fdiv lo (4294967296 : Int)))))
noncomputable def _root_.Go.Proofs.Ytmcifgaaojgheaa.V.shift_r1 (bad : Bool) (hi : Int) (lo : Int) : Bool :=
  if
    (!cEq (Int.fdiv (IntKind.wrap IntKind.i64 hi) (4294967296 : Int))
          (Int.fdiv (IntKind.wrap IntKind.i64 (borI IntKind.u64 (IntKind.wrap IntKind.u64 (hi * (4294967296 : Int))) (Int.fdiv lo (4294967296 : Int))))
            (9223372036854775808 : Int))) =
      true then
  true
else V.gn (V.tl (IntKind.wrap IntKind.i64 (borI IntKind.u64 (IntKind.wrap IntKind.u64 (hi * (4294967296 : Int))) (Int.fdiv lo (4294967296 : Int))))) bad
theorem shift_val {α : Type} (bad : Bool) (hi : Int) (lo : Int) (k0 : Int → Bool → Option α) : Go.Proofs.Ytmcifgaaojgheaa.M.shift bad hi lo k0 = k0 (Go.Proofs.Ytmcifgaaojgheaa.V.shift_r0 bad hi lo) (Go.Proofs.Ytmcifgaaojgheaa.V.shift_r1 bad hi lo) := by
  unfold Go.Proofs.Ytmcifgaaojgheaa.M.shift Go.Proofs.Ytmcifgaaojgheaa.V.shift_r0 Go.Proofs.Ytmcifgaaojgheaa.V.shift_r1
  repeat' first | rfl | (split <;> rename_i h <;> first | simp only [if_pos h] | simp only [if_neg h] | skip)
noncomputable def shift_c {α : Type} (ds : List D) (Q : SV → Hp → Option α) : Option α :=
  dB ds fun bad ds => dI ds fun hi ds => dI ds fun lo ds => dE ds (Q (SV.int IntKind.i64 (Go.Proofs.Ytmcifgaaojgheaa.V.shift_r0 bad hi lo)) ([SObj.cells [SV.bool (Go.Proofs.Ytmcifgaaojgheaa.V.shift_r1 bad hi lo)] (nat_lit 27)]))
theorem shift_c_ok {α : Type} : FnOk E.P 77 (fEnt (α := α) shift_sp shift_c) :=
  fEnt_ok E (look_tell_ok) (exec_sound E E_ok (look_tell_ok) (noLps_ok _) 400) fun ds Q r h => by
    unfold shift_c at h
    obtain ⟨bad, ds, rfl, h1⟩ := dB_inv h
    obtain ⟨hi, ds, rfl, h2⟩ := dI_inv h1
    obtain ⟨lo, ds, rfl, h3⟩ := dI_inv h2
    obtain ⟨rfl, hE⟩ := dE_inv h3
    exact ⟨[SV.ptr (nat_lit 0) (nat_lit 0), SV.agg [SV.int IntKind.u64 hi, SV.int IntKind.u64 lo]], [SObj.cells [SV.bool bad] (nat_lit 27)], fun vs => by kernel_rfl, (shift_eq bad hi lo Q).trans ((shift_val bad hi lo (fun (x2 : Int) (x3 : Bool) => Q (SV.int IntKind.i64 x2) ([SObj.cells [SV.bool x3] (nat_lit 27)]))).trans hE)⟩
noncomputable def shift_go {α : Type} (ds : List D) (Q : SV → Hp → Option α) : Option α :=
  dB ds fun bad ds => dI ds fun hi ds => dI ds fun lo ds => dE ds (Go.Proofs.Ytmcifgaaojgheaa.M.shift bad hi lo (fun (x2 : Int) (x3 : Bool) => Q (SV.int IntKind.i64 x2) ([SObj.cells [SV.bool x3] (nat_lit 27)])))
theorem shift_ok {α : Type} : FnOk E.P 77 (fEnt (α := α) shift_sp shift_go) :=
  fEnt_ok E (look_tell_ok) (exec_sound E E_ok (look_tell_ok) (noLps_ok _) 400) fun ds Q r h => by
    unfold shift_go at h
    obtain ⟨bad, ds, rfl, h1⟩ := dB_inv h
    obtain ⟨hi, ds, rfl, h2⟩ := dI_inv h1
    obtain ⟨lo, ds, rfl, h3⟩ := dI_inv h2
    obtain ⟨rfl, hE⟩ := dE_inv h3
    exact ⟨[SV.ptr (nat_lit 0) (nat_lit 0), SV.agg [SV.int IntKind.u64 hi, SV.int IntKind.u64 lo]], [SObj.cells [SV.bool bad] (nat_lit 27)], fun vs => by kernel_rfl, (shift_eq bad hi lo Q).trans hE⟩
noncomputable def look_shift {α : Type} : LookF α := addFn 77 (fEnt shift_sp shift_c) look_tell
theorem look_shift_ok {α : Type} : LookOk E.P (look_shift (α := α)) := addFn_ok shift_c_ok (look_tell_ok)
/-- A number by 2^32, down. -/
theorem shift_r {x : Int} (bad : Bool) (h0 : -170141183460469231731687303715884105728 ≤ x) (h1 : x < 170141183460469231731687303715884105728) :
    V.shift_r0 bad (hiW x) (loW x) = V.gv (V.tl (x / 4294967296)) ∧ V.shift_r1 bad (hiW x) (loW x) = V.gn (V.tl (x / 4294967296)) bad := by
  unfold V.shift_r0 V.shift_r1
  have a1 := hiW_lo x
  have a2 := loW_lo x
  have e1 : borI IntKind.u64 (IntKind.wrap IntKind.u64 (hiW x * 4294967296)) (Int.fdiv (loW x) 4294967296) = hiW x % 4294967296 * 4294967296 + loW x / 4294967296 := by
    rw [fdiv_pos _ _ (by decide), show IntKind.wrap IntKind.u64 (hiW x * 4294967296) = hiW x % 4294967296 * 2 ^ 32 by rw [IntKind.wrap_u64]; omega]
    rw [bor_add (by omega) (by omega) (by omega) (by omega) (by omega)]
    omega
  rw [e1, cEq_eq, fdiv_pos _ _ (by decide), fdiv_pos _ _ (by decide)]
  unfold V.tl V.gv V.gn
  have hG := isG_iff (x / 4294967296)
  by_cases hb : isG (x / 4294967296) = true
  · have hb' := hG.1 hb
    by_cases hc : IntKind.wrap .i64 (hiW x) / 4294967296 = IntKind.wrap .i64 (hiW x % 4294967296 * 4294967296 + loW x / 4294967296) / 9223372036854775808
    · have : IntKind.wrap .i64 (hiW x % 4294967296 * 4294967296 + loW x / 4294967296) = x / 4294967296 := by
        simp only [IntKind.wrap_i64, hiW, loW] at *; omega
      simp [hc, this, hb]
    · simp [hc, hb]
  · have hb' : isG (x / 4294967296) = false := by simpa using hb
    have hb2 := (isG_false _).1 hb'
    have hn : IntKind.wrap .i64 (hiW x % 4294967296 * 4294967296 + loW x / 4294967296) = x / 4294967296 := by
      simp only [IntKind.wrap_i64, hiW, loW] at *; omega
    have hc : IntKind.wrap .i64 (hiW x) / 4294967296 = x / 4294967296 / 9223372036854775808 := by
      simp only [IntKind.wrap_i64, hiW, loW] at *; omega
    simp [hn, hc, hb']
noncomputable def _root_.Go.Proofs.Ytmcifgaaojgheaa.M.sum_l0_step {α : Type} (x17 : List Int) (x19 : List Int) (x20 : Int) (kn : Int → Int → Int → Option α) (k1 : Int → Int → Option α) (x21 : Int) (x24 : Int) (x25 : Int) : Option α :=
  if cLt x21 x20 = true then
  if (0 : Int) ≤ x21 ∧ x21 < (↑(List.length x19) : Int) then
    if (0 : Int) ≤ x21 ∧ x21 < (↑(List.length x17) : Int) then
      if
          V.wadd_g x24 x25 (V.times_r0 (List.getD x19 (Int.toNat x21) (0 : Int)) (List.getD x17 (Int.toNat x21) (0 : Int)))
              (V.times_r1 (List.getD x19 (Int.toNat x21) (0 : Int)) (List.getD x17 (Int.toNat x21) (0 : Int))) =
            true then
        kn (IntKind.wrap IntKind.i64 (x21 + (1 : Int)))
          (V.wadd_r0 x24 x25 (V.times_r0 (List.getD x19 (Int.toNat x21) (0 : Int)) (List.getD x17 (Int.toNat x21) (0 : Int)))
            (V.times_r1 (List.getD x19 (Int.toNat x21) (0 : Int)) (List.getD x17 (Int.toNat x21) (0 : Int))))
          (V.wadd_r1 x24 x25 (V.times_r0 (List.getD x19 (Int.toNat x21) (0 : Int)) (List.getD x17 (Int.toNat x21) (0 : Int)))
            (V.times_r1 (List.getD x19 (Int.toNat x21) (0 : Int)) (List.getD x17 (Int.toNat x21) (0 : Int))))
      else none
    else none
  else none
else k1 x24 x25
noncomputable def _root_.Go.Proofs.Ytmcifgaaojgheaa.M.sum_l0 {α : Type} (x17 : List Int) (x19 : List Int) (x20 : Int) (k1 : Int → Int → Option α) : Nat → Int → Int → Int → Option α
  | 0, _, _, _ => none
  | n + 1, x21, x24, x25 => Go.Proofs.Ytmcifgaaojgheaa.M.sum_l0_step x17 x19 x20 (Go.Proofs.Ytmcifgaaojgheaa.M.sum_l0 x17 x19 x20 k1 n) k1 x21 x24 x25
theorem sum_l0_step_eq {α : Type} (x16 : Value) (x17 : List Int) (x18 : Value) (x19 : List Int) (x20 : Int) (x21 : Int) (x22 : Int) (x23 : Int) (x24 : Int) (x25 : Int) (Q : Ex → St → Option α) : (loopStep E (exec E look_shift noLps 400) 58 [false, true, false, true, true] 0 (codeAt E.P 58 [false, true, false, true, true])) (St.mk
  [none, some (SV.ros x16 (K.int IntKind.i64) x17), none, none, some (SV.ptr (nat_lit 0) (nat_lit 0)), some (SV.ptr (nat_lit 1) (nat_lit 0)), none, none,
    some (SV.ros x18 (K.int IntKind.i64) x19), some (SV.int IntKind.i64 x20), some (SV.int IntKind.i64 x21), none, none, none, none, none, none, none, none, none, none, none, none,
    none, none]
  [SObj.cells [SV.int IntKind.u64 x22, SV.int IntKind.u64 x23] (nat_lit 83), SObj.cells [SV.int IntKind.u64 x24, SV.int IntKind.u64 x25] (nat_lit 83)]) Q = Go.Proofs.Ytmcifgaaojgheaa.M.sum_l0_step x17 x19 x20 (fun (x28 : Int) (x29 : Int) (x30 : Int) => Q .normal (St.mk
  [none, some (SV.ros x16 (K.int IntKind.i64) x17), none, none, some (SV.ptr (nat_lit 0) (nat_lit 0)), some (SV.ptr (nat_lit 1) (nat_lit 0)), none, none,
    some (SV.ros x18 (K.int IntKind.i64) x19), some (SV.int IntKind.i64 x20), some (SV.int IntKind.i64 x28), none, none, none, none, none, none, none, none, none, none, none, none,
    none, none]
  [SObj.cells [SV.int IntKind.u64 x22, SV.int IntKind.u64 x23] (nat_lit 83), SObj.cells [SV.int IntKind.u64 x29, SV.int IntKind.u64 x30] (nat_lit 83)])) (fun (x26 : Int) (x27 : Int) => Q (.exit 0) (St.mk
  [none, none, none, none, some (SV.ptr (nat_lit 0) (nat_lit 0)), some (SV.ptr (nat_lit 1) (nat_lit 0)), none, none, none, none, none, none, none, none, none, none, none, none,
    none, none, none, none, none, none, none]
  [SObj.cells [SV.int IntKind.u64 x22, SV.int IntKind.u64 x23] (nat_lit 83), SObj.cells [SV.int IntKind.u64 x26, SV.int IntKind.u64 x27] (nat_lit 83)])) x21 x24 x25 := by kernel_rfl
theorem sum_l0_iter {α : Type} (x16 : Value) (x17 : List Int) (x18 : Value) (x19 : List Int) (x20 : Int) (x22 : Int) (x23 : Int) (Q : Ex → St → Option α) : ∀ (n : Nat) (x21 : Int) (x24 : Int) (x25 : Int), iter (loopStep E (exec E look_shift noLps 400) 58 [false, true, false, true, true] 0 (codeAt E.P 58 [false, true, false, true, true])) n (St.mk
  [none, some (SV.ros x16 (K.int IntKind.i64) x17), none, none, some (SV.ptr (nat_lit 0) (nat_lit 0)), some (SV.ptr (nat_lit 1) (nat_lit 0)), none, none,
    some (SV.ros x18 (K.int IntKind.i64) x19), some (SV.int IntKind.i64 x20), some (SV.int IntKind.i64 x21), none, none, none, none, none, none, none, none, none, none, none, none,
    none, none]
  [SObj.cells [SV.int IntKind.u64 x22, SV.int IntKind.u64 x23] (nat_lit 83), SObj.cells [SV.int IntKind.u64 x24, SV.int IntKind.u64 x25] (nat_lit 83)]) Q = Go.Proofs.Ytmcifgaaojgheaa.M.sum_l0 x17 x19 x20 (fun (x26 : Int) (x27 : Int) => Q (.exit 0) (St.mk
  [none, none, none, none, some (SV.ptr (nat_lit 0) (nat_lit 0)), some (SV.ptr (nat_lit 1) (nat_lit 0)), none, none, none, none, none, none, none, none, none, none, none, none,
    none, none, none, none, none, none, none]
  [SObj.cells [SV.int IntKind.u64 x22, SV.int IntKind.u64 x23] (nat_lit 83), SObj.cells [SV.int IntKind.u64 x26, SV.int IntKind.u64 x27] (nat_lit 83)])) n x21 x24 x25
  | 0, _, _, _ => rfl
  | n + 1, x21, x24, x25 => (sum_l0_step_eq x16 x17 x18 x19 x20 x21 x22 x23 x24 x25 (iterK (loopStep E (exec E look_shift noLps 400) 58 [false, true, false, true, true] 0 (codeAt E.P 58 [false, true, false, true, true])) n Q)).trans (congrArg (fun kn => Go.Proofs.Ytmcifgaaojgheaa.M.sum_l0_step x17 x19 x20 kn (fun (x26 : Int) (x27 : Int) => Q (.exit 0) (St.mk
  [none, none, none, none, some (SV.ptr (nat_lit 0) (nat_lit 0)), some (SV.ptr (nat_lit 1) (nat_lit 0)), none, none, none, none, none, none, none, none, none, none, none, none,
    none, none, none, none, none, none, none]
  [SObj.cells [SV.int IntKind.u64 x22, SV.int IntKind.u64 x23] (nat_lit 83), SObj.cells [SV.int IntKind.u64 x26, SV.int IntKind.u64 x27] (nat_lit 83)])) x21 x24 x25) (funext fun x21 => funext fun x24 => funext fun x25 => sum_l0_iter x16 x17 x18 x19 x20 x22 x23 Q n x21 x24 x25))
noncomputable def sum_l0_go {α : Type} (ds : List D) (Q : Ex → St → Option α) : Option α :=
  dV ds fun x16 ds => dL (K.int IntKind.i64) ds fun x17 ds => dV ds fun x18 ds => dL (K.int IntKind.i64) ds fun x19 ds => dI ds fun x20 ds => dI ds fun x21 ds => dI ds fun x22 ds => dI ds fun x23 ds => dI ds fun x24 ds => dI ds fun x25 ds => dE ds (Go.Proofs.Ytmcifgaaojgheaa.M.sum_l0 x17 x19 x20 (fun (x26 : Int) (x27 : Int) => Q (.exit 0) (St.mk
  [none, none, none, none, some (SV.ptr (nat_lit 0) (nat_lit 0)), some (SV.ptr (nat_lit 1) (nat_lit 0)), none, none, none, none, none, none, none, none, none, none, none, none,
    none, none, none, none, none, none, none]
  [SObj.cells [SV.int IntKind.u64 x22, SV.int IntKind.u64 x23] (nat_lit 83), SObj.cells [SV.int IntKind.u64 x26, SV.int IntKind.u64 x27] (nat_lit 83)])) (100 + x17.length + x19.length) x21 x24 x25)
theorem sum_l0_ok {α : Type} : LoopOk E.P 58 [false, true, false, true, true] 0 (lEnt (α := α) (St.mk
  [none, some (SV.ros undef (K.int IntKind.i64) []), none, none, some (SV.ptr (nat_lit 0) (nat_lit 0)), some (SV.ptr (nat_lit 1) (nat_lit 0)), none, none,
    some (SV.ros undef (K.int IntKind.i64) []), some (SV.int IntKind.i64 (0 : Int)), some (SV.int IntKind.i64 (0 : Int)), none, none, none, none, none, none, none, none, none,
    none, none, none, none, none]
  [SObj.cells [SV.int IntKind.u64 (0 : Int), SV.int IntKind.u64 (0 : Int)] (nat_lit 83), SObj.cells [SV.int IntKind.u64 (0 : Int), SV.int IntKind.u64 (0 : Int)] (nat_lit 83)]) sum_l0_go) :=
  lEnt_ok E (exec_sound E E_ok (look_shift_ok) (noLps_ok _) 400) fun ds Q r h S hS => by
    unfold sum_l0_go at h
    obtain ⟨x16, ds, rfl, h1⟩ := dV_inv h
    obtain ⟨x17, ds, rfl, h2⟩ := dL_inv h1
    obtain ⟨x18, ds, rfl, h3⟩ := dV_inv h2
    obtain ⟨x19, ds, rfl, h4⟩ := dL_inv h3
    obtain ⟨x20, ds, rfl, h5⟩ := dI_inv h4
    obtain ⟨x21, ds, rfl, h6⟩ := dI_inv h5
    obtain ⟨x22, ds, rfl, h7⟩ := dI_inv h6
    obtain ⟨x23, ds, rfl, h8⟩ := dI_inv h7
    obtain ⟨x24, ds, rfl, h9⟩ := dI_inv h8
    obtain ⟨x25, ds, rfl, h10⟩ := dI_inv h9
    obtain ⟨rfl, hE⟩ := dE_inv h10
    have e : fillS (St.mk
  [none, some (SV.ros undef (K.int IntKind.i64) []), none, none, some (SV.ptr (nat_lit 0) (nat_lit 0)), some (SV.ptr (nat_lit 1) (nat_lit 0)), none, none,
    some (SV.ros undef (K.int IntKind.i64) []), some (SV.int IntKind.i64 (0 : Int)), some (SV.int IntKind.i64 (0 : Int)), none, none, none, none, none, none, none, none, none,
    none, none, none, none, none]
  [SObj.cells [SV.int IntKind.u64 (0 : Int), SV.int IntKind.u64 (0 : Int)] (nat_lit 83), SObj.cells [SV.int IntKind.u64 (0 : Int), SV.int IntKind.u64 (0 : Int)] (nat_lit 83)]) [.v x16, .l (K.int IntKind.i64) x17, .v x18, .l (K.int IntKind.i64) x19, .i x20, .i x21, .i x22, .i x23, .i x24, .i x25] = some (St.mk
  [none, some (SV.ros x16 (K.int IntKind.i64) x17), none, none, some (SV.ptr (nat_lit 0) (nat_lit 0)), some (SV.ptr (nat_lit 1) (nat_lit 0)), none, none,
    some (SV.ros x18 (K.int IntKind.i64) x19), some (SV.int IntKind.i64 x20), some (SV.int IntKind.i64 x21), none, none, none, none, none, none, none, none, none, none, none, none,
    none, none]
  [SObj.cells [SV.int IntKind.u64 x22, SV.int IntKind.u64 x23] (nat_lit 83), SObj.cells [SV.int IntKind.u64 x24, SV.int IntKind.u64 x25] (nat_lit 83)]) := by kernel_rfl
    rw [e] at hS
    cases hS
    exact ⟨_, (sum_l0_iter x16 x17 x18 x19 x20 x22 x23 Q _ x21 x24 x25).trans hE⟩
noncomputable def sum_l0_lps {α : Type} : LookL α := addLp 58 [false, true, false, true, true] 0 (lEnt (St.mk
  [none, some (SV.ros undef (K.int IntKind.i64) []), none, none, some (SV.ptr (nat_lit 0) (nat_lit 0)), some (SV.ptr (nat_lit 1) (nat_lit 0)), none, none,
    some (SV.ros undef (K.int IntKind.i64) []), some (SV.int IntKind.i64 (0 : Int)), some (SV.int IntKind.i64 (0 : Int)), none, none, none, none, none, none, none, none, none,
    none, none, none, none, none]
  [SObj.cells [SV.int IntKind.u64 (0 : Int), SV.int IntKind.u64 (0 : Int)] (nat_lit 83), SObj.cells [SV.int IntKind.u64 (0 : Int), SV.int IntKind.u64 (0 : Int)] (nat_lit 83)]) sum_l0_go) noLps
theorem sum_l0_lps_ok {α : Type} : LoopsOk E.P (sum_l0_lps (α := α)) := addLp_ok sum_l0_ok (noLps_ok _)

noncomputable def _root_.Go.Proofs.Ytmcifgaaojgheaa.M.sum {α : Type} (a : List Int) (b : List Int) (k0 : Int → Int → Option α) : Option α :=
  M.sum_l0 b a (↑(List.length a) : Int) (fun (x33 x34 : Int) ↦ k0 x33 x34) ((100 : Nat) + List.length b + List.length a) (0 : Int) (0 : Int) (0 : Int)
theorem sum_eq {α : Type} (a : List Int) (b : List Int) (v31 : Value) (v32 : Value) (Q : SV → Hp → Option α) : callI E look_shift (exec E look_shift sum_l0_lps 400) 58 ([SV.ros v31 (K.int IntKind.i64) a, SV.ros v32 (K.int IntKind.i64) b]) ([]) Q = Go.Proofs.Ytmcifgaaojgheaa.M.sum a b (fun (x35 : Int) (x36 : Int) => Q (SV.agg [SV.int IntKind.u64 x35, SV.int IntKind.u64 x36]) ([])) := by kernel_rfl
def sum_sp : List AS := [.ro (.int .i64), .ro (.int .i64)]
theorem anyG_get {l : List Int} (h : V.anyG l = false) (i : Nat) : R64 (l.getD i 0) := by
  unfold V.anyG at h
  by_cases hi : i < l.length
  · have := List.any_eq_false.1 h (l[i]) (List.getElem_mem hi)
    rw [Bool.not_eq_true, isG_false] at this
    have e : l.getD i 0 = l[i] := by simp [List.getD_eq_getElem?_getD, hi]
    rw [e]; unfold R64; omega
  · have e : l.getD i 0 = 0 := by simp [List.getD_eq_getElem?_getD, hi]
    rw [e]; unfold R64; omega
theorem dotZ_drop (a b : List Int) (i : Nat) (h1 : i < a.length) (h2 : i < b.length) : V.dotZ (a.drop i) (b.drop i) = a.getD i 0 * b.getD i 0 + V.dotZ (a.drop (i + 1)) (b.drop (i + 1)) := by
  unfold V.dotZ
  rw [List.drop_eq_getElem_cons h1, List.drop_eq_getElem_cons h2, List.zipWith_cons_cons, List.sum_cons]
  simp [List.getD_eq_getElem?_getD, h1, h2]
theorem sum_l0_val {α : Type} (a b : List Int) (hl : a.length < 9223372036854775808) (hab : a.length = b.length) (ha : V.anyG a = false) (hb : V.anyG b = false) (k1 : Int → Int → Option α) : ∀ (fuel i : Nat) (S : Int), i ≤ a.length → a.length - i < fuel →
    M.sum_l0 b a (a.length : Int) k1 fuel (i : Int) (hiW S) (loW S) = k1 (hiW (S + V.dotZ (a.drop i) (b.drop i))) (loW (S + V.dotZ (a.drop i) (b.drop i)))
  | 0, i, S, h1, h2 => by omega
  | n + 1, i, S, h1, h2 => by
    unfold M.sum_l0 M.sum_l0_step
    by_cases hi : i < a.length
    · have ih := sum_l0_val a b hl hab ha hb k1 n (i + 1) (S + a.getD i 0 * b.getD i 0) (by omega) (by omega)
      rw [IntWalk.i64_in _ (by omega : -9223372036854775808 ≤ (i : Int) + 1 ∧ (i : Int) + 1 ≤ 9223372036854775807)]
      push_cast at ih
      obtain ⟨t0, t1⟩ := times_eq' (anyG_get ha i) (anyG_get hb i)
      simp only [cLt_eq, getD_toNat, t0, t1]
      obtain ⟨w0, w1, w2⟩ := wadd_eq' S (a.getD i 0 * b.getD i 0)
      have : (i : Int) < (a.length : Int) := by omega
      have h2 : (i : Int) < (b.length : Int) := by omega
      simp only [this, h2, decide_true, if_true, Int.natCast_nonneg, and_self, w0, w1, w2]
      rw [ih, dotZ_drop a b i hi (by omega), Int.add_assoc]
    · have : i = a.length := by omega
      subst this
      simp [cLt_eq, V.dotZ]
theorem sum_v {α : Type} (a b : List Int) (hl : a.length < 9223372036854775808) (hab : a.length = b.length) (ha : V.anyG a = false) (hb : V.anyG b = false) (k0 : Int → Int → Option α) : M.sum a b k0 = k0 (hiW (V.dotZ a b)) (loW (V.dotZ a b)) := by
  unfold M.sum
  have := sum_l0_val a b hl hab ha hb (fun x y => k0 x y) (100 + b.length + a.length) 0 0 (by omega) (by omega)
  simp only [List.drop_zero, Int.zero_add, Int.natCast_zero] at this
  exact this
noncomputable def sum_h {α : Type} (ds : List D) (Q : SV → Hp → Option α) : Option α :=
  dL (K.int IntKind.i64) ds fun a ds => dL (K.int IntKind.i64) ds fun b ds => dE ds (if (a.length < 9223372036854775808 ∧ a.length = b.length) ∧ V.anyG a = false ∧ V.anyG b = false then Q (.agg [.int .u64 (hiW (V.dotZ a b)), .int .u64 (loW (V.dotZ a b))]) ([]) else none)
theorem sum_h_ok {α : Type} : FnOk E.P 58 (fEnt (α := α) sum_sp sum_h) :=
  fEntR_ok E (look_shift_ok) (exec_sound E E_ok (look_shift_ok) (sum_l0_lps_ok) 400) fun ds Q r h => by
    unfold sum_h at h
    obtain ⟨a, ds, rfl, h1⟩ := dL_inv h
    obtain ⟨b, ds, rfl, h2⟩ := dL_inv h1
    obtain ⟨rfl, hE⟩ := dE_inv h2
    split at hE
    · rename_i hg
      exact ⟨_, _, hE, fun vs => ⟨_, _, by kernel_rfl, (sum_eq a b (vs.headD undef) (vs.tail.headD undef) _).trans (sum_v a b hg.1.1 hg.1.2 hg.2.1 hg.2.2 _)⟩⟩
    · cases hE
noncomputable def look_sum {α : Type} : LookF α := addFn 58 (fEnt sum_sp sum_h) look_shift
theorem look_sum_ok {α : Type} : LookOk E.P (look_sum (α := α)) := addFn_ok sum_h_ok (look_shift_ok)
noncomputable def _root_.Go.Proofs.Ytmcifgaaojgheaa.M.root_l0_step {α : Type} (x45 : Int) (x46 : Int) (kn : Int → Int → Option α) (k1 : Int → Option α) (x42 : Int) (x43 : Int) : Option α :=
  if cLt (0 : Int) x43 = true then
  if cLt (V.mul64_r0 (borI IntKind.u64 x42 x43) (borI IntKind.u64 x42 x43)) x45 = true then kn (borI IntKind.u64 x42 x43) (Int.fdiv x43 (2 : Int))
  else
    if cEq (V.mul64_r0 (borI IntKind.u64 x42 x43) (borI IntKind.u64 x42 x43)) x45 = true then
      if cLe (V.mul64_r1 (borI IntKind.u64 x42 x43) (borI IntKind.u64 x42 x43)) x46 = true then kn (borI IntKind.u64 x42 x43) (Int.fdiv x43 (2 : Int))
      else kn x42 (Int.fdiv x43 (2 : Int))
    else kn x42 (Int.fdiv x43 (2 : Int))
else k1 x42
noncomputable def _root_.Go.Proofs.Ytmcifgaaojgheaa.M.root_l0 {α : Type} (x45 : Int) (x46 : Int) (k1 : Int → Option α) : Nat → Int → Int → Option α
  | 0, _, _ => none
  | n + 1, x42, x43 => Go.Proofs.Ytmcifgaaojgheaa.M.root_l0_step x45 x46 (Go.Proofs.Ytmcifgaaojgheaa.M.root_l0 x45 x46 k1 n) k1 x42 x43
theorem root_l0_step_eq {α : Type} (x42 : Int) (x43 : Int) (x44 : Bool) (x45 : Int) (x46 : Int) (Q : Ex → St → Option α) : (loopStep E (exec E look_sum noLps 400) 57 [false, true, false, true, true] 1 (codeAt E.P 57 [false, true, false, true, true])) (St.mk
  [some (SV.ptr (nat_lit 0) (nat_lit 0)), none, none, some (SV.ptr (nat_lit 1) (nat_lit 0)), none, some (SV.int IntKind.u64 x42), some (SV.int IntKind.u64 x43), none, none, none,
    none, none, none, none, none, none, none, none, none, none, none, none, none, none, none, none, none, none, none, none, none, none, none, none, none, none, none, none, none,
    none, none, none, none, none, none, none]
  [SObj.cells [SV.bool x44] (nat_lit 27), SObj.cells [SV.int IntKind.u64 x45, SV.int IntKind.u64 x46] (nat_lit 83)]) Q = Go.Proofs.Ytmcifgaaojgheaa.M.root_l0_step x45 x46 (fun (x48 : Int) (x49 : Int) => Q .normal (St.mk
  [some (SV.ptr (nat_lit 0) (nat_lit 0)), none, none, some (SV.ptr (nat_lit 1) (nat_lit 0)), none, some (SV.int IntKind.u64 x48), some (SV.int IntKind.u64 x49), none, none, none,
    none, none, none, none, none, none, none, none, none, none, none, none, none, none, none, none, none, none, none, none, none, none, none, none, none, none, none, none, none,
    none, none, none, none, none, none, none]
  [SObj.cells [SV.bool x44] (nat_lit 27), SObj.cells [SV.int IntKind.u64 x45, SV.int IntKind.u64 x46] (nat_lit 83)])) (fun (x47 : Int) => Q (.exit 0) (St.mk
  [some (SV.ptr (nat_lit 0) (nat_lit 0)), none, none, none, none, some (SV.int IntKind.u64 x47), none, none, none, none, none, none, none, none, none, none, none, none, none, none,
    none, none, none, none, none, none, none, none, none, none, none, none, none, none, none, none, none, none, none, none, none, none, none, none, none, none]
  [SObj.cells [SV.bool x44] (nat_lit 27)])) x42 x43 := by kernel_rfl
theorem root_l0_iter {α : Type} (x44 : Bool) (x45 : Int) (x46 : Int) (Q : Ex → St → Option α) : ∀ (n : Nat) (x42 : Int) (x43 : Int), iter (loopStep E (exec E look_sum noLps 400) 57 [false, true, false, true, true] 1 (codeAt E.P 57 [false, true, false, true, true])) n (St.mk
  [some (SV.ptr (nat_lit 0) (nat_lit 0)), none, none, some (SV.ptr (nat_lit 1) (nat_lit 0)), none, some (SV.int IntKind.u64 x42), some (SV.int IntKind.u64 x43), none, none, none,
    none, none, none, none, none, none, none, none, none, none, none, none, none, none, none, none, none, none, none, none, none, none, none, none, none, none, none, none, none,
    none, none, none, none, none, none, none]
  [SObj.cells [SV.bool x44] (nat_lit 27), SObj.cells [SV.int IntKind.u64 x45, SV.int IntKind.u64 x46] (nat_lit 83)]) Q = Go.Proofs.Ytmcifgaaojgheaa.M.root_l0 x45 x46 (fun (x47 : Int) => Q (.exit 0) (St.mk
  [some (SV.ptr (nat_lit 0) (nat_lit 0)), none, none, none, none, some (SV.int IntKind.u64 x47), none, none, none, none, none, none, none, none, none, none, none, none, none, none,
    none, none, none, none, none, none, none, none, none, none, none, none, none, none, none, none, none, none, none, none, none, none, none, none, none, none]
  [SObj.cells [SV.bool x44] (nat_lit 27)])) n x42 x43
  | 0, _, _ => rfl
  | n + 1, x42, x43 => (root_l0_step_eq x42 x43 x44 x45 x46 (iterK (loopStep E (exec E look_sum noLps 400) 57 [false, true, false, true, true] 1 (codeAt E.P 57 [false, true, false, true, true])) n Q)).trans (congrArg (fun kn => Go.Proofs.Ytmcifgaaojgheaa.M.root_l0_step x45 x46 kn (fun (x47 : Int) => Q (.exit 0) (St.mk
  [some (SV.ptr (nat_lit 0) (nat_lit 0)), none, none, none, none, some (SV.int IntKind.u64 x47), none, none, none, none, none, none, none, none, none, none, none, none, none, none,
    none, none, none, none, none, none, none, none, none, none, none, none, none, none, none, none, none, none, none, none, none, none, none, none, none, none]
  [SObj.cells [SV.bool x44] (nat_lit 27)])) x42 x43) (funext fun x42 => funext fun x43 => root_l0_iter x44 x45 x46 Q n x42 x43))
noncomputable def root_l0_go {α : Type} (ds : List D) (Q : Ex → St → Option α) : Option α :=
  dI ds fun x42 ds => dI ds fun x43 ds => dB ds fun x44 ds => dI ds fun x45 ds => dI ds fun x46 ds => dE ds (Go.Proofs.Ytmcifgaaojgheaa.M.root_l0 x45 x46 (fun (x47 : Int) => Q (.exit 0) (St.mk
  [some (SV.ptr (nat_lit 0) (nat_lit 0)), none, none, none, none, some (SV.int IntKind.u64 x47), none, none, none, none, none, none, none, none, none, none, none, none, none, none,
    none, none, none, none, none, none, none, none, none, none, none, none, none, none, none, none, none, none, none, none, none, none, none, none, none, none]
  [SObj.cells [SV.bool x44] (nat_lit 27)])) (100) x42 x43)
theorem root_l0_ok {α : Type} : LoopOk E.P 57 [false, true, false, true, true] 1 (lEnt (α := α) (St.mk
  [some (SV.ptr (nat_lit 0) (nat_lit 0)), none, none, some (SV.ptr (nat_lit 1) (nat_lit 0)), none, some (SV.int IntKind.u64 (0 : Int)), some (SV.int IntKind.u64 (0 : Int)), none,
    none, none, none, none, none, none, none, none, none, none, none, none, none, none, none, none, none, none, none, none, none, none, none, none, none, none, none, none, none,
    none, none, none, none, none, none, none, none, none]
  [SObj.cells [SV.bool false] (nat_lit 27), SObj.cells [SV.int IntKind.u64 (0 : Int), SV.int IntKind.u64 (0 : Int)] (nat_lit 83)]) root_l0_go) :=
  lEnt_ok E (exec_sound E E_ok (look_sum_ok) (noLps_ok _) 400) fun ds Q r h S hS => by
    unfold root_l0_go at h
    obtain ⟨x42, ds, rfl, h1⟩ := dI_inv h
    obtain ⟨x43, ds, rfl, h2⟩ := dI_inv h1
    obtain ⟨x44, ds, rfl, h3⟩ := dB_inv h2
    obtain ⟨x45, ds, rfl, h4⟩ := dI_inv h3
    obtain ⟨x46, ds, rfl, h5⟩ := dI_inv h4
    obtain ⟨rfl, hE⟩ := dE_inv h5
    have e : fillS (St.mk
  [some (SV.ptr (nat_lit 0) (nat_lit 0)), none, none, some (SV.ptr (nat_lit 1) (nat_lit 0)), none, some (SV.int IntKind.u64 (0 : Int)), some (SV.int IntKind.u64 (0 : Int)), none,
    none, none, none, none, none, none, none, none, none, none, none, none, none, none, none, none, none, none, none, none, none, none, none, none, none, none, none, none, none,
    none, none, none, none, none, none, none, none, none]
  [SObj.cells [SV.bool false] (nat_lit 27), SObj.cells [SV.int IntKind.u64 (0 : Int), SV.int IntKind.u64 (0 : Int)] (nat_lit 83)]) [.i x42, .i x43, .b x44, .i x45, .i x46] = some (St.mk
  [some (SV.ptr (nat_lit 0) (nat_lit 0)), none, none, some (SV.ptr (nat_lit 1) (nat_lit 0)), none, some (SV.int IntKind.u64 x42), some (SV.int IntKind.u64 x43), none, none, none,
    none, none, none, none, none, none, none, none, none, none, none, none, none, none, none, none, none, none, none, none, none, none, none, none, none, none, none, none, none,
    none, none, none, none, none, none, none]
  [SObj.cells [SV.bool x44] (nat_lit 27), SObj.cells [SV.int IntKind.u64 x45, SV.int IntKind.u64 x46] (nat_lit 83)]) := by kernel_rfl
    rw [e] at hS
    cases hS
    exact ⟨_, (root_l0_iter x44 x45 x46 Q _ x42 x43).trans hE⟩
noncomputable def root_l0_lps {α : Type} : LookL α := addLp 57 [false, true, false, true, true] 1 (lEnt (St.mk
  [some (SV.ptr (nat_lit 0) (nat_lit 0)), none, none, some (SV.ptr (nat_lit 1) (nat_lit 0)), none, some (SV.int IntKind.u64 (0 : Int)), some (SV.int IntKind.u64 (0 : Int)), none,
    none, none, none, none, none, none, none, none, none, none, none, none, none, none, none, none, none, none, none, none, none, none, none, none, none, none, none, none, none,
    none, none, none, none, none, none, none, none, none]
  [SObj.cells [SV.bool false] (nat_lit 27), SObj.cells [SV.int IntKind.u64 (0 : Int), SV.int IntKind.u64 (0 : Int)] (nat_lit 83)]) root_l0_go) noLps
theorem root_l0_lps_ok {α : Type} : LoopsOk E.P (root_l0_lps (α := α)) := addLp_ok root_l0_ok (noLps_ok _)

noncomputable def _root_.Go.Proofs.Ytmcifgaaojgheaa.M.root {α : Type} (bad : Bool) (hi : Int) (lo : Int) (k0 : Int → Bool → Option α) : Option α :=
  M.root_l0 hi lo (fun (x50 : Int) ↦ if cLt (4611686018427387903 : Int) x50 = true then k0 (0 : Int) true else k0 (IntKind.wrap IntKind.i64 x50) bad) (100 : Nat) (0 : Int)
  (9223372036854775808 : Int)
theorem root_eq {α : Type} (bad : Bool) (hi : Int) (lo : Int) (Q : SV → Hp → Option α) : callI E look_sum (exec E look_sum root_l0_lps 400) 57 ([SV.ptr (nat_lit 0) (nat_lit 0), SV.agg [SV.int IntKind.u64 hi, SV.int IntKind.u64 lo]]) ([SObj.cells [SV.bool bad] (nat_lit 27)]) Q = Go.Proofs.Ytmcifgaaojgheaa.M.root bad hi lo (fun (x51 : Int) (x52 : Bool) => Q (SV.int IntKind.i64 x51) ([SObj.cells [SV.bool x52] (nat_lit 27)])) := by kernel_rfl
def root_sp : List AS := [.ptr 27 [.bool false], .val (.agg [.int .u64 0, .int .u64 0])]
noncomputable def root_go {α : Type} (ds : List D) (Q : SV → Hp → Option α) : Option α :=
  dB ds fun bad ds => dI ds fun hi ds => dI ds fun lo ds => dE ds (Go.Proofs.Ytmcifgaaojgheaa.M.root bad hi lo (fun (x51 : Int) (x52 : Bool) => Q (SV.int IntKind.i64 x51) ([SObj.cells [SV.bool x52] (nat_lit 27)])))
theorem root_ok {α : Type} : FnOk E.P 57 (fEnt (α := α) root_sp root_go) :=
  fEnt_ok E (look_sum_ok) (exec_sound E E_ok (look_sum_ok) (root_l0_lps_ok) 400) fun ds Q r h => by
    unfold root_go at h
    obtain ⟨bad, ds, rfl, h1⟩ := dB_inv h
    obtain ⟨hi, ds, rfl, h2⟩ := dI_inv h1
    obtain ⟨lo, ds, rfl, h3⟩ := dI_inv h2
    obtain ⟨rfl, hE⟩ := dE_inv h3
    exact ⟨[SV.ptr (nat_lit 0) (nat_lit 0), SV.agg [SV.int IntKind.u64 hi, SV.int IntKind.u64 lo]], [SObj.cells [SV.bool bad] (nat_lit 27)], fun vs => by kernel_rfl, (root_eq bad hi lo Q).trans hE⟩
theorem root_l0_val {α : Type} (X : Int) (hX0 : 0 ≤ X) (hX : X < 340282366920938463463374607431768211456) (k1 : Int → Option α) : ∀ (k fuel : Nat) (m r : Int), k ≤ 63 → k + 2 ≤ fuel → 0 ≤ m → r = m * 2 ^ (k + 1) → r + 2 ^ (k + 1) ≤ 18446744073709551616 →
    r * r ≤ X → X < (r + 2 ^ (k + 1)) * (r + 2 ^ (k + 1)) → M.root_l0 (hiW X) (loW X) k1 fuel r (2 ^ k) = k1 (V.isq X) := by
  have step : ∀ (k fuel : Nat) (m r : Int), k ≤ 63 → 0 ≤ m → r = m * 2 ^ (k + 1) → r + 2 ^ (k + 1) ≤ 18446744073709551616 →
      M.root_l0 (hiW X) (loW X) k1 (fuel + 1) r (2 ^ k) = if (r + 2 ^ k) * (r + 2 ^ k) ≤ X then M.root_l0 (hiW X) (loW X) k1 fuel (r + 2 ^ k) (Int.fdiv (2 ^ k) 2) else M.root_l0 (hiW X) (loW X) k1 fuel r (Int.fdiv (2 ^ k) 2) := by
    intro k fuel m r hk hm hr hr2
    have hp : (0 : Int) < 2 ^ k := Int.pow_pos (by decide)
    have hp1 : (2 : Int) ^ (k + 1) = 2 * 2 ^ k := by rw [Int.pow_succ]; omega
    have hr0 : 0 ≤ r := by rw [hr]; exact Int.mul_nonneg hm (by omega)
    have hor : borI .u64 r (2 ^ k) = r + 2 ^ k := by
      rw [hr]
      exact bor_add hm (by rw [← hr]; omega) (by omega) (by omega) (by rw [← hr]; omega)
    conv => lhs; unfold M.root_l0 M.root_l0_step
    obtain ⟨e0, e1⟩ := mul64_eq' (x := r + 2 ^ k) (y := r + 2 ^ k) (by omega) (by omega) (by omega) (by omega)
    simp only [hor, e0, e1, cLt_eq, cEq_eq, cLe_eq, hp, decide_true, if_true, decide_eq_true_eq, beq_iff_eq]
    generalize (r + 2 ^ k) * (r + 2 ^ k) = p
    unfold hiW loW
    by_cases h : p ≤ X
    · simp only [h, if_true]
      by_cases c1 : p / 18446744073709551616 < X / 18446744073709551616 % 18446744073709551616
      · simp only [c1, if_true]
      · have c2 : p / 18446744073709551616 = X / 18446744073709551616 % 18446744073709551616 := by omega
        have c3 : p % 18446744073709551616 ≤ X % 18446744073709551616 := by omega
        simp only [c2, c3, Int.lt_irrefl, if_true, if_false]
    · simp only [h, if_false]
      have c1 : ¬ p / 18446744073709551616 < X / 18446744073709551616 % 18446744073709551616 := by omega
      by_cases c2 : p / 18446744073709551616 = X / 18446744073709551616 % 18446744073709551616
      · have c3 : ¬ p % 18446744073709551616 ≤ X % 18446744073709551616 := by omega
        simp only [c1, c2, c3, Int.lt_irrefl, if_true, if_false]
      · simp only [c1, c2, if_false]
  intro k
  induction k with
  | zero =>
    intro fuel m r hk hf hm hr hr2 h1 h2
    obtain ⟨f, rfl⟩ : ∃ f, fuel = f + 2 := ⟨fuel - 2, by omega⟩
    rw [step 0 (f + 1) m r hk hm hr hr2]
    have e0 : Int.fdiv (2 ^ 0) 2 = 0 := by decide
    rw [e0]
    have fin : ∀ r : Int, M.root_l0 (hiW X) (loW X) k1 (f + 1) r 0 = k1 r := by
      intro r
      conv => lhs; unfold M.root_l0 M.root_l0_step
      simp [cLt_eq]
    have hr0 : 0 ≤ r := by rw [hr]; exact Int.mul_nonneg hm (Int.le_of_lt (Int.pow_pos (by decide)))
    simp only [Nat.zero_add, Int.pow_succ, Int.pow_zero, Int.one_mul] at h2 hr2
    split
    · rename_i h
      simp only [Int.pow_zero] at h ⊢
      rw [fin, isq_eq ⟨by omega, h, by rw [Int.add_assoc]; exact h2⟩]
    · rename_i h
      simp only [Int.pow_zero] at h
      rw [fin, isq_eq ⟨hr0, h1, by omega⟩]
  | succ k ih =>
    intro fuel m r hk hf hm hr hr2 h1 h2
    obtain ⟨f, rfl⟩ : ∃ f, fuel = f + 1 := ⟨fuel - 1, by omega⟩
    rw [step (k + 1) f m r hk hm hr hr2]
    have hp : (0 : Int) < 2 ^ k := Int.pow_pos (by decide)
    have hp1 : (2 : Int) ^ (k + 1) = 2 * 2 ^ k := by rw [Int.pow_succ]; omega
    have hp2 : (2 : Int) ^ (k + 1 + 1) = 4 * 2 ^ k := by rw [Int.pow_succ, hp1]; omega
    have e0 : Int.fdiv (2 ^ (k + 1)) 2 = 2 ^ k := by rw [fdiv_pos _ _ (by decide), hp1]; omega
    rw [e0]
    rw [hp2] at hr hr2 h2
    split
    · rename_i h
      have := ih f (2 * m + 1) (r + 2 ^ (k + 1)) (by omega) (by omega) (by omega) (by rw [hr, hp1]; grind) (by rw [hp1]; omega) h (by
        rw [hp1]
        have : r + 2 * 2 ^ k + 2 * 2 ^ k = r + 4 * 2 ^ k := by omega
        rw [this]; exact h2)
      exact this
    · rename_i h
      exact ih f (2 * m) r (by omega) (by omega) (by omega) (by rw [hr, hp1]; grind) (by rw [hp1]; omega) h1 (by omega)
theorem root_v {α : Type} (bad : Bool) (X : Int) (hX0 : 0 ≤ X) (hX : X < 340282366920938463463374607431768211456) (k0 : Int → Bool → Option α) : M.root bad (hiW X) (loW X) k0 = k0 (V.gv (V.mRt X)) (V.gn (V.mRt X) bad) := by
  unfold M.root
  have p63 : (9223372036854775808 : Int) = 2 ^ 63 := by kernel_rfl
  have p64 : (2 : Int) ^ (63 + 1) = 18446744073709551616 := by kernel_rfl
  rw [p63, root_l0_val X hX0 hX _ 63 100 0 0 (by omega) (by omega) (by omega) (by omega) (by rw [p64]; omega) (by omega) (by rw [p64]; omega)]
  unfold V.mRt V.gv V.gn
  rw [cLt_eq]
  by_cases h : 4611686018427387903 < V.isq X
  · simp [h]
  · have h0 : 0 ≤ V.isq X := by
      unfold V.isq
      split
      · rename_i he; exact (Classical.choose_spec he).1
      · omega
    rw [IntWalk.i64_in _ (by omega)]
    simp [h]
theorem root_h' {α : Type} (bad : Bool) (hi lo : Int) (hg : (0 ≤ hi ∧ hi < 18446744073709551616) ∧ 0 ≤ lo ∧ lo < 18446744073709551616) (k0 : Int → Bool → Option α) : M.root bad hi lo k0 = k0 (V.gv (V.mRt (hi * 18446744073709551616 + lo))) (V.gn (V.mRt (hi * 18446744073709551616 + lo)) bad) := by
  have := root_v bad (hi * 18446744073709551616 + lo) (by omega) (by omega) k0
  rwa [show hiW (hi * 18446744073709551616 + lo) = hi by unfold hiW; omega, show loW (hi * 18446744073709551616 + lo) = lo by unfold loW; omega] at this
noncomputable def root_h {α : Type} (ds : List D) (Q : SV → Hp → Option α) : Option α :=
  dB ds fun bad ds => dI ds fun hi ds => dI ds fun lo ds => dE ds (if (0 ≤ hi ∧ hi < 18446744073709551616) ∧ 0 ≤ lo ∧ lo < 18446744073709551616 then Q (.int .i64 (V.gv (V.mRt (hi * 18446744073709551616 + lo)))) ([.cells [.bool (V.gn (V.mRt (hi * 18446744073709551616 + lo)) bad)] 27]) else none)
theorem root_h_ok {α : Type} : FnOk E.P 57 (fEnt (α := α) root_sp root_h) :=
  fEnt_ok E (look_sum_ok) (exec_sound E E_ok (look_sum_ok) (root_l0_lps_ok) 400) fun ds Q r h => by
    unfold root_h at h
    obtain ⟨bad, ds, rfl, h1⟩ := dB_inv h
    obtain ⟨hi, ds, rfl, h2⟩ := dI_inv h1
    obtain ⟨lo, ds, rfl, h3⟩ := dI_inv h2
    obtain ⟨rfl, hE⟩ := dE_inv h3
    split at hE
    · rename_i hg
      exact ⟨[SV.ptr (nat_lit 0) (nat_lit 0), SV.agg [SV.int IntKind.u64 hi, SV.int IntKind.u64 lo]], [SObj.cells [SV.bool bad] (nat_lit 27)], fun vs => by kernel_rfl, (root_eq bad hi lo Q).trans ((root_h' bad hi lo hg _).trans hE)⟩
    · cases hE
noncomputable def look_root {α : Type} : LookF α := addFn 57 (fEnt root_sp root_h) look_sum
theorem look_root_ok {α : Type} : LookOk E.P (look_root (α := α)) := addFn_ok root_h_ok (look_sum_ok)
end Go.Proofs.Ytmcifgaaojgheaa.Sx
