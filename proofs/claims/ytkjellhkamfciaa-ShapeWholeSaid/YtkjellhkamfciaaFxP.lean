/- fx: what its numbers are, plainly. -/
import Derived.Test.YtkjellhkamfciaaFxG
namespace Go.Proofs.Ytkjellhkamfciaa.Sx
open Go
set_option linter.unusedVariables false
set_option linter.unusedSimpArgs false
def Gd (n : Int) : Prop := -4611686018427387903 ≤ n ∧ n ≤ 4611686018427387903
instance (n : Int) : Decidable (Gd n) := inferInstanceAs (Decidable (_ ∧ _))
theorem gd_iff (n : Int) : isG n = false ↔ Gd n := isG_false n
theorem tl_some {n m : Int} : V.tl n = some m ↔ m = n ∧ Gd m := by
  unfold V.tl
  cases h : isG n with
  | true =>
    have : ¬ Gd n := by rw [← gd_iff, h]; simp
    simp; rintro rfl; exact this
  | false =>
    have : Gd n := (gd_iff n).1 h
    simp
    constructor
    · rintro rfl; exact ⟨rfl, this⟩
    · rintro ⟨rfl, _⟩; rfl
theorem guard_some {c : Bool} {o : Option Int} {m : Int} : (if c = true then none else o) = some m ↔ c = false ∧ o = some m := by cases c <;> simp
theorem mAdd_some {a b m : Int} : V.mAdd a b = some m ↔ Gd a ∧ Gd b ∧ Gd m ∧ m = a + b := by
  unfold V.mAdd; rw [guard_some, tl_some, Bool.or_eq_false_iff, gd_iff, gd_iff]; grind
theorem mSub_some {a b m : Int} : V.mSub a b = some m ↔ Gd a ∧ Gd b ∧ Gd m ∧ m = a - b := by
  unfold V.mSub; rw [guard_some, tl_some, Bool.or_eq_false_iff, gd_iff, gd_iff]; grind
theorem mMul_some {a b m : Int} : V.mMul a b = some m ↔ Gd a ∧ Gd b ∧ Gd m ∧ m = a * b / 4294967296 := by
  unfold V.mMul; rw [guard_some, tl_some, Bool.or_eq_false_iff, gd_iff, gd_iff]; grind
theorem mMulR (a b : Int) : V.mMul a b = if isG a || isG b then none else V.tl (a * b / 4294967296) := rfl
theorem qFtl {a c : Int} (ha : -4611686018427387903 ≤ a ∧ a ≤ 4611686018427387903) (hc : 0 < c) : V.qF (a * 4294967296) c = V.tl (a * 4294967296 / c) := by
  unfold V.qF
  have h1 : a * 4294967296 / c * c + a * 4294967296 % c = a * 4294967296 := Int.ediv_mul_add_emod _ c
  have h2 : 0 ≤ a * 4294967296 % c := Int.emod_nonneg _ (by omega)
  have h3 : a * 4294967296 % c < c := Int.emod_lt_of_pos _ hc
  have : (a * 4294967296 / c == -18446744073709551616 && a * 4294967296 % c != 0) = false := by
    by_cases h : a * 4294967296 / c = -18446744073709551616
    · rw [h] at h1
      have : a * 4294967296 % c = 0 := by omega
      simp [this]
    · have : (a * 4294967296 / c == -18446744073709551616) = false := by simpa using h
      simp [this]
  rw [this]
  simp
theorem mDivF (a b : Int) : V.mDiv a b = if b == 0 || isG a || isG b then none else V.tl (Int.fdiv (a * 4294967296) b) := by
  unfold V.mDiv V.mRatio
  have e : isG 4294967296 = false := by decide
  rw [e, Bool.or_false]
  cases hG : (b == 0 || isG a || isG b) with
  | true => simp
  | false =>
    simp only [Bool.false_eq_true, if_false]
    simp only [Bool.or_eq_false_iff] at hG
    have ha := (isG_false a).1 hG.1.2
    have h0 : ¬ b = 0 := by simpa using hG.1.1
    by_cases hb : b < 0
    · simp only [hb, if_true]
      rw [← Int.neg_mul, qFtl (by omega) (by omega), ← Int.neg_fdiv_neg, fdiv_pos _ _ (by omega), Int.neg_mul]
    · simp only [hb, if_false]
      rw [qFtl ha (by omega), fdiv_pos _ _ (by omega)]
theorem mDiv_some {a b m : Int} : V.mDiv a b = some m ↔ b ≠ 0 ∧ Gd a ∧ Gd b ∧ Gd m ∧ m = Int.fdiv (a * 4294967296) b := by
  rw [mDivF, guard_some, tl_some, Bool.or_eq_false_iff, Bool.or_eq_false_iff, gd_iff, gd_iff]
  have : (b == 0) = false ↔ b ≠ 0 := by simp
  rw [this]; grind
theorem mDot2_some {a b c d m : Int} : V.mDot [a, b] [c, d] = some m ↔ Gd a ∧ Gd b ∧ Gd c ∧ Gd d ∧ Gd m ∧ m = (a * c + b * d) / 4294967296 := by
  unfold V.mDot V.anyG V.dotZ
  rw [guard_some, tl_some]
  simp only [List.any_cons, List.any_nil, Bool.or_false, Bool.or_eq_false_iff, gd_iff, List.length_cons, List.length_nil, List.zipWith, List.sum_cons, List.sum_nil, Int.add_zero]
  simp; grind
theorem mDot3_some {a b c x y z m : Int} : V.mDot [a, b, c] [x, y, z] = some m ↔ Gd a ∧ Gd b ∧ Gd c ∧ Gd x ∧ Gd y ∧ Gd z ∧ Gd m ∧ m = (a * x + (b * y + c * z)) / 4294967296 := by
  unfold V.mDot V.anyG V.dotZ
  rw [guard_some, tl_some]
  simp only [List.any_cons, List.any_nil, Bool.or_false, Bool.or_eq_false_iff, gd_iff, List.length_cons, List.length_nil, List.zipWith, List.sum_cons, List.sum_nil, Int.add_zero]
  simp; grind
theorem mDot4_some {a b c d x y z w m : Int} : V.mDot [a, b, c, d] [x, y, z, w] = some m ↔ (Gd a ∧ Gd b ∧ Gd c ∧ Gd d) ∧ (Gd x ∧ Gd y ∧ Gd z ∧ Gd w) ∧ Gd m ∧ m = (a * x + (b * y + (c * z + d * w))) / 4294967296 := by
  unfold V.mDot V.anyG V.dotZ
  rw [guard_some, tl_some]
  simp only [List.any_cons, List.any_nil, Bool.or_false, Bool.or_eq_false_iff, gd_iff, List.length_cons, List.length_nil, List.zipWith, List.sum_cons, List.sum_nil, Int.add_zero]
  simp; grind
theorem mRt_some {x m : Int} : V.mRt x = some m ↔ m = V.isq x ∧ m ≤ 4611686018427387903 := by
  unfold V.mRt
  by_cases h : 4611686018427387903 < V.isq x
  · simp [h]; rintro rfl; omega
  · simp [h]; grind
theorem mNorm3_some {a b c m : Int} : V.mNorm [a, b, c] = some m ↔ Gd a ∧ Gd b ∧ Gd c ∧ m = V.isq (a * a + (b * b + c * c)) ∧ m ≤ 4611686018427387903 := by
  unfold V.mNorm V.anyG V.dotZ
  rw [guard_some, mRt_some]
  simp only [List.any_cons, List.any_nil, Bool.or_false, Bool.or_eq_false_iff, gd_iff, List.length_cons, List.length_nil, List.zipWith, List.sum_cons, List.sum_nil, Int.add_zero]
  simp; grind
theorem mNorm4_some {a b c d m : Int} : V.mNorm [a, b, c, d] = some m ↔ Gd a ∧ Gd b ∧ Gd c ∧ Gd d ∧ m = V.isq (a * a + (b * b + (c * c + d * d))) ∧ m ≤ 4611686018427387903 := by
  unfold V.mNorm V.anyG V.dotZ
  rw [guard_some, mRt_some]
  simp only [List.any_cons, List.any_nil, Bool.or_false, Bool.or_eq_false_iff, gd_iff, List.length_cons, List.length_nil, List.zipWith, List.sum_cons, List.sum_nil, Int.add_zero]
  simp; grind
theorem isqEx (n : Nat) : ∃ r : Int, 0 ≤ r ∧ r * r ≤ (n : Int) ∧ (n : Int) < (r + 1) * (r + 1) := by
  induction n with
  | zero => exact ⟨0, by decide, by decide, by decide⟩
  | succ n ih =>
    obtain ⟨r, h0, h1, h2⟩ := ih
    by_cases h : ((n + 1 : Nat) : Int) < (r + 1) * (r + 1)
    · exact ⟨r, h0, by push_cast; omega, h⟩
    · refine ⟨r + 1, by omega, by omega, ?_⟩
      have e : (r + 1 + 1) * (r + 1 + 1) = (r + 1) * (r + 1) + 2 * r + 3 := by grind
      push_cast at h ⊢
      omega
theorem isqSpec {x : Int} (h : 0 ≤ x) : 0 ≤ V.isq x ∧ V.isq x * V.isq x ≤ x ∧ x < (V.isq x + 1) * (V.isq x + 1) := by
  obtain ⟨n, rfl⟩ := Int.eq_ofNat_of_zero_le h
  obtain ⟨r, hr⟩ := isqEx n
  rw [isq_eq hr]; exact hr
theorem sq_nn (a : Int) : 0 ≤ a * a := by
  rcases Int.le_total 0 a with h | h
  · exact Int.mul_nonneg h h
  · exact Int.mul_nonneg_of_nonpos_of_nonpos h h
/-- what is squared is below a square: it lies between -r and r -/
theorem sq_le {a r : Int} (hr : 0 ≤ r) (h : a * a < (r + 1) * (r + 1)) : -r ≤ a ∧ a ≤ r := by
  constructor
  · by_cases h1 : -r ≤ a
    · exact h1
    · have : (r + 1) * (r + 1) ≤ -a * -a := Int.mul_le_mul (by omega) (by omega) (by omega) (by omega)
      have e : -a * -a = a * a := by grind
      omega
  · by_cases h1 : a ≤ r
    · exact h1
    · have : (r + 1) * (r + 1) ≤ a * a := Int.mul_le_mul (by omega) (by omega) (by omega) (by omega)
      omega
theorem gnF {o : Option Int} {bad : Bool} : V.gn o bad = false ↔ (∃ n, o = some n) ∧ bad = false := by
  unfold V.gn; cases o <;> simp
theorem gv_some (n : Int) : V.gv (some n) = n := rfl
theorem gn_some (n : Int) (b : Bool) : V.gn (some n) b = b := rfl
theorem gn_none (b : Bool) : V.gn none b = true := rfl
end Go.Proofs.Ytkjellhkamfciaa.Sx
