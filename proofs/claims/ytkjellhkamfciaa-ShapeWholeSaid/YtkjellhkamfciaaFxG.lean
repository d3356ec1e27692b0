/- fx: sums of products, norms. -/
import Derived.Test.YtkjellhkamfciaaFxF
namespace Go.Proofs.Ytkjellhkamfciaa.Sx
open Go
set_option linter.unusedVariables false
set_option linter.unusedSimpArgs false
theorem anyG_cons (x : Int) (l : List Int) : V.anyG (x :: l) = (isG x || V.anyG l) := by simp [V.anyG]
theorem dotZ_cons (x y : Int) (a b : List Int) : V.dotZ (x :: a) (y :: b) = x * y + V.dotZ a b := by simp [V.dotZ]
theorem dotZ_bound : ∀ (a b : List Int), V.anyG a = false → V.anyG b = false → -21267647932558653957237540927630737409 * (a.length : Int) ≤ V.dotZ a b ∧ V.dotZ a b ≤ 21267647932558653957237540927630737409 * (a.length : Int)
  | [], b, _, _ => by simp [V.dotZ]
  | x :: a, [], _, _ => by simp [V.dotZ]; omega
  | x :: a, y :: b, ha, hb => by
    rw [anyG_cons, Bool.or_eq_false_iff] at ha hb
    have h1 := prod_G ha.1 hb.1
    have h2 := dotZ_bound a b ha.2 hb.2
    rw [dotZ_cons, List.length_cons]
    push_cast
    omega
theorem dotZ_sq : ∀ (a : List Int), 0 ≤ V.dotZ a a
  | [] => by simp [V.dotZ]
  | x :: a => by
    rw [dotZ_cons]
    have := dotZ_sq a
    have h : 0 ≤ x * x := by
      rcases Int.le_total 0 x with h | h
      · exact Int.mul_nonneg h h
      · have := Int.mul_nonneg (by omega : 0 ≤ -x) (by omega : 0 ≤ -x); rwa [Int.neg_mul_neg] at this
    omega
end Go.Proofs.Ytkjellhkamfciaa.Sx
