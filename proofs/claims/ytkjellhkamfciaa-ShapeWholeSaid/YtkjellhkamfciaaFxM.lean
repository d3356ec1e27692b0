/- fx: what its words reckon, in whole numbers. -/
import Derived.Test.YtkjellhkamfciaaFxC3
namespace Go.Proofs.Ytkjellhkamfciaa.Sx
open Go
set_option linter.unusedVariables false
set_option linter.unusedSimpArgs false
def hiW (x : Int) : Int := x / 18446744073709551616 % 18446744073709551616
def loW (x : Int) : Int := x % 18446744073709551616
theorem hiW_lo (x : Int) : 0 ≤ hiW x ∧ hiW x < 18446744073709551616 := by unfold hiW; omega
theorem loW_lo (x : Int) : 0 ≤ loW x ∧ loW x < 18446744073709551616 := by unfold loW; omega
/-- In an int's range. -/
def R64 (n : Int) : Prop := -9223372036854775808 ≤ n ∧ n < 9223372036854775808
theorem mul64_eq' {x y : Int} (h0 : 0 ≤ x) (h1 : x < 18446744073709551616) (h2 : 0 ≤ y) (h3 : y < 18446744073709551616) :
    V.mul64_r0 x y = x * y / 18446744073709551616 ∧ V.mul64_r1 x y = x * y % 18446744073709551616 := by
  refine ⟨?_, ?_⟩
  · unfold V.mul64_r0
    rw [band32 h0 h1, band32 h2 h3, fdiv_pos x _ (by decide), fdiv_pos y _ (by decide)]
    have ex : x = x / 4294967296 * 4294967296 + x % 4294967296 := by omega
    have ey : y = y / 4294967296 * 4294967296 + y % 4294967296 := by omega
    have a1 : 0 ≤ x / 4294967296 ∧ x / 4294967296 ≤ 4294967295 := by omega
    have a2 : 0 ≤ x % 4294967296 ∧ x % 4294967296 ≤ 4294967295 := by omega
    have a3 : 0 ≤ y / 4294967296 ∧ y / 4294967296 ≤ 4294967295 := by omega
    have a4 : 0 ≤ y % 4294967296 ∧ y % 4294967296 ≤ 4294967295 := by omega
    generalize x / 4294967296 = x1 at *
    generalize x % 4294967296 = x0 at *
    generalize y / 4294967296 = y1 at *
    generalize y % 4294967296 = y0 at *
    have exy : x * y = x1 * y1 * 18446744073709551616 + (x1 * y0 + x0 * y1) * 4294967296 + x0 * y0 := by rw [ex, ey]; grind
    rw [exy]
    have b1 : 0 ≤ x1 * y1 ∧ x1 * y1 ≤ 4294967295 * 4294967295 := ⟨Int.mul_nonneg a1.1 a3.1, Int.mul_le_mul a1.2 a3.2 a3.1 (by omega)⟩
    have b2 : 0 ≤ x1 * y0 ∧ x1 * y0 ≤ 4294967295 * 4294967295 := ⟨Int.mul_nonneg a1.1 a4.1, Int.mul_le_mul a1.2 a4.2 a4.1 (by omega)⟩
    have b3 : 0 ≤ x0 * y1 ∧ x0 * y1 ≤ 4294967295 * 4294967295 := ⟨Int.mul_nonneg a2.1 a3.1, Int.mul_le_mul a2.2 a3.2 a3.1 (by omega)⟩
    have b4 : 0 ≤ x0 * y0 ∧ x0 * y0 ≤ 4294967295 * 4294967295 := ⟨Int.mul_nonneg a2.1 a4.1, Int.mul_le_mul a2.2 a4.2 a4.1 (by omega)⟩
    generalize x1 * y1 = p11 at *
    generalize x1 * y0 = p10 at *
    generalize x0 * y1 = p01 at *
    generalize x0 * y0 = p00 at *
    rw [u64_in' b1.1 (by omega), u64_in' b2.1 (by omega), u64_in' b3.1 (by omega), u64_in' b4.1 (by omega), fdiv_pos p00 _ (by decide)]
    have c1 : 0 ≤ p10 + p00 / 4294967296 ∧ p10 + p00 / 4294967296 < 18446744073709551616 := by omega
    rw [u64_in' c1.1 c1.2, band32 c1.1 c1.2, fdiv_pos _ 4294967296 (by decide)]
    rw [u64_in' (by omega : 0 ≤ p11 + (p10 + p00 / 4294967296) / 4294967296) (by omega), u64_in' (by omega : 0 ≤ (p10 + p00 / 4294967296) % 4294967296 + p01) (by omega), fdiv_pos _ 4294967296 (by decide), u64_in' (by omega) (by omega)]
    omega
  · unfold V.mul64_r1; rw [IntKind.wrap_u64]
theorem times_eq' {a b : Int} (ha : R64 a) (hb : R64 b) : V.times_r0 a b = hiW (a * b) ∧ V.times_r1 a b = loW (a * b) := by
  unfold V.times_r0 V.times_r1
  unfold R64 at ha hb
  simp only [cLt_eq, decide_eq_true_eq]
  have hwa : 0 ≤ IntKind.wrap .u64 a ∧ IntKind.wrap .u64 a < 18446744073709551616 := by rw [IntKind.wrap_u64]; omega
  have hwb : 0 ≤ IntKind.wrap .u64 b ∧ IntKind.wrap .u64 b < 18446744073709551616 := by rw [IntKind.wrap_u64]; omega
  obtain ⟨e0, e1⟩ := mul64_eq' hwa.1 hwa.2 hwb.1 hwb.2
  rw [e0, e1]
  by_cases h1 : a < 0
  · by_cases h2 : b < 0
    · simp only [h1, h2, if_true]
      rw [show IntKind.wrap .u64 a = a + 18446744073709551616 by rw [IntKind.wrap_u64]; omega, show IntKind.wrap .u64 b = b + 18446744073709551616 by rw [IntKind.wrap_u64]; omega]
      have e : (a + 18446744073709551616) * (b + 18446744073709551616) = a * b + (a + b + 18446744073709551616) * 18446744073709551616 := by grind
      rw [e]
      simp only [IntKind.wrap_u64, hiW, loW]
      generalize a * b = p
      omega
    · simp only [h1, h2, if_true, if_false]
      rw [show IntKind.wrap .u64 a = a + 18446744073709551616 by rw [IntKind.wrap_u64]; omega, show IntKind.wrap .u64 b = b by rw [IntKind.wrap_u64]; omega]
      have e : (a + 18446744073709551616) * b = a * b + b * 18446744073709551616 := by grind
      rw [e]
      simp only [IntKind.wrap_u64, hiW, loW]
      generalize a * b = p
      omega
  · by_cases h2 : b < 0
    · simp only [h1, h2, if_true, if_false]
      rw [show IntKind.wrap .u64 a = a by rw [IntKind.wrap_u64]; omega, show IntKind.wrap .u64 b = b + 18446744073709551616 by rw [IntKind.wrap_u64]; omega]
      have e : a * (b + 18446744073709551616) = a * b + a * 18446744073709551616 := by grind
      rw [e]
      simp only [IntKind.wrap_u64, hiW, loW]
      generalize a * b = p
      omega
    · simp only [h1, h2, if_false]
      rw [show IntKind.wrap .u64 a = a by rw [IntKind.wrap_u64]; omega, show IntKind.wrap .u64 b = b by rw [IntKind.wrap_u64]; omega]
      have hp : a * b ≤ 9223372036854775807 * 9223372036854775807 := Int.mul_le_mul (by omega) (by omega) (by omega) (by omega)
      have hp0 : 0 ≤ a * b := Int.mul_nonneg (by omega) (by omega)
      simp only [hiW, loW, and_true]
      generalize a * b = p at *
      omega
theorem minus_eq' (x : Int) : V.minus_g (hiW x) (loW x) = true ∧ V.minus_r0 (hiW x) (loW x) = hiW (-x) ∧ V.minus_r1 (hiW x) (loW x) = loW (-x) := by
  unfold V.minus_g V.minus_r0 V.minus_r1
  have a1 := hiW_lo x
  have a2 := loW_lo x
  by_cases h : 0 < (loW x).toNat
  · simp only [Int.ofNat_eq_natCast, Int.toNat_natCast, Nat.add_zero, Int.toNat_zero, h, if_true]
    rw [if_neg (by omega), if_neg (by omega), if_neg (by omega)]
    unfold hiW loW at *
    refine ⟨rfl, ?_, ?_⟩ <;> omega
  · simp only [Int.ofNat_eq_natCast, Int.toNat_natCast, Nat.add_zero, Int.toNat_zero, h, if_false]
    rw [if_neg (by omega), if_neg (by omega), if_neg (by omega)]
    unfold hiW loW at *
    refine ⟨rfl, ?_, ?_⟩ <;> omega
theorem neg_eq' {x : Int} (h0 : -170141183460469231731687303715884105728 ≤ x) (h1 : x < 170141183460469231731687303715884105728) : V.neg_r0 (hiW x) (loW x) = decide (x < 0) := by
  unfold V.neg_r0
  rw [cEq_eq, fdiv_pos _ _ (by decide)]
  unfold hiW
  by_cases h : x < 0
  · simp only [h, decide_true, beq_iff_eq]; omega
  · simp only [h, decide_false, beq_eq_false_iff_ne, ne_eq]; omega
/-- A whole root, if there is one. -/
noncomputable def _root_.Go.Proofs.Ytkjellhkamfciaa.V.isq (x : Int) : Int := open Classical in if h : ∃ r : Int, 0 ≤ r ∧ r * r ≤ x ∧ x < (r + 1) * (r + 1) then Classical.choose h else 0
theorem isq_uniq {x r s : Int} (h1 : 0 ≤ r ∧ r * r ≤ x ∧ x < (r + 1) * (r + 1)) (h2 : 0 ≤ s ∧ s * s ≤ x ∧ x < (s + 1) * (s + 1)) : r = s := by
  rcases Int.lt_trichotomy r s with h | h | h
  · have : (r + 1) * (r + 1) ≤ s * s := Int.mul_le_mul (by omega) (by omega) (by omega) (by omega)
    omega
  · exact h
  · have : (s + 1) * (s + 1) ≤ r * r := Int.mul_le_mul (by omega) (by omega) (by omega) (by omega)
    omega
theorem isq_eq {x r : Int} (h : 0 ≤ r ∧ r * r ≤ x ∧ x < (r + 1) * (r + 1)) : V.isq x = r := by
  unfold V.isq
  have he : ∃ r : Int, 0 ≤ r ∧ r * r ≤ x ∧ x < (r + 1) * (r + 1) := ⟨r, h⟩
  rw [dif_pos he]
  exact isq_uniq (Classical.choose_spec he) h
/-- What is told: a number, or none. -/
def _root_.Go.Proofs.Ytkjellhkamfciaa.V.gv (o : Option Int) : Int := o.getD 0
def _root_.Go.Proofs.Ytkjellhkamfciaa.V.gn (o : Option Int) (bad : Bool) : Bool := o.isNone || bad
def _root_.Go.Proofs.Ytkjellhkamfciaa.V.tl (n : Int) : Option Int := if isG n then none else some n
def _root_.Go.Proofs.Ytkjellhkamfciaa.V.mAdd (a b : Int) : Option Int := if isG a || isG b then none else V.tl (a + b)
def _root_.Go.Proofs.Ytkjellhkamfciaa.V.mSub (a b : Int) : Option Int := if isG a || isG b then none else V.tl (a - b)
/-- A quotient, as fx tells it: where its size would be 2^64 and something is left over, it tells 0. -/
def _root_.Go.Proofs.Ytkjellhkamfciaa.V.qF (x c : Int) : Option Int := if x / c == -18446744073709551616 && x % c != 0 then some 0 else V.tl (x / c)
def _root_.Go.Proofs.Ytkjellhkamfciaa.V.mRatio (a b c : Int) : Option Int := if c == 0 || isG a || isG b || isG c then none else if c < 0 then V.qF (-(a * b)) (-c) else V.qF (a * b) c
def _root_.Go.Proofs.Ytkjellhkamfciaa.V.mMul (a b : Int) : Option Int := if isG a || isG b then none else V.tl (a * b / 4294967296)
def _root_.Go.Proofs.Ytkjellhkamfciaa.V.mDiv (a b : Int) : Option Int := V.mRatio a 4294967296 b
noncomputable def _root_.Go.Proofs.Ytkjellhkamfciaa.V.mRt (x : Int) : Option Int := if 4611686018427387903 < V.isq x then none else some (V.isq x)
noncomputable def _root_.Go.Proofs.Ytkjellhkamfciaa.V.mRoot (a : Int) : Option Int := if decide (a < 0) || isG a then none else V.mRt (a * 4294967296)
def _root_.Go.Proofs.Ytkjellhkamfciaa.V.dotZ (a b : List Int) : Int := (List.zipWith (· * ·) a b).sum
def _root_.Go.Proofs.Ytkjellhkamfciaa.V.mDot (a b : List Int) : Option Int := if a.length != b.length || decide (8 < a.length) || V.anyG a || V.anyG b then none else V.tl (V.dotZ a b / 4294967296)
noncomputable def _root_.Go.Proofs.Ytkjellhkamfciaa.V.mNorm (l : List Int) : Option Int := if decide (8 < l.length) || V.anyG l then none else V.mRt (V.dotZ l l)
theorem isG_iff (n : Int) : isG n = true ↔ (n < -4611686018427387903 ∨ 4611686018427387903 < n) := by simp [isG]
theorem isG_false (n : Int) : isG n = false ↔ (-4611686018427387903 ≤ n ∧ n ≤ 4611686018427387903) := by simp [isG]
end Go.Proofs.Ytkjellhkamfciaa.Sx
