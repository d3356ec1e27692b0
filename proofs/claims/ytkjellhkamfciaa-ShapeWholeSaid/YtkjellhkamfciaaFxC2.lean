/- The quotient of a double word: what it is. -/
import Derived.Test.YtkjellhkamfciaaFxC
namespace Go.Proofs.Ytkjellhkamfciaa.Sx
open Go
set_option linter.unusedVariables false
set_option linter.unusedSimpArgs false
theorem p56 : (2 : Int) ^ 56 = 72057594037927936 := by kernel_rfl
theorem tabAll : (List.range 256).all (fun b => b == 0 || (let n := (strAt len8 (b : Int)).toNat; strAt len8 (b : Int) == (n : Int) && decide (1 ≤ n) && decide (n ≤ 8) && decide ((128 : Int) ≤ (b : Int) * 2 ^ (8 - n)) && decide (((b : Int) + 1) * 2 ^ (8 - n) ≤ 256))) = true := by kernel_rfl
theorem tab (b : Int) (h0 : 1 ≤ b) (h1 : b < 256) : ∃ n : Nat, strAt len8 b = n ∧ 1 ≤ n ∧ n ≤ 8 ∧ 128 ≤ b * 2 ^ (8 - n) ∧ (b + 1) * 2 ^ (8 - n) ≤ 256 := by
  obtain ⟨m, rfl⟩ := Int.eq_ofNat_of_zero_le (by omega : 0 ≤ b)
  have := List.all_eq_true.1 tabAll m (List.mem_range.2 (by omega))
  clear h1
  generalize strAt len8 (m : Int) = t at *
  simp only [Bool.or_eq_true, Bool.and_eq_true, beq_iff_eq, decide_eq_true_eq] at this
  rcases this with h | ⟨⟨⟨⟨a1, a2⟩, a3⟩, a4⟩, a5⟩
  · omega
  · exact ⟨_, a1, a2, a3, a4, a5⟩
theorem lz_branch {y b : Int} {k : Nat} (h1 : b * 2 ^ k ≤ y) (h2 : y < (b + 1) * 2 ^ k) (hk : k ≤ 56) (h0 : 1 ≤ b) (h3 : b < 256) :
    ∃ s : Nat, IntKind.wrap .i64 (64 - IntKind.wrap .i64 ((k : Int) + IntKind.wrap .i64 (strAt len8 b))) = s ∧ s ≤ 63 ∧ 9223372036854775808 ≤ y * 2 ^ s ∧ y * 2 ^ s < 18446744073709551616 := by
  obtain ⟨n, e, n1, n2, n3, n4⟩ := tab b h0 h3
  refine ⟨64 - (k + n), ?_, by omega, ?_, ?_⟩
  · rw [e, IntWalk.i64_in (n : Int) (by omega), IntWalk.i64_in ((k : Int) + n) (by omega), IntWalk.i64_in _ (by omega)]; omega
  · have e1 : (2 : Int) ^ k * 2 ^ (64 - (k + n)) = 2 ^ (8 - n) * 2 ^ 56 := by
      rw [← Int.pow_add, ← Int.pow_add]; exact congrArg (fun e : Nat => (2 : Int) ^ e) (by omega)
    rw [p56] at e1
    have p : (0 : Int) ≤ 2 ^ (64 - (k + n)) := Int.le_of_lt (Int.pow_pos (by decide))
    have := Int.mul_le_mul_of_nonneg_right h1 p
    have e2 : b * 2 ^ k * 2 ^ (64 - (k + n)) = b * 2 ^ (8 - n) * 72057594037927936 := by rw [Int.mul_assoc, e1, Int.mul_assoc]
    omega
  · have e1 : (2 : Int) ^ k * 2 ^ (64 - (k + n)) = 2 ^ (8 - n) * 2 ^ 56 := by
      rw [← Int.pow_add, ← Int.pow_add]; exact congrArg (fun e : Nat => (2 : Int) ^ e) (by omega)
    rw [p56] at e1
    have p : (0 : Int) < 2 ^ (64 - (k + n)) := Int.pow_pos (by decide)
    have := Int.mul_lt_mul_of_pos_right h2 p
    have e2 : (b + 1) * 2 ^ k * 2 ^ (64 - (k + n)) = (b + 1) * 2 ^ (8 - n) * 72057594037927936 := by rw [Int.mul_assoc, e1, Int.mul_assoc]
    omega
theorem u8_in' {n : Int} (h0 : 0 ≤ n) (h1 : n < 256) : IntKind.u8.wrap n = n := IntWalk.u8_in n ⟨h0, by omega⟩
theorem fdiv_pos (a b : Int) (h : 0 < b) : Int.fdiv a b = a / b := Int.fdiv_eq_ediv_of_nonneg a (by omega)
theorem lz64_spec (y : Int) (h0 : 0 < y) (h1 : y < 18446744073709551616) : V.lz64_g y = true ∧ ∃ s : Nat, V.lz64_r0 y = s ∧ s ≤ 63 ∧ 9223372036854775808 ≤ y * 2 ^ s ∧ y * 2 ^ s < 18446744073709551616 := by
  unfold V.lz64_g V.lz64_r0 V.len64_g V.len64_r0
  simp only [cLe_eq, fdiv_pos _ 4294967296 (by decide), fdiv_pos _ 65536 (by decide), fdiv_pos _ 256 (by decide)]
  have key : ∀ (k : Nat) (b : Int), k ≤ 56 → b = y / 2 ^ k → 1 ≤ b → b < 256 → ∃ s : Nat, IntKind.wrap .i64 (64 - IntKind.wrap .i64 ((k : Int) + IntKind.wrap .i64 (strAt len8 b))) = s ∧ s ≤ 63 ∧ 9223372036854775808 ≤ y * 2 ^ s ∧ y * 2 ^ s < 18446744073709551616 := by
    intro k b hk hb h2 h3
    have p : (0 : Int) < 2 ^ k := Int.pow_pos (by decide)
    refine lz_branch ?_ ?_ hk h2 h3
    · rw [hb]; exact Int.ediv_mul_le y (by omega)
    · rw [hb]; exact Int.lt_ediv_add_one_mul_self y p
  by_cases c1 : 4294967296 ≤ y
  · by_cases c2 : 65536 ≤ y / 4294967296
    · by_cases c3 : 256 ≤ y / 4294967296 / 65536
      · have := key 56 (y / 4294967296 / 65536 / 256) (by omega) (by rw [show (2 : Int) ^ 56 = 72057594037927936 from (by kernel_rfl)]; omega) (by omega) (by omega)
        simp only [c1, c2, c3, decide_true, if_true, u8_in' (by omega : 0 ≤ y / 4294967296 / 65536 / 256) (by omega)]
        have h : 0 ≤ y / 4294967296 / 65536 / 256 ∧ y / 4294967296 / 65536 / 256 < 256 := by omega
        simpa [h] using this
      · have := key 48 (y / 4294967296 / 65536) (by omega) (by rw [show (2 : Int) ^ 48 = 281474976710656 from (by kernel_rfl)]; omega) (by omega) (by omega)
        simp only [c1, c2, c3, decide_true, decide_false, Bool.false_eq_true, if_false, if_true, u8_in' (by omega : 0 ≤ y / 4294967296 / 65536) (by omega)]
        have h : 0 ≤ y / 4294967296 / 65536 ∧ y / 4294967296 / 65536 < 256 := by omega
        simpa [h] using this
    · by_cases c3 : 256 ≤ y / 4294967296
      · have := key 40 (y / 4294967296 / 256) (by omega) (by rw [show (2 : Int) ^ 40 = 1099511627776 from (by kernel_rfl)]; omega) (by omega) (by omega)
        simp only [c1, c2, c3, decide_true, decide_false, Bool.false_eq_true, if_false, if_true, u8_in' (by omega : 0 ≤ y / 4294967296 / 256) (by omega)]
        have h : 0 ≤ y / 4294967296 / 256 ∧ y / 4294967296 / 256 < 256 := by omega
        simpa [h] using this
      · have := key 32 (y / 4294967296) (by omega) (by rw [show (2 : Int) ^ 32 = 4294967296 from (by kernel_rfl)]) (by omega) (by omega)
        simp only [c1, c2, c3, decide_true, decide_false, Bool.false_eq_true, if_false, if_true, u8_in' (by omega : 0 ≤ y / 4294967296) (by omega)]
        have h : 0 ≤ y / 4294967296 ∧ y / 4294967296 < 256 := by omega
        simpa [h] using this
  · by_cases c2 : 65536 ≤ y
    · by_cases c3 : 256 ≤ y / 65536
      · have := key 24 (y / 65536 / 256) (by omega) (by rw [show (2 : Int) ^ 24 = 16777216 from (by kernel_rfl)]; omega) (by omega) (by omega)
        simp only [c1, c2, c3, decide_true, decide_false, Bool.false_eq_true, if_false, if_true, u8_in' (by omega : 0 ≤ y / 65536 / 256) (by omega)]
        have h : 0 ≤ y / 65536 / 256 ∧ y / 65536 / 256 < 256 := by omega
        simpa [h] using this
      · have := key 16 (y / 65536) (by omega) (by rw [show (2 : Int) ^ 16 = 65536 from (by kernel_rfl)]) (by omega) (by omega)
        simp only [c1, c2, c3, decide_true, decide_false, Bool.false_eq_true, if_false, if_true, u8_in' (by omega : 0 ≤ y / 65536) (by omega)]
        have h : 0 ≤ y / 65536 ∧ y / 65536 < 256 := by omega
        simpa [h] using this
    · by_cases c3 : 256 ≤ y
      · have := key 8 (y / 256) (by omega) (by rw [show (2 : Int) ^ 8 = 256 from (by kernel_rfl)]) (by omega) (by omega)
        simp only [c1, c2, c3, decide_true, decide_false, Bool.false_eq_true, if_false, if_true, u8_in' (by omega : 0 ≤ y / 256) (by omega)]
        have h : 0 ≤ y / 256 ∧ y / 256 < 256 := by omega
        simpa [h] using this
      · have := key 0 y (by omega) (by simp) (by omega) (by omega)
        simp only [c1, c2, c3, decide_true, decide_false, Bool.false_eq_true, if_false, if_true, u8_in' (by omega : 0 ≤ y) (by omega)]
        have h : 0 ≤ y ∧ y < 256 := by omega
        simpa [h] using this
end Go.Proofs.Ytkjellhkamfciaa.Sx
