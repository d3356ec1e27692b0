/- The quotient of a double word is the quotient. -/
import Derived.Test.YtkjellhkamfciaaFxC2
namespace Go.Proofs.Ytkjellhkamfciaa.Sx
open Go
set_option linter.unusedVariables false
set_option linter.unusedSimpArgs false
theorem ofInt_toNat {x : Int} (h0 : 0 ≤ x) (h1 : x < 18446744073709551616) : (BitVec.ofInt 64 x).toNat = x.toNat := by
  rw [BitVec.toNat_ofInt]
  congr 1
  exact Int.emod_eq_of_lt h0 (by simpa using h1)
theorem band32 {x : Int} (h0 : 0 ≤ x) (h1 : x < 18446744073709551616) : bandI .u64 x 4294967295 = x % 4294967296 := by
  unfold bandI
  have e1 : (BitVec.ofInt IntKind.u64.bits x &&& BitVec.ofInt IntKind.u64.bits 4294967295).toNat = x.toNat % 4294967296 := by
    show (BitVec.ofInt 64 x &&& BitVec.ofInt 64 4294967295).toNat = _
    rw [BitVec.toNat_and, ofInt_toNat h0 h1, ofInt_toNat (by decide) (by decide)]
    exact Nat.and_two_pow_sub_one_eq_mod x.toNat 32
  rw [e1, u64_in' (by omega) (by omega)]
  omega
theorem bor_add {a b : Int} {s : Nat} (h0 : 0 ≤ a) (h1 : a * 2 ^ s < 18446744073709551616) (h2 : 0 ≤ b) (h3 : b < 2 ^ s) (h4 : a * 2 ^ s + b < 18446744073709551616) : borI .u64 (a * 2 ^ s) b = a * 2 ^ s + b := by
  unfold borI
  have hp : (0 : Int) < 2 ^ s := Int.pow_pos (by decide)
  have h5 : 0 ≤ a * 2 ^ s := Int.mul_nonneg h0 (by omega)
  obtain ⟨m, rfl⟩ := Int.eq_ofNat_of_zero_le h0
  obtain ⟨n, rfl⟩ := Int.eq_ofNat_of_zero_le h2
  have e2 : ((m : Int) * 2 ^ s) = ((m * 2 ^ s : Nat) : Int) := by push_cast; rfl
  have h3' : n < 2 ^ s := by
    have : ((2 ^ s : Nat) : Int) = (2 : Int) ^ s := by push_cast; rfl
    omega
  have e1 : (BitVec.ofInt IntKind.u64.bits ((m : Int) * 2 ^ s) ||| BitVec.ofInt IntKind.u64.bits (n : Int)).toNat = m * 2 ^ s + n := by
    show (BitVec.ofInt 64 ((m : Int) * 2 ^ s) ||| BitVec.ofInt 64 (n : Int)).toNat = _
    rw [BitVec.toNat_or, ofInt_toNat h5 h1, ofInt_toNat h2 (by omega), e2, Int.toNat_natCast, Int.toNat_natCast, Nat.mul_comm m]
    exact (Nat.two_pow_add_eq_or_of_lt h3' m).symm
  rw [e1, e2]
  exact u64_in' (by omega) (by omega)
theorem wsub {a b : Int} (h0 : 0 ≤ a - b) (h1 : a - b < 18446744073709551616) : IntKind.wrap .u64 (IntKind.wrap .u64 a - IntKind.wrap .u64 b) = a - b := by
  simp only [IntKind.wrap_u64]; omega
theorem wsub3 {a b c : Int} (h0 : 0 ≤ a + b - c) (h1 : a + b - c < 18446744073709551616) : IntKind.wrap .u64 (IntKind.wrap .u64 (IntKind.wrap .u64 a + b) - IntKind.wrap .u64 c) = a + b - c := by
  simp only [IntKind.wrap_u64]; omega
/-- A digit's quotient is found from a guess by the divisor's upper half. -/
theorem guess (Y u : Int) (un1 : Int) (hY0 : 9223372036854775808 ≤ Y) (hY1 : Y < 18446744073709551616) (hu0 : 0 ≤ u) (hu : u < Y) (h3 : 0 ≤ un1) (h3' : un1 < 4294967296) {α : Type} (k0 : Int → Option α) :
    M.div64_l0 (Y / 4294967296) (Y % 4294967296) un1 k0 100 (IntKind.wrap .u64 (Int.tdiv u (Y / 4294967296))) (IntKind.wrap .u64 (u - IntKind.wrap .u64 (IntKind.wrap .u64 (Int.tdiv u (Y / 4294967296)) * (Y / 4294967296)))) = k0 ((u * 4294967296 + un1) / Y) := by
  have e : Y / 4294967296 * 4294967296 + Y % 4294967296 = Y := by omega
  generalize ha : Y / 4294967296 = a at *
  generalize hb : Y % 4294967296 = b at *
  have ha1 : 2147483648 ≤ a := by omega
  have ha2 : a < 4294967296 := by omega
  rw [Int.tdiv_eq_ediv_of_nonneg hu0]
  have q0 : 0 ≤ u / a := Int.ediv_nonneg hu0 (by omega)
  have hr : u / a * a + u % a = u := Int.ediv_mul_add_emod u a
  have hr0 : 0 ≤ u % a := Int.emod_nonneg u (by omega)
  have hr1 : u % a < a := Int.emod_lt_of_pos u (by omega)
  have q1 : u / a ≤ 4294967297 := by
    apply Int.le_of_lt_add_one
    apply Int.ediv_lt_of_lt_mul (by omega)
    have : u < a * 4294967296 + b := by omega
    omega
  have qa : 0 ≤ u / a * a := Int.mul_nonneg q0 (by omega)
  rw [u64_in' q0 (by omega), u64_in' qa (by omega), u64_in' (by omega : 0 ≤ u - u / a * a) (by omega)]
  have := div64_l0_val a b un1 k0 ha1 ha2 (by omega) (by omega) h3 h3' u (by omega) 100 (u / a) (u - u / a * a) q0 q1 (by omega) (by omega) (by omega) (by omega) (by
    apply Int.le_of_lt_add_one
    apply Int.ediv_lt_of_lt_mul (by omega)
    have e1 : (u / a + 1) * (a * 4294967296 + b) = (u / a * a + a) * 4294967296 + u / a * b + b := by grind
    have : 0 ≤ u / a * b := Int.mul_nonneg q0 (by omega)
    omega)
  rw [this, e]
theorem div64_val {α : Type} (hi lo y : Int) (h0 : 0 ≤ hi) (h1 : hi < y) (h2 : y < 18446744073709551616) (h3 : 0 ≤ lo) (h4 : lo < 18446744073709551616) (k0 : Int → Int → Option α) :
    M.div64 hi lo y k0 = k0 ((hi * 18446744073709551616 + lo) / y) ((hi * 18446744073709551616 + lo) % y) := by
  unfold M.div64
  have a1 : ¬ y = 0 := by omega
  have a2 : ¬ y ≤ hi := by omega
  simp only [cEq_eq, cLe_eq, a1, a2, beq_iff_eq, decide_false, Bool.false_eq_true, if_false]
  by_cases hh : hi = 0
  · subst hh
    simp only [if_true, Int.zero_mul, Int.zero_add]
    rw [Int.tdiv_eq_ediv_of_nonneg h3, Int.tmod_eq_emod_of_nonneg h3, u64_in' (Int.ediv_nonneg h3 (by omega))]
    exact Int.lt_of_le_of_lt (Int.ediv_le_self y h3) h4
  · simp only [hh, if_false]
    obtain ⟨g, s, hs, hs63, hY0, hY1⟩ := lz64_spec y (by omega) h2
    have hP : (0 : Int) < 2 ^ s := Int.pow_pos (by decide)
    have hQ : (0 : Int) < 2 ^ (64 - s) := Int.pow_pos (by decide)
    have hPQ : (2 : Int) ^ s * 2 ^ (64 - s) = 18446744073709551616 := by
      rw [← Int.pow_add, show s + (64 - s) = 64 by omega]; kernel_rfl
    have r3 : IntKind.wrap .u64 (s : Int) = s := u64_in' (by omega) (by omega)
    have r6 : IntKind.wrap .u64 ((64 : Int) - s) = 64 - s := u64_in' (by omega) (by omega)
    have r7 : Int.toNat ((64 : Int) - s) = 64 - s := by omega
    have r5 : min s 64 = s := by omega
    have r8 : min (64 - s) 64 = 64 - s := by omega
    have c1 : ¬ (s : Int) < 0 := by omega
    have c2 : ¬ (64 : Int) - s < 0 := by omega
    simp only [g, hs, r3, r6, r7, r5, r8, c1, c2, Int.toNat_natCast, if_true, if_false]
    generalize hPe : (2 : Int) ^ s = P at *
    generalize hQe : (2 : Int) ^ (64 - s) = Q at *
    have hhP : hi * P < 18446744073709551616 := by
      have := Int.mul_lt_mul_of_pos_right h1 hP
      omega
    have hhP0 : 0 ≤ hi * P := Int.mul_nonneg h0 (by omega)
    have r9 : IntKind.wrap .u64 (y * P) = y * P := u64_in' (by omega) hY1
    have r11 : IntKind.wrap .u64 (hi * P) = hi * P := u64_in' hhP0 hhP
    have hL0 : 0 ≤ lo / Q := Int.ediv_nonneg h3 (by omega)
    have hL1 : lo / Q < P := by
      apply Int.ediv_lt_of_lt_mul hQ
      rw [hPQ]; exact h4
    have hlo : lo / Q * Q + lo % Q = lo := Int.ediv_mul_add_emod lo Q
    have hm0 : 0 ≤ lo % Q := Int.emod_nonneg lo (by omega)
    have hm1 : lo % Q < Q := Int.emod_lt_of_pos lo hQ
    have hv1 : lo % Q * P < 18446744073709551616 := by
      have := Int.mul_lt_mul_of_pos_right hm1 hP
      have e : Q * P = 18446744073709551616 := by rw [Int.mul_comm]; exact hPQ
      omega
    have hv0 : 0 ≤ lo % Q * P := Int.mul_nonneg hm0 (by omega)
    have hloP : lo * P = lo / Q * 18446744073709551616 + lo % Q * P := by
      rw [← hPQ]; grind
    have r12 : IntKind.wrap .u64 (lo * P) = lo % Q * P := by
      rw [IntKind.wrap_u64, hloP]; omega
    have hu : (hi * P + lo / Q) * 18446744073709551616 + lo % Q * P = (hi * 18446744073709551616 + lo) * P := by
      rw [Int.add_mul (hi * 18446744073709551616) lo P, hloP]; grind
    have huY : hi * P + lo / Q < y * P := by
      have e1 : (hi + 1) * P ≤ y * P := Int.mul_le_mul_of_nonneg_right (by omega) (by omega)
      have e2 : (hi + 1) * P = hi * P + P := by grind
      omega
    have r10 : Int.fdiv lo Q = lo / Q := fdiv_pos _ _ hQ
    have rbor : borI .u64 (hi * P) (lo / Q) = hi * P + lo / Q := by
      rw [← hPe] at hL1 hhP ⊢
      exact bor_add h0 hhP hL0 hL1 (by rw [hPe]; omega)
    simp only [r9, r11, r12, r10, rbor]
    have hYP : 0 < y * P := by omega
    have hu0 : 0 ≤ hi * P + lo / Q := by omega
    -- names
    obtain ⟨U, hU⟩ : ∃ U, U = (hi * 18446744073709551616 + lo) * P := ⟨_, rfl⟩
    have goalQ : (hi * 18446744073709551616 + lo) / y = U / (y * P) := by rw [hU, Int.mul_ediv_mul_of_pos_left _ _ hP]
    have goalR : (hi * 18446744073709551616 + lo) % y = (U % (y * P)) / P := by
      rw [hU, Int.mul_comm _ P, Int.mul_comm y P, Int.mul_emod_mul_of_pos _ _ hP, Int.mul_ediv_cancel_left _ (by omega)]
    rw [goalQ, goalR]
    rw [← hu] at hU
    clear goalQ goalR hu hloP r9 r11 r12 r10 rbor
    generalize hi * P + lo / Q = u at *
    generalize lo % Q * P = v at *
    generalize y * P = Y at *
    simp only [fdiv_pos _ 4294967296 (by decide), band32 (by omega : 0 ≤ Y) hY1, band32 hv0 hv1, show ¬ Y / 4294967296 = 0 by omega, if_false]
    rw [guess Y u (v / 4294967296) hY0 hY1 hu0 huY (by omega) (by omega)]
    -- the rest of the first step
    have hd : (u * 4294967296 + v / 4294967296) / Y * Y + (u * 4294967296 + v / 4294967296) % Y = u * 4294967296 + v / 4294967296 := Int.ediv_mul_add_emod _ _
    have hR0 : 0 ≤ (u * 4294967296 + v / 4294967296) % Y := Int.emod_nonneg _ (by omega)
    have hR1 : (u * 4294967296 + v / 4294967296) % Y < Y := Int.emod_lt_of_pos _ (by omega)
    have hq1 : 0 ≤ (u * 4294967296 + v / 4294967296) / Y := Int.ediv_nonneg (by omega) (by omega)
    have hq1' : (u * 4294967296 + v / 4294967296) / Y < 4294967296 := by
      apply Int.ediv_lt_of_lt_mul (by omega); omega
    rw [wsub3 (by omega) (by omega)]
    generalize hq : (u * 4294967296 + v / 4294967296) / Y = q1 at *
    generalize hr : (u * 4294967296 + v / 4294967296) % Y = R at *
    have eR : u * 4294967296 + v / 4294967296 - q1 * Y = R := by omega
    rw [eR, div64_l1_val, guess Y R (v % 4294967296) hY0 hY1 hR0 hR1 (by omega) (by omega)]
    have hd2 : (R * 4294967296 + v % 4294967296) / Y * Y + (R * 4294967296 + v % 4294967296) % Y = R * 4294967296 + v % 4294967296 := Int.ediv_mul_add_emod _ _
    have hS0 : 0 ≤ (R * 4294967296 + v % 4294967296) % Y := Int.emod_nonneg _ (by omega)
    have hS1 : (R * 4294967296 + v % 4294967296) % Y < Y := Int.emod_lt_of_pos _ (by omega)
    have hq2 : 0 ≤ (R * 4294967296 + v % 4294967296) / Y := Int.ediv_nonneg (by omega) (by omega)
    have hq2' : (R * 4294967296 + v % 4294967296) / Y < 4294967296 := by
      apply Int.ediv_lt_of_lt_mul (by omega); omega
    rw [wsub3 (by omega) (by omega)]
    generalize hq' : (R * 4294967296 + v % 4294967296) / Y = q0 at *
    generalize hr' : (R * 4294967296 + v % 4294967296) % Y = T at *
    have eT : R * 4294967296 + v % 4294967296 - q0 * Y = T := by omega
    have eU : U = T + Y * (q1 * 4294967296 + q0) := by
      have : Y * (q1 * 4294967296 + q0) = q1 * Y * 4294967296 + q0 * Y := by grind
      omega
    have fQ : U / Y = q1 * 4294967296 + q0 := by
      rw [eU, Int.add_mul_ediv_left _ _ (by omega : Y ≠ 0), Int.ediv_eq_zero_of_lt hS0 hS1]; omega
    have fR : U % Y = T := by
      rw [eU, Int.add_mul_emod_self_left, Int.emod_eq_of_lt hS0 hS1]
    rw [eT, fQ, fR, fdiv_pos _ _ hP]
    congr 1
    simp only [IntKind.wrap_u64]; omega
noncomputable def div64_c {α : Type} (ds : List D) (Q : SV → Hp → Option α) : Option α :=
  dI ds fun hi ds => dI ds fun lo ds => dI ds fun y ds => dE ds (if (0 ≤ hi ∧ hi < y ∧ y < 18446744073709551616) ∧ 0 ≤ lo ∧ lo < 18446744073709551616 then
    Q (.tup [.int .u64 ((hi * 18446744073709551616 + lo) / y), .int .u64 ((hi * 18446744073709551616 + lo) % y)]) [] else none)
theorem div64_c_ok {α : Type} : FnOk E.P 69 (fEnt (α := α) div64_sp div64_c) :=
  fEnt_ok E look_lz64_ok (exec_sound E E_ok look_lz64_ok div64_l1_lps_ok 400) fun ds Q r h => by
    unfold div64_c at h
    obtain ⟨hi, ds, rfl, h1⟩ := dI_inv h
    obtain ⟨lo, ds, rfl, h2⟩ := dI_inv h1
    obtain ⟨y, ds, rfl, h3⟩ := dI_inv h2
    obtain ⟨rfl, hE⟩ := dE_inv h3
    split at hE
    · rename_i hc
      exact ⟨_, [], fun vs => by kernel_rfl, (div64_eq hi lo y Q).trans ((div64_val hi lo y hc.1.1 hc.1.2.1 hc.1.2.2 hc.2.1 hc.2.2 _).trans hE)⟩
    · cases hE
noncomputable def look_div64 {α : Type} : LookF α := addFn 69 (fEnt div64_sp div64_c) look_lz64
theorem look_div64_ok {α : Type} : LookOk E.P (look_div64 (α := α)) := addFn_ok div64_c_ok (look_lz64_ok)
end Go.Proofs.Ytkjellhkamfciaa.Sx
