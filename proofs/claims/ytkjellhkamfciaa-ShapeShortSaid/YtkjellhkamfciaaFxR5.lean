/- The document's own numbers: RootOf, Sum. -/
import Derived.Test.YtkjellhkamfciaaFxR4
namespace Go.Proofs.Ytkjellhkamfciaa.Sx
open Go
set_option linter.unusedVariables false
set_option linter.unusedSimpArgs false
theorem anyG_cons' (x : Int) (l : List Int) : V.anyG (x :: l) = (isG x || V.anyG l) := by simp [V.anyG]
theorem ofN_prod {x y : Int} (hx : isG x = false) (hy : isG y = false) : val (V.ofN x) * val (V.ofN y) ≤ 21267647932558653966460912964485513216 ∧ V.ok8 (V.tmD (V.ofN x) (V.ofN y)) = true ∧ val (V.tmD (V.ofN x) (V.ofN y)) ≤ 21267647932558653966460912964485513216 ∧
    wv (V.tmN (decide (x < 0)) (decide (y < 0))) (V.tmD (V.ofN x) (V.ofN y)) = x * y := by
  rw [isG_false] at hx hy
  have ex := ofN_val (n := x) (by omega)
  have ey := ofN_val (n := y) (by omega)
  have bx : 0 ≤ val (V.ofN x) ∧ val (V.ofN x) ≤ 4611686018427387903 := by rw [ex]; split <;> omega
  have bY : 0 ≤ val (V.ofN y) ∧ val (V.ofN y) ≤ 4611686018427387903 := by rw [ey]; split <;> omega
  have hp : val (V.ofN x) * val (V.ofN y) ≤ 4611686018427387903 * 4611686018427387903 := Int.mul_le_mul bx.2 bY.2 bY.1 (by omega)
  have ok := tmD_ok (ofN_ok x) (ofN_ok y)
  have hv := tmD_val (ofN_ok x) (ofN_ok y) (by omega)
  refine ⟨by omega, ok, by rw [hv]; omega, ?_⟩
  rw [tm_val _ _ (ofN_ok x) (ofN_ok y) (by omega)]
  unfold wv
  rw [ex, ey]
  by_cases h1 : x < 0 <;> by_cases h2 : y < 0 <;> simp [h1, h2]
theorem sq_ls {d : List Int} {t : Int} (hd : V.ok8 d = true) (h0 : 0 ≤ t) (h1 : t ≤ 4611686018427387904) (hs : val d < 1569275433846670190958947355801916604025588861116008628224) :
    V.two d (V.tmD (V.ofN t) (V.ofN t)) = true ∧ V.ls false d (V.tmN (decide (t < 0)) (decide (t < 0))) (V.tmD (V.ofN t) (V.ofN t)) = decide (val d < t * t) := by
  have ex := ofN_val (n := t) (by omega)
  rw [if_neg (by omega)] at ex
  have hp : t * t ≤ 4611686018427387904 * 4611686018427387904 := Int.mul_le_mul h1 h1 h0 (by omega)
  have ok := tmD_ok (ofN_ok t) (ofN_ok t)
  have hv := tmD_val (ofN_ok t) (ofN_ok t) (by rw [ex]; omega)
  rw [ex] at hv
  have hn : ¬ t < 0 := by omega
  refine ⟨?_, ?_⟩
  · unfold V.two
    rw [hd, ok, hv]
    simp only [Bool.and_self, Bool.true_and, decide_eq_true_eq]
    omega
  · unfold V.ls wv V.tmN
    simp [hn, hv]
theorem p62 : (2 : Int) ^ 62 = 4611686018427387904 := by kernel_rfl
theorem p61 : (2305843009213693952 : Int) = bitOf 62 := by kernel_rfl
theorem isq_big {x : Int} (h0 : 0 ≤ x) : (4611686018427387903 < V.isq x) ↔ ¬ x < 4611686018427387904 * 4611686018427387904 := by
  have hex : ∀ n : Nat, ∃ r : Int, 0 ≤ r ∧ r * r ≤ (n : Int) ∧ (n : Int) < (r + 1) * (r + 1) := by
    intro n
    induction n with
    | zero => exact ⟨0, by decide, by decide, by decide⟩
    | succ n ih =>
      obtain ⟨r, h0, h1, h2⟩ := ih
      by_cases h : ((n + 1 : Nat) : Int) < (r + 1) * (r + 1)
      · exact ⟨r, h0, by push_cast; omega, h⟩
      · refine ⟨r + 1, by omega, by omega, ?_⟩
        have e : (r + 1 + 1) * (r + 1 + 1) = (r + 1) * (r + 1) + 2 * r + 3 := by grind
        push_cast at h ⊢
        omega
  obtain ⟨n, rfl⟩ := Int.eq_ofNat_of_zero_le h0
  obtain ⟨r, hr⟩ := hex n
  rw [isq_eq hr]
  constructor
  · intro h
    have : 4611686018427387904 * 4611686018427387904 ≤ r * r := Int.mul_le_mul (by omega) (by omega) (by omega) (by omega)
    omega
  · intro h
    by_cases hlt : 4611686018427387903 < r
    · exact hlt
    · have : (r + 1) * (r + 1) ≤ 4611686018427387904 * 4611686018427387904 := Int.mul_le_mul (by omega) (by omega) (by omega) (by omega)
      omega
def _root_.Go.Proofs.Ytkjellhkamfciaa.V.vl (d : List Int) : Int := val d
noncomputable def smF : List Int → List Int → Bool → List Int → Bool × List Int
  | x :: a, y :: b, n, D => smF a b (V.plN n D (V.tmN (decide (x < 0)) (decide (y < 0))) (V.tmD (V.ofN x) (V.ofN y))) (V.plD n D (V.tmN (decide (x < 0)) (decide (y < 0))) (V.tmD (V.ofN x) (V.ofN y)))
  | _, _, n, D => (n, D)
theorem smF_val : ∀ (a b : List Int) (n : Bool) (D : List Int) (K : Nat), V.anyG a = false → V.anyG b = false → V.ok8 D = true → val D ≤ 21267647932558653966460912964485513216 * (K : Int) → K + a.length ≤ 16 →
    V.ok8 (smF a b n D).2 = true ∧ wv (smF a b n D).1 (smF a b n D).2 = wv n D + V.dotZ a b ∧ val (smF a b n D).2 ≤ 21267647932558653966460912964485513216 * ((K + a.length : Nat) : Int)
  | [], b, n, D, K, _, _, hD, hv, hK => by simp [smF, V.dotZ, hD]; exact hv
  | x :: a, [], n, D, K, _, _, hD, hv, hK => by simp [smF, V.dotZ, hD]; omega
  | x :: a, y :: b, n, D, K, ha, hb, hD, hv, hK => by
    rw [anyG_cons', Bool.or_eq_false_iff] at ha hb
    obtain ⟨p1, p2, p3, p4⟩ := ofN_prod ha.1 hb.1
    simp only [List.length_cons] at hK ⊢
    obtain ⟨q1, q2⟩ := pl_val n (V.tmN (decide (x < 0)) (decide (y < 0))) hD p2 (by omega)
    have ok := plD_ok n (V.tmN (decide (x < 0)) (decide (y < 0))) hD p2
    obtain ⟨r1, r2, r3⟩ := smF_val a b _ _ (K + 1) ha.2 hb.2 ok (by push_cast; omega) (by omega)
    rw [smF]
    refine ⟨r1, ?_, ?_⟩
    · rw [r2, q1, p4]
      simp only [V.dotZ, List.zipWith_cons_cons, List.sum_cons]
      omega
    · rw [show K + (a.length + 1) = K + 1 + a.length by omega]; exact r3
theorem smF_sq : ∀ (a : List Int) (D : List Int), (smF a a false D).1 = false
  | [], D => rfl
  | x :: a, D => by
    rw [smF]
    have : V.plN false D (V.tmN (decide (x < 0)) (decide (x < 0))) (V.tmD (V.ofN x) (V.ofN x)) = false := by unfold V.plN V.tmN; simp
    rw [this]
    exact smF_sq a _
theorem smF_drop (a b : List Int) (i : Nat) (h1 : i < a.length) (h2 : i < b.length) (n : Bool) (D : List Int) :
    smF (a.drop i) (b.drop i) n D = smF (a.drop (i + 1)) (b.drop (i + 1)) (V.plN n D (V.tmN (decide (a.getD i 0 < 0)) (decide (b.getD i 0 < 0))) (V.tmD (V.ofN (a.getD i 0)) (V.ofN (b.getD i 0)))) (V.plD n D (V.tmN (decide (a.getD i 0 < 0)) (decide (b.getD i 0 < 0))) (V.tmD (V.ofN (a.getD i 0)) (V.ofN (b.getD i 0)))) := by
  rw [drop_getD h1, drop_getD h2, smF]
theorem anyG_getG {l : List Int} (h : V.anyG l = false) (i : Nat) : isG (l.getD i 0) = false := by
  unfold V.anyG at h
  by_cases hi : i < l.length
  · have := List.any_eq_false.1 h (l[i]) (List.getElem_mem hi)
    simpa [List.getD_eq_getElem?_getD, hi] using this
  · have e : l.getD i 0 = 0 := by simp [List.getD_eq_getElem?_getD, hi]
    rw [e]; decide
noncomputable def _root_.Go.Proofs.Ytkjellhkamfciaa.V.smN (a b : List Int) : Bool := (smF a b false (List.replicate 8 0)).1
noncomputable def _root_.Go.Proofs.Ytkjellhkamfciaa.V.smD (a b : List Int) : List Int := (smF a b false (List.replicate 8 0)).2
end Go.Proofs.Ytkjellhkamfciaa.Sx
