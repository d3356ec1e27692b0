/- The document's own numbers: Plus. -/
import Derived.Test.YtkjellhkamfciaaFxR1
namespace Go.Proofs.Ytkjellhkamfciaa.Sx
open Go
set_option linter.unusedVariables false
set_option linter.unusedSimpArgs false
/-- Digit by digit: xs and m times ys and c. -/
def linL (m : Int) : List Int → List Int → Int → List Int
  | x :: xs, y :: ys, c => (x + m * y + c) % 16777216 :: linL m xs ys ((x + m * y + c) / 16777216)
  | _, _, _ => []
theorem linL_len (m : Int) : ∀ (xs ys : List Int) (c : Int), xs.length ≤ ys.length → (linL m xs ys c).length = xs.length
  | [], ys, c, _ => by simp [linL]
  | x :: xs, [], c, h => by simp at h
  | x :: xs, y :: ys, c, h => by simp only [linL, List.length_cons]; rw [linL_len m xs ys _ (by simpa using h)]
theorem linL_ok (m : Int) : ∀ (xs ys : List Int) (c : Int), okD (linL m xs ys c) = true
  | [], ys, c => by simp [linL, okD]
  | x :: xs, [], c => by simp [linL, okD]
  | x :: xs, y :: ys, c => by rw [linL, okD_cons]; exact ⟨by omega, linL_ok m xs ys _⟩
theorem linL_val (m : Int) : ∀ (xs ys : List Int) (c : Int), xs.length ≤ ys.length → val (linL m xs ys c) = (val xs + m * val ys + c) % 16777216 ^ xs.length
  | [], ys, c, _ => by simp [linL, val, Int.emod_one]
  | x :: xs, [], c, h => by simp at h
  | x :: xs, y :: ys, c, h => by
    rw [linL, val, linL_val m xs ys _ (by simpa using h), List.length_cons, pB1, ← mod_split _ _ _ (pB _)]
    congr 1
    simp only [val]
    grind
theorem drop_getD {a : List Int} {i : Nat} (h : i < a.length) : a.drop i = a.getD i 0 :: a.drop (i + 1) := by
  rw [List.drop_eq_getElem_cons h]; simp [List.getD_eq_getElem?_getD, h]
theorem linL_drop (m : Int) {a b : List Int} {i : Nat} (h1 : i < a.length) (h2 : i < b.length) (c : Int) :
    linL m (a.drop i) (b.drop i) c = (a.getD i 0 + m * b.getD i 0 + c) % 16777216 :: linL m (a.drop (i + 1)) (b.drop (i + 1)) ((a.getD i 0 + m * b.getD i 0 + c) / 16777216) := by
  rw [drop_getD h1, drop_getD h2, linL]
/-- A sum's sign and digits. -/
noncomputable def _root_.Go.Proofs.Ytkjellhkamfciaa.V.plN (an : Bool) (a : List Int) (bn : Bool) (b : List Int) : Bool := if an == bn then an else if val a < val b then bn else an
noncomputable def _root_.Go.Proofs.Ytkjellhkamfciaa.V.plD (an : Bool) (a : List Int) (bn : Bool) (b : List Int) : List Int := if an == bn then linL 1 a b 0 else if val a < val b then linL (-1) b a 0 else linL (-1) a b 0
/-- What a number of the document is worth. -/
def wv (n : Bool) (D : List Int) : Int := if n then -val D else val D
theorem plD_ok (an : Bool) {a : List Int} (bn : Bool) {b : List Int} (ha : V.ok8 a = true) (hb : V.ok8 b = true) : V.ok8 (V.plD an a bn b) = true := by
  rw [ok8_iff] at ha hb ⊢
  unfold V.plD
  split
  · exact ⟨by rw [linL_len _ _ _ _ (by omega)]; exact ha.1, linL_ok _ _ _ _⟩
  · split
    · exact ⟨by rw [linL_len _ _ _ _ (by omega)]; exact hb.1, linL_ok _ _ _ _⟩
    · exact ⟨by rw [linL_len _ _ _ _ (by omega)]; exact ha.1, linL_ok _ _ _ _⟩
theorem p8 : (16777216 : Int) ^ 8 = 6277101735386680763835789423207666416102355444464034512896 := by kernel_rfl
theorem pl_val (an : Bool) {a : List Int} (bn : Bool) {b : List Int} (ha : V.ok8 a = true) (hb : V.ok8 b = true) (h1 : val a + val b < 6277101735386680763835789423207666416102355444464034512896) :
    wv (V.plN an a bn b) (V.plD an a bn b) = wv an a + wv bn b ∧ val (V.plD an a bn b) ≤ val a + val b := by
  rw [ok8_iff] at ha hb
  have va := val_bound ha.2
  have vb := val_bound hb.2
  unfold V.plN V.plD wv
  cases hs : (an == bn) with
  | true =>
    have : an = bn := by simpa using hs
    subst this
    simp only [if_true]
    rw [linL_val 1 a b 0 (by omega), ha.1, p8, Int.one_mul, Int.add_zero, Int.emod_eq_of_lt (by omega) h1]
    cases an <;> simp <;> omega
  | false =>
    have hne : an = !bn := by cases an <;> cases bn <;> simp_all
    subst hne
    simp only [Bool.false_eq_true, if_false]
    by_cases h : val a < val b
    · simp only [h, if_true]
      rw [linL_val (-1) b a 0 (by omega), hb.1, p8, Int.emod_eq_of_lt (by omega) (by omega)]
      cases bn <;> simp <;> omega
    · simp only [h, if_false]
      rw [linL_val (-1) a b 0 (by omega), ha.1, p8, Int.emod_eq_of_lt (by omega) (by omega)]
      cases bn <;> simp <;> omega
end Go.Proofs.Ytkjellhkamfciaa.Sx
