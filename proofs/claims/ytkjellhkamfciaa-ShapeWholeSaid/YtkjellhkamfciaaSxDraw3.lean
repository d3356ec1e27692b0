/- SX: regions whose order is open: the theorem. -/
import Derived.Test.YtkjellhkamfciaaSxDraw2
namespace Go.Proofs.Ytkjellhkamfciaa.Sx
open Go Go.RowKit

/-- A run in the order of the text, whole, with the look at its records. -/
structure Whole (P : Program) (ops : Array Oper) (B : Nat) (F0 : Fr) (H0 : Hp) (st : Nat → St) (recs : List Rec) (ancs : List (List Nat)) : Prop where
  len : H0.length = B
  init : st 0 = ⟨F0, H0 ++ List.replicate ops.size .dead⟩
  step : ∀ k, k < ops.size → ∃ o rec, ops[k]? = some o ∧ recs[k]? = some rec ∧ StepD P ops B (B + ops.size) k o (st k) rec (st (k + 1))
  anc : ancL ops.toList [] = some ancs
  ok : allOk ops B ancs ops.toList recs 0 ops.toList recs = true

def dRec : Rec := ⟨none, .raw undef, [], [], []⟩
def wF (recs : List Rec) (n d k : Nat) : Option (Option SV) := if (recs.getD k dRec).dst = some d ∧ d < n then some (some (recs.getD k dRec).v) else none
def wH (recs : List Rec) (st : Nat → St) (t k : Nat) : Option (Option SObj) := if memN t (recs.getD k dRec).W then some ((st (k + 1)).H[t]?) else none

section
variable {P : Program} {ops : Array Oper} {B : Nat} {F0 : Fr} {H0 : Hp} {st : Nat → St} {recs : List Rec} {ancs : List (List Nat)} (W : Whole P ops B F0 H0 st recs ancs)
include W

theorem Whole.stepAt {k : Nat} (hk : k < ops.size) : ∃ o, ops[k]? = some o ∧ StepD P ops B (B + ops.size) k o (st k) (recs.getD k dRec) (st (k + 1)) := by
  obtain ⟨o, rec, h1, h2, h3⟩ := W.step k hk
  exact ⟨o, h1, by rw [List.getD_eq_getElem?_getD, h2]; exact h3⟩
theorem Whole.recAt {k : Nat} (hk : k < ops.size) : recs[k]? = some (recs.getD k dRec) := by
  obtain ⟨o, rec, h1, h2, h3⟩ := W.step k hk
  rw [List.getD_eq_getElem?_getD, h2]; rfl
theorem Whole.lens : ∀ k, k ≤ ops.size → (st k).F.length = F0.length ∧ (st k).H.length = B + ops.size
  | 0, _ => by rw [W.init]; exact ⟨rfl, by simp [W.len]⟩
  | k + 1, h => by
    obtain ⟨h1, h2⟩ := Whole.lens k (by omega)
    obtain ⟨o, _, hs⟩ := W.stepAt (k := k) (by omega)
    refine ⟨by rw [hs.F, put_length]; exact h1, ?_⟩
    rcases hs.step with ⟨_, _, _, _, e⟩ | ⟨_, T, v, M, _, _, ⟨e1, _, e2, _⟩ | ⟨x, _, e1, _, _, _, _, e2, _⟩⟩
    · rw [e]; exact h2
    · rw [e2, mergeH_length (by omega)]; exact h2
    · rw [e2, List.length_set]
      split
      · rw [mergeH_length (by rw [List.length_map]; omega)]; exact h2
      · exact h2

theorem Whole.textF (d : Nat) : ∀ j, j ≤ ops.size → getF (st j).F d = fw (wF recs F0.length d) (fun _ => true) (getF F0 d) j
  | 0, _ => by rw [W.init]; rfl
  | j + 1, h => by
    obtain ⟨o, _, hs⟩ := W.stepAt (k := j) (by omega)
    have ih := Whole.textF d j (by omega)
    rw [hs.F, getF_put, (W.lens j (by omega)).1, ← hs.dst]
    simp only [fw, if_true, wF]
    split
    · rfl
    · exact ih
theorem Whole.textH (t : Nat) (ht : t < B + ops.size) : ∀ j, j ≤ ops.size → (st j).H[t]? = fw (wH recs st t) (fun _ => true) ((st 0).H[t]?) j
  | 0, _ => rfl
  | j + 1, h => by
    obtain ⟨o, _, hs⟩ := W.stepAt (k := j) (by omega)
    have ih := Whole.textH t ht j (by omega)
    have hlen := (W.lens j (by omega)).2
    simp only [fw, if_true, wH]
    split
    · rename_i b hb
      split at hb
      · cases hb; rfl
      · cases hb
    · rename_i hb
      rw [← ih]
      split at hb
      · cases hb
      rename_i hc
      rcases hs.step with ⟨_, _, _, _, e⟩ | ⟨_, T, v, M, _, hq, ⟨e1, _, e2, e3, e4⟩ | ⟨x, _, e1, _, _, _, _, e2, e3, e4⟩⟩
      · rw [e]
      · rw [e2, mergeH_get (by omega), if_pos (by omega), Nat.zero_add]
        split
        · rename_i hT
          have hw : isWr o = false := by
            cases hw : isWr o with
            | false => rfl
            | true => rw [e4, hw, if_pos rfl] at hc; exact absurd hT hc
          obtain ⟨l, hl⟩ := hq hw
          rw [hl, List.getElem?_append_left (by rw [maskH_length]; omega), maskH_get]
          simp only [Nat.zero_add, hT, if_true, Option.map_id']
        · rfl
      · rw [e4] at hc
        have h1 : t ≠ B + j := fun e => hc (memN_iff.2 (by simp [e]))
        rw [e2, List.getElem?_set_ne (Ne.symm h1)]
        cases hw : isWr o with
        | false => rfl
        | true =>
          rw [hw, if_pos rfl] at hc
          have h2 : ¬ (memN t T = true) := fun hm => hc (memN_iff.2 (List.mem_cons_of_mem _ (memN_iff.1 hm)))
          rw [if_pos rfl, mergeH_get (by rw [List.length_map]; omega), if_pos (by omega), Nat.zero_add, if_neg h2]

theorem Whole.ancs_spec : ∀ k o, ops[k]? = some o → (∀ e ∈ edgesOf o, e < k) ∧ ∀ x, x ∈ ancs.getD k [] ↔ ∃ e ∈ edgesOf o, x = e ∨ x ∈ ancs.getD e [] := by
  intro k o hk
  obtain ⟨_, _, h3⟩ := ancL_spec W.anc
  have := h3 k o (by rw [Array.getElem?_toList]; exact hk)
  simpa using this

/-- Two operations that meet stand in the text's order in every order. -/
theorem Whole.conf {i j : Nat} (hij : i < j) (hj : j < ops.size) {oi oj : Oper} (hoi : ops[i]? = some oi) (hoj : ops[j]? = some oj) (hc : clash ops oi oj (recs.getD i dRec) (recs.getD j dRec) = true) : i ∈ ancs.getD j [] := by
  have h1 := allOk_spec W.ok j oj _ (by rw [Array.getElem?_toList]; exact hoj) (W.recAt hj)
  rw [Nat.zero_add] at h1
  have h2 := noClash_spec h1.1 i oi (recs.getD i dRec) (by rw [List.getElem?_take, if_pos hij, Array.getElem?_toList]; exact hoi) (by rw [List.getElem?_take, if_pos hij]; exact W.recAt (by omega))
  rw [Nat.zero_add] at h2
  rcases h2 with h2 | h2
  · exact h2
  · rw [hc] at h2; cases h2
theorem Whole.vis {j : Nat} (hj : j < ops.size) : ∀ t, t ∈ (recs.getD j dRec).v.toks ∨ t ∈ (recs.getD j dRec).left → t < B ∨ t = B + j ∨ (t - B) ∈ ancs.getD j [] := by
  obtain ⟨o, ho, _⟩ := W.stepAt hj
  have h1 := allOk_spec W.ok j o _ (by rw [Array.getElem?_toList]; exact ho) (W.recAt hj)
  rw [Nat.zero_add] at h1
  intro t ht
  exact visible_spec h1.2 t (by simpa using ht)

/-- What is closed under the edges is closed under what stands ahead. -/
theorem Whole.closed {X : Nat → Bool} (hX : ∀ j o, ops[j]? = some o → X j = true → ∀ e ∈ edgesOf o, X e = true) : ∀ j, j < ops.size → X j = true → ∀ i ∈ ancs.getD j [], X i = true := by
  intro j
  induction j using Nat.strongRecOn with
  | _ j ih =>
    intro hj hXj i hi
    obtain ⟨o, ho, _⟩ := W.stepAt hj
    obtain ⟨h1, h2⟩ := W.ancs_spec j o ho
    obtain ⟨e, he, hx⟩ := (h2 i).1 hi
    have hel := h1 e he
    have hXe := hX j o ho hXj e he
    rcases hx with rfl | hx
    · exact hXe
    · exact ih e hel (by omega) hXe i hx
theorem Whole.ahead {X : Nat → Bool} (hX : ∀ j o, ops[j]? = some o → X j = true → ∀ e ∈ edgesOf o, X e = true) {j : Nat} {o : Oper} (ho : ops[j]? = some o) (hp : ∀ e ∈ edgesOf o, X e = true) : ∀ i ∈ ancs.getD j [], X i = true := by
  intro i hi
  have hj := (Array.getElem?_eq_some_iff.1 ho).1
  obtain ⟨h1, h2⟩ := W.ancs_spec j o ho
  obtain ⟨e, he, hx⟩ := (h2 i).1 hi
  rcases hx with rfl | hx
  · exact hp _ he
  · exact W.closed hX e (by have := h1 e he; omega) (hp e he) i hx
end
end Go.Proofs.Ytkjellhkamfciaa.Sx
