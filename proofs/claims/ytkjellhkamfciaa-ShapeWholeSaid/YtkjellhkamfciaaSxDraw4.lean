/- SX: regions whose order is open: each order is followed. -/
import Derived.Test.YtkjellhkamfciaaSxDraw3
namespace Go.Proofs.Ytkjellhkamfciaa.Sx
open Go Go.RowKit

def vF (recs : List Rec) (F0 : Fr) (n : Nat) (X : Nat → Bool) (d : Nat) : Option SV := fw (wF recs F0.length d) X (getF F0 d) n
def vH (recs : List Rec) (st : Nat → St) (n : Nat) (X : Nat → Bool) (t : Nat) : Option SObj := fw (wH recs st t) X ((st 0).H[t]?) n
def hpX (recs : List Rec) (st : Nat → St) (n N : Nat) (X : Nat → Bool) : Hp := (List.range N).map fun t => (vH recs st n X t).getD .dead
def frX (recs : List Rec) (F0 : Fr) (n : Nat) (X : Nat → Bool) : Fr := (List.range F0.length).map fun d => vF recs F0 n X d
def lX (listed : Array Bool) : Nat → Bool := fun k => listed.getD k false

structure DInv (C : Cx) (ops : Array Oper) (B : Nat) (F0 : Fr) (st : Nat → St) (recs : List Rec) (ρ0 : Nat → Tk) (d0 : List Deferred) (listed : Array Bool) (ρ : Nat → Tk) (a : Act) (w : World) : Prop where
  lsize : listed.size = ops.size
  closed : ∀ j o, ops[j]? = some o → lX listed j = true → ∀ e ∈ edgesOf o, lX listed e = true
  defers : a.defers = d0
  size : a.tmps.size = F0.length
  val : ∀ d v, vF recs F0 ops.size (lX listed) d = some v → a.tmps[d]? = some (den ρ v) ∧ v.ok C.R C.w1 ρ (B + ops.size)
  heap : Rel C ρ (hpX recs st ops.size (B + ops.size) (lX listed)) w
  agree : ∀ t, t < B → ρ t = ρ0 t

theorem mem_edges {o : Oper} {e : Nat} : e ∈ edgesOf o ↔ ∃ x ∈ o.after, Region.binds .any x = true ∧ x.on = e := by
  unfold edgesOf
  simp only [List.mem_map, List.mem_filter, Array.mem_toList_iff]
  constructor
  · rintro ⟨x, ⟨h1, h2⟩, h3⟩; exact ⟨x, h1, h2, h3⟩
  · rintro ⟨x, h1, h2, h3⟩; exact ⟨x, ⟨h1, h2⟩, h3⟩

section
variable {P : Program} {ops : Array Oper} {B : Nat} {F0 : Fr} {H0 : Hp} {st : Nat → St} {recs : List Rec} {ancs : List (List Nat)} (W : Whole P ops B F0 H0 st recs ancs)
include W

theorem Whole.vH_some (X : Nat → Bool) {t : Nat} (ht : t < B + ops.size) : ∃ o, vH recs st ops.size X t = some o := by
  unfold vH
  rcases fw_cases (w := wH recs st t) (X := X) (init := (st 0).H[t]?) ops.size with h | ⟨k, hk, _, h⟩
  · rw [h]
    have := (W.lens 0 (by omega)).2
    exact ⟨_, List.getElem?_eq_getElem (by omega)⟩
  · cases hh : fw (wH recs st t) X ((st 0).H[t]?) ops.size with
    | some o => exact ⟨o, rfl⟩
    | none =>
      rw [hh] at h
      unfold wH at h
      split at h
      · have := (W.lens (k + 1) (by omega)).2
        simp only [Option.some.injEq] at h
        rw [List.getElem?_eq_getElem (by omega)] at h; cases h
      · cases h
theorem Whole.hpX_get (X : Nat → Bool) {t : Nat} (ht : t < B + ops.size) : (hpX recs st ops.size (B + ops.size) X)[t]? = vH recs st ops.size X t := by
  obtain ⟨o, ho⟩ := W.vH_some X ht
  unfold hpX
  rw [List.getElem?_map, List.getElem?_range ht]
  simp [ho]
omit W in
theorem hpX_length (X : Nat → Bool) : (hpX recs st ops.size (B + ops.size) X).length = B + ops.size := by simp [hpX]
omit W in
theorem frX_get (X : Nat → Bool) (d : Nat) : getF (frX recs F0 ops.size X) d = vF recs F0 ops.size X d := by
  unfold frX getF
  by_cases hd : d < F0.length
  · rw [List.getElem?_map, List.getElem?_range hd]; rfl
  · rw [List.getElem?_eq_none (by simpa using hd)]
    unfold vF
    rcases fw_cases (w := wF recs F0.length d) (X := X) (init := getF F0 d) ops.size with h | ⟨k, _, _, h⟩
    · rw [h]; unfold getF; rw [List.getElem?_eq_none (by omega)]
    · unfold wF at h
      rw [if_neg (fun hc => hd hc.2)] at h; cases h

/-- What is mentioned has been made. -/
theorem Whole.visF {X : Nat → Bool} (hcl : ∀ j, j < ops.size → X j = true → ∀ i ∈ ancs.getD j [], X i = true) (h0 : ∀ d v, getF F0 d = some v → ∀ t, t ∈ v.toks → t < B) :
    ∀ d v, vF recs F0 ops.size X d = some v → ∀ t, t ∈ v.toks → t < B ∨ X (t - B) = true := by
  intro d v hv t ht
  rcases fw_cases (w := wF recs F0.length d) (X := X) (init := getF F0 d) ops.size with h | ⟨k, hk, hX, h⟩
  · exact .inl (h0 d v (by rw [← h]; exact hv) t ht)
  · unfold vF at hv
    rw [hv] at h
    unfold wF at h
    split at h
    · simp only [Option.some.injEq] at h
      rcases W.vis hk t (.inl (by rw [h]; exact ht)) with h1 | h1 | h1
      · exact .inl h1
      · exact .inr (by rw [h1, show B + k - B = k by omega]; exact hX)
      · exact .inr (hcl k hk hX _ h1)
    · cases h
theorem Whole.visH {X : Nat → Bool} (hcl : ∀ j, j < ops.size → X j = true → ∀ i ∈ ancs.getD j [], X i = true) (h0 : ∀ (t : Nat) (o : SObj), H0[t]? = some o → ∀ s, s ∈ o.toks → s < B) :
    ∀ (t : Nat) (o : SObj), (hpX recs st ops.size (B + ops.size) X)[t]? = some o → ∀ s, s ∈ o.toks → s < B ∨ X (s - B) = true := by
  intro t o ho s hs
  have ht : t < B + ops.size := by have := (List.getElem?_eq_some_iff.1 ho).1; rwa [hpX_length] at this
  rw [W.hpX_get X ht] at ho
  rcases fw_cases (w := wH recs st t) (X := X) (init := (st 0).H[t]?) ops.size with h | ⟨k, hk, hX, h⟩
  · unfold vH at ho
    rw [h, W.init] at ho
    simp only at ho
    by_cases hB : t < H0.length
    · rw [List.getElem?_append_left hB] at ho
      exact .inl (h0 t o ho s hs)
    · rw [List.getElem?_append_right (by omega), List.getElem?_replicate] at ho
      split at ho
      · cases ho; simp [SObj.toks] at hs
      · cases ho
  · unfold vH at ho
    rw [ho] at h
    unfold wH at h
    split at h
    · rename_i hc
      simp only [Option.some.injEq] at h
      obtain ⟨ok, _, hst⟩ := W.stepAt hk
      have hl : s ∈ (recs.getD k dRec).left := by rw [hst.left]; exact mem_toksAt (hst.WT (memN_iff.1 hc)) h hs
      rcases W.vis hk s (.inr hl) with h1 | h1 | h1
      · exact .inl h1
      · exact .inr (by rw [h1, show B + k - B = k by omega]; exact hX)
      · exact .inr (hcl k hk hX _ h1)
    · cases h

/-- A slot that an operation reads or writes holds what it holds in the order of the text. -/
theorem Whole.slot {X : Nat → Bool} {j : Nat} {oj : Oper} (hj : j < ops.size) (hoj : ops[j]? = some oj) (hXj : X j = false) (hah : ∀ i ∈ ancs.getD j [], X i = true) (hcl : ∀ j, j < ops.size → X j = true → ∀ i ∈ ancs.getD j [], X i = true)
    {d : Nat} (hd : ∀ (i : Nat) (oi : Oper), ops[i]? = some oi → (recs.getD i dRec).dst = some d → (clash ops oi oj (recs.getD i dRec) (recs.getD j dRec) = true ∧ clash ops oj oi (recs.getD j dRec) (recs.getD i dRec) = true)) :
    ∀ k, k < ops.size → wF recs F0.length d k ≠ none → X k = decide (k < j) := by
  intro k hk hw
  obtain ⟨ok, hok, _⟩ := W.stepAt hk
  have hdst : (recs.getD k dRec).dst = some d := by
    unfold wF at hw
    split at hw
    · rename_i h; exact h.1
    · exact absurd rfl hw
  obtain ⟨c1, c2⟩ := hd k ok hok hdst
  rcases Nat.lt_trichotomy k j with h | h | h
  · rw [decide_eq_true h]; exact hah k (W.conf h hj hok hoj c1)
  · subst h; simp [hXj]
  · rw [decide_eq_false (by omega)]
    cases hx : X k with
    | false => rfl
    | true => rw [hcl k hk hx j (W.conf h hk hoj hok c2)] at hXj; cases hXj
theorem Whole.tok {X : Nat → Bool} {j : Nat} {oj : Oper} (hj : j < ops.size) (hoj : ops[j]? = some oj) (hXj : X j = false) (hah : ∀ i ∈ ancs.getD j [], X i = true) (hcl : ∀ j, j < ops.size → X j = true → ∀ i ∈ ancs.getD j [], X i = true)
    {t : Nat} (ht : t ∈ (recs.getD j dRec).T) : ∀ k, k < ops.size → wH recs st t k ≠ none → X k = decide (k < j) := by
  intro k hk hw
  obtain ⟨ok, hok, _⟩ := W.stepAt hk
  have hT : t ∈ (recs.getD k dRec).W := by
    unfold wH at hw
    split at hw
    · rename_i h; exact memN_iff.1 h
    · exact absurd rfl hw
  rcases Nat.lt_trichotomy k j with h | h | h
  · rw [decide_eq_true h]
    exact hah k (W.conf h hj hok hoj (by simp only [clash, meets_of hT ht, Bool.true_or, Bool.or_true]))
  · subst h; simp [hXj]
  · rw [decide_eq_false (by omega)]
    cases hx : X k with
    | false => rfl
    | true => rw [hcl k hk hx j (W.conf h hk hoj hok (by simp only [clash, meets_of hT ht, Bool.or_true]))] at hXj; cases hXj
theorem Whole.heapAt {X : Nat → Bool} {j : Nat} {oj : Oper} (hj : j < ops.size) (hoj : ops[j]? = some oj) (hXj : X j = false) (hah : ∀ i ∈ ancs.getD j [], X i = true) (hcl : ∀ j, j < ops.size → X j = true → ∀ i ∈ ancs.getD j [], X i = true)
    {t : Nat} (ht : t ∈ (recs.getD j dRec).T) (hlt : t < B + ops.size) : vH recs st ops.size X t = (st j).H[t]? := by
  unfold vH
  rw [W.textH t hlt j (by omega), ← fw_all (w := wH recs st t) (init := (st 0).H[t]?) (j := j) (n := ops.size) (by omega)]
  exact fw_agree (W.tok hj hoj hXj hah hcl ht)

/-- Behind the step. -/
theorem Whole.slotNext {X : Nat → Bool} {j : Nat} {oj : Oper} (hj : j < ops.size) (hoj : ops[j]? = some oj) (hXj : X j = false) (hah : ∀ i ∈ ancs.getD j [], X i = true) (hcl : ∀ j, j < ops.size → X j = true → ∀ i ∈ ancs.getD j [], X i = true)
    {X' : Nat → Bool} (hX' : ∀ k, X' k = if k = j then true else X k) (d : Nat) : vF recs F0 ops.size X' d = if (recs.getD j dRec).dst = some d ∧ d < F0.length then some (recs.getD j dRec).v else vF recs F0 ops.size X d := by
  by_cases hd : (recs.getD j dRec).dst = some d ∧ d < F0.length
  · rw [if_pos hd]
    have hag : ∀ k, k < ops.size → wF recs F0.length d k ≠ none → X' k = decide (k < j + 1) := fun k hk hw => by
      have hs := W.slot hj hoj hXj hah hcl (d := d) (fun i oi hoi hdi => by
        have e1 : sameDst (recs.getD i dRec).dst (recs.getD j dRec).dst = true := by rw [hdi, hd.1]; exact Nat.beq_refl d
        have e2 : sameDst (recs.getD j dRec).dst (recs.getD i dRec).dst = true := by rw [hdi, hd.1]; exact Nat.beq_refl d
        simp only [clash, e1, e2, Bool.or_true, Bool.true_or, and_self]) k hk hw
      rw [hX' k]
      split
      · rename_i e; subst e; simp
      · rw [hs]; by_cases h : k < j
        · simp [h]; omega
        · simp [h]; omega
    unfold vF
    rw [fw_agree hag, fw_all (by omega)]
    simp only [fw, if_true, wF, if_pos hd]
  · rw [if_neg hd]
    unfold vF
    refine fw_agree fun k hk hw => ?_
    rw [hX' k, if_neg]
    intro e; subst e
    exact hw (by unfold wF; rw [if_neg hd])
theorem Whole.tokNext {X : Nat → Bool} {j : Nat} {oj : Oper} (hj : j < ops.size) (hoj : ops[j]? = some oj) (hXj : X j = false) (hah : ∀ i ∈ ancs.getD j [], X i = true) (hcl : ∀ j, j < ops.size → X j = true → ∀ i ∈ ancs.getD j [], X i = true)
    {X' : Nat → Bool} (hX' : ∀ k, X' k = if k = j then true else X k) {t : Nat} (ht : t < B + ops.size) : vH recs st ops.size X' t = if t ∈ (recs.getD j dRec).W then (st (j + 1)).H[t]? else vH recs st ops.size X t := by
  by_cases hd : t ∈ (recs.getD j dRec).W
  · rw [if_pos hd]
    have hag : ∀ k, k < ops.size → wH recs st t k ≠ none → X' k = decide (k < j + 1) := fun k hk hw => by
      have hs := W.tok hj hoj hXj hah hcl (by obtain ⟨_, _, hst⟩ := W.stepAt hj; exact hst.WT hd) k hk hw
      rw [hX' k]
      split
      · rename_i e; subst e; simp
      · rw [hs]; by_cases h : k < j
        · simp [h]; omega
        · simp [h]; omega
    unfold vH
    rw [fw_agree hag, fw_all (by omega), W.textH t ht (j + 1) (by omega)]
  · rw [if_neg hd]
    unfold vH
    refine fw_agree fun k hk hw => ?_
    rw [hX' k, if_neg]
    intro e; subst e
    exact hw (by
      unfold wH
      rw [if_neg fun h => hd (memN_iff.1 h)])
end
end Go.Proofs.Ytkjellhkamfciaa.Sx
