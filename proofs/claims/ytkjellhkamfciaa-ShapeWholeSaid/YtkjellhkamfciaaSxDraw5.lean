/- SX: regions whose order is open: one step in whatever order. -/
import Derived.Test.YtkjellhkamfciaaSxDraw4
namespace Go.Proofs.Ytkjellhkamfciaa.Sx
open Go Go.RowKit

theorem getF_some {F : Fr} {d : Nat} {v : SV} (h : F[d]? = some (some v)) : getF F d = some v := by unfold getF; rw [h]; rfl
theorem some_getF {F : Fr} {d : Nat} {v : SV} (h : getF F d = some v) : F[d]? = some (some v) := by
  unfold getF at h
  cases hq : F[d]? with
  | none => simp [hq] at h
  | some y => cases y <;> simp_all

section
variable {P : Program} {ops : Array Oper} {B : Nat} {F0 : Fr} {H0 : Hp} {st : Nat → St} {recs : List Rec} {ancs : List (List Nat)} (W : Whole P ops B F0 H0 st recs ancs)
include W

theorem Whole.step_any (hF0 : ∀ d v, getF F0 d = some v → ∀ t, t ∈ v.toks → t < B) (hH0 : ∀ (t : Nat) (o : SObj), H0[t]? = some o → ∀ s, s ∈ o.toks → s < B)
    {C : Cx} {ρ0 : Nat → Tk} {d0 : List Deferred} {listed : Array Bool} {ρ : Nat → Tk} {a : Act} {w : World} (I : DInv C ops B F0 st recs ρ0 d0 listed ρ a w)
    {j : Nat} {o : Oper} (hoj : ops[j]? = some o) (hun : lX listed j = false) (hpre : ∀ e ∈ edgesOf o, lX listed e = true)
    {Q : Exit → Act → World → Prop} {K : Act → World → Prop} (hK : ∀ ρ' a' w', DInv C ops B F0 st recs ρ0 d0 (listed.setIfInBounds j true) ρ' a' w' → K a' w') : wpOp P ops Q j K a w := by
  have hj := (Array.getElem?_eq_some_iff.1 hoj).1
  have hcl := W.closed I.closed
  have hah := W.ahead I.closed hoj hpre
  obtain ⟨o', ho', hst⟩ := W.stepAt hj
  have : o' = o := by rw [hoj] at ho'; exact (Option.some.inj ho').symm
  subst this
  obtain ⟨lF, lH⟩ := W.lens j (by omega)
  have hX' : ∀ k, lX (listed.setIfInBounds j true) k = if k = j then true else lX listed k := fun k => by
    unfold lX
    by_cases e : k = j
    · subst e; rw [if_pos rfl]; simp [I.lsize, hj]
    · rw [if_neg e, getD_set_ne false (Ne.symm e)]
  have hcl' : ∀ i oi, ops[i]? = some oi → lX (listed.setIfInBounds j true) i = true → ∀ e ∈ edgesOf oi, lX (listed.setIfInBounds j true) e = true := fun i oi hi hx e he => by
    rw [hX' e]
    split
    · rfl
    · rw [hX' i] at hx
      split at hx
      · rename_i e1; subst e1
        have : oi = o' := by rw [hoj] at hi; exact (Option.some.inj hi).symm
        subst this; exact hpre e he
      · exact I.closed i oi hi hx e he
  -- the slots that are read
  have hread : ∀ d, d ∈ readsOf ops o' → vF recs F0 ops.size (lX listed) d = getF (st j).F d := fun d hd => by
    rw [W.textF d j (by omega), ← fw_all (w := wF recs F0.length d) (init := getF F0 d) (j := j) (n := ops.size) (by omega)]
    refine fw_agree (W.slot hj hoj hun hah hcl fun i oi hoi hdi => ?_)
    have e1 : dstIn (recs.getD i dRec).dst (readsOf ops o') = true := by rw [hdi]; exact memN_iff.2 hd
    simp only [clash, e1, Bool.or_true, Bool.true_or, and_self]
  have hvis := W.visF hcl hF0
  have hvisH := W.visH hcl hH0
  -- the guard
  have hguard : ∀ b, guardLit ops o' (st j).F = some b → Region.wanted o' (yielded ops a.tmps) = b := by
    intro b hb
    unfold guardLit at hb
    unfold Region.wanted
    split at hb
    · rename_i hg; rw [hg]; simpa using hb
    · rename_i g want hg
      rw [hg]
      simp only
      unfold guardOf at hb
      cases hd : (ops[g]?).bind (·.dst) with
      | none => rw [hd] at hb; cases hb
      | some d =>
        rw [hd] at hb
        have hdr : d ∈ readsOf ops o' := by unfold readsOf; rw [hg]; simp [hd]
        have hv := hread d hdr
        rw [yielded_of hd]
        cases hF : (st j).F[d]? with
        | none => simp [hF] at hb
        | some y =>
          cases y with
          | none => simp [hF] at hb
          | some v =>
            rw [getF_some hF] at hv
            have hval := (I.val d v hv).1
            simp only [hF] at hb
            cases v with
            | bool c => simp at hb; subst hb; rw [hval]; simp [den]
            | raw u =>
              cases u with
              | tuple vs => simp at hb; subst hb; rw [hval]; simp [den]
              | _ => simp at hb
            | _ => simp at hb
  -- what is to be shown behind the operation
  have finish : ∀ (ρ' : Nat → Tk) (a' : Act) (w' : World), a' = a.put o'.dst (den ρ' (recs.getD j dRec).v) → (∀ t, (t < B ∨ lX listed (t - B) = true) → t < B + ops.size → ρ' t = ρ t) → (recs.getD j dRec).v.ok C.R C.w1 ρ' (B + ops.size) →
      Rel C ρ' (hpX recs st ops.size (B + ops.size) (lX (listed.setIfInBounds j true))) w' → K a' w' := by
    intro ρ' a' w' ha hr hv hR
    subst ha
    refine hK ρ' _ w' ⟨by simp [I.lsize], hcl', by rw [put_defers]; exact I.defers, ?_, fun d v hdv => ?_, hR, fun t ht => by rw [hr t (.inl ht) (by omega)]; exact I.agree t ht⟩
    · cases o'.dst <;> simp [Act.put, I.size]
    · rw [W.slotNext hj hoj hun hah hcl hX' d] at hdv
      split at hdv
      · rename_i hc
        simp only [Option.some.injEq] at hdv
        subst hdv
        refine ⟨?_, hv⟩
        rw [← hst.dst, hc.1]
        simp [Act.put, I.size, hc.2]
      · rename_i hc
        obtain ⟨h1, h2⟩ := I.val d v hdv
        obtain ⟨g1, g2⟩ := den_toks (ρ' := ρ') (n' := B + ops.size) v (fun t ht => ⟨hr t (hvis d v hdv t ht) (toks_lt v h2 t ht), toks_lt v h2 t ht⟩) h2
        refine ⟨?_, g2⟩
        rw [g1]
        have hne : o'.dst = some d → False := fun e => hc ⟨by rw [hst.dst]; exact e, by
          have := (Array.getElem?_eq_some_iff.1 h1).1
          rw [I.size] at this; exact this⟩
        cases hdst : o'.dst with
        | none => exact h1
        | some d' =>
          simp only [Act.put]
          rw [Array.getElem?_setIfInBounds_ne (fun e => hne (by rw [hdst, e]))]; exact h1
  -- the heap behind the operation
  have hheap : ∀ (t : Nat) (o : SObj), t < B + ops.size → (hpX recs st ops.size (B + ops.size) (lX (listed.setIfInBounds j true)))[t]? = if t ∈ (recs.getD j dRec).W then (st (j + 1)).H[t]? else (hpX recs st ops.size (B + ops.size) (lX listed))[t]? := fun t _ ht => by
    rw [W.hpX_get _ ht, W.hpX_get _ ht]
    exact W.tokNext hj hoj hun hah hcl hX' ht
  unfold wpOp
  rw [hoj]
  simp only
  rcases hst.step with ⟨hg, hv, hT, hW, hH⟩ | ⟨hg, T, v, M, hop, hq, hcase⟩
  · rw [if_neg (by rw [hguard _ hg]; exact Bool.false_ne_true)]
    refine finish ρ _ w (by rw [hv]; rfl) (fun _ _ _ => rfl) (by rw [hv]; simp [SV.ok, undef]) ?_
    have : hpX recs st ops.size (B + ops.size) (lX (listed.setIfInBounds j true)) = hpX recs st ops.size (B + ops.size) (lX listed) := by
      apply List.ext_getElem?
      intro t
      by_cases ht : t < B + ops.size
      · rw [hheap t .dead ht, if_neg (by rw [hW]; simp)]
      · rw [List.getElem?_eq_none (by rw [hpX_length]; omega), List.getElem?_eq_none (by rw [hpX_length]; omega)]
    rw [this]; exact I.heap
  · rw [if_pos (hguard _ hg)]
    refine .inl ?_
    -- the operation, as it is carried out here
    have hTin : ∀ t, t ∈ T → t ∈ (recs.getD j dRec).T := fun t ht => by
      rcases hcase with ⟨_, _, _, e, _⟩ | ⟨_, _, _, _, _, _, _, _, e, _⟩ <;> rw [e]
      · exact ht
      · exact List.mem_cons_of_mem _ ht
    have hmask : maskH T 0 (st j).H = maskH T 0 (hpX recs st ops.size (B + ops.size) (lX listed)) := by
      apply List.ext_getElem?
      intro t
      rw [maskH_get, maskH_get, Nat.zero_add]
      by_cases ht : t < B + ops.size
      · by_cases hm : memN t T = true
        · rw [W.hpX_get _ ht, W.heapAt hj hoj hun hah hcl (hTin t (memN_iff.1 hm)) ht]
        · have h1 : ∃ o, (st j).H[t]? = some o := ⟨_, List.getElem?_eq_getElem (by omega)⟩
          have h2 : ∃ o, (hpX recs st ops.size (B + ops.size) (lX listed))[t]? = some o := ⟨_, List.getElem?_eq_getElem (by rw [hpX_length]; omega)⟩
          obtain ⟨o1, h1⟩ := h1
          obtain ⟨o2, h2⟩ := h2
          simp [h1, h2, hm]
      · rw [List.getElem?_eq_none (by omega), List.getElem?_eq_none (by rw [hpX_length]; omega)]
    have hA : Agree o' (st j).F (frX recs F0 ops.size (lX listed)) := fun x hx => by
      cases x with
      | tmp d =>
        have hd : d ∈ readsOf ops o' := by unfold readsOf; exact List.mem_append_right _ (mem_tmpsOf hx)
        have := hread d hd
        rw [← frX_get (recs := recs) (F0 := F0)] at this
        exact this
      | _ => rfl
    have hgood := hop _ hA
    rw [hmask] at hgood
    have hmR := I.heap.mask T
    have hFr : FRel (C.inner ρ (hpX recs st ops.size (B + ops.size) (lX listed)) (· ∈ T) w) ρ (maskH T 0 (hpX recs st ops.size (B + ops.size) (lX listed))).length (frX recs F0 ops.size (lX listed)) a.tmps := by
      refine ⟨by rw [I.size]; simp [frX], fun d v hd => ?_⟩
      have := getF_some hd
      rw [frX_get] at this
      obtain ⟨h1, h2⟩ := I.val d v this
      refine ⟨h1, ?_⟩
      rw [maskH_length, hpX_length]
      exact ok_world (fun b hb => I.heap.roKeep b hb) v h2
    refine hgood.wp _ ρ a w hFr hmR K Q fun ρ1 w1 hr1 hR1 hv1 => ?_
    rw [maskH_length, hpX_length] at hr1
    have hlenM : B + ops.size ≤ M.length := by rcases hcase with ⟨e, _⟩ | ⟨_, _, e, _⟩ <;> omega
    have hun2 := I.heap.unmask hR1 (by rw [hpX_length]; exact hlenM) (by rw [hpX_length]; exact hr1)
    rw [hpX_length] at hun2
    have hvok : v.ok C.R C.w1 ρ1 M.length := ok_world (fun b hb => (I.heap.roKeep b hb).symm) v hv1
    rcases hcase with ⟨e1, e2, e3, e4, e5⟩ | ⟨x, e0, e1, n1, n2, n3, e2, e3, e4, e5⟩
    · -- no new object
      refine finish ρ1 _ w1 (by rw [e2]) (fun t _ ht => hr1 t ht) (by rw [e2, ← e1]; exact hvok) ?_
      have : mergeH T 0 (hpX recs st ops.size (B + ops.size) (lX listed)) M ++ M.drop (B + ops.size) = hpX recs st ops.size (B + ops.size) (lX (listed.setIfInBounds j true)) := by
        rw [List.drop_of_length_le (by omega), List.append_nil]
        apply List.ext_getElem?
        intro t
        by_cases ht : t < B + ops.size
        · rw [hheap t .dead ht, mergeH_get (by rw [hpX_length]; omega), hpX_length, if_pos ht, Nat.zero_add, e5]
          by_cases hm : memN t T = true
          · rw [if_pos hm]
            cases hw : isWr o' with
            | true => rw [if_pos rfl, if_pos (memN_iff.1 hm), e3, mergeH_get (by omega), if_pos (by omega), Nat.zero_add, if_pos hm]
            | false =>
              rw [if_neg (by simp)]
              obtain ⟨l, hl⟩ := hq hw
              rw [hl, List.getElem?_append_left (by rw [maskH_length]; omega), hmask, maskH_get, Nat.zero_add]
              simp only [hm, if_true, Option.map_id']
          · rw [if_neg hm, if_neg (fun h => by
              split at h
              · exact hm (memN_iff.2 h)
              · cases h)]
        · rw [List.getElem?_eq_none (by rw [mergeH_length (by rw [hpX_length]; omega), hpX_length]; omega), List.getElem?_eq_none (by rw [hpX_length]; omega)]
      rw [this] at hun2
      exact hun2
    · -- a new object
      have hMx : M.drop (B + ops.size) = [x] := by
        apply List.ext_getElem?
        intro t
        rw [List.getElem?_drop]
        cases t with
        | zero => rw [Nat.add_zero, e0]; rfl
        | succ t => rw [List.getElem?_eq_none (by omega)]; simp
      rw [hMx] at hun2
      have hjB : B + j < B + ops.size := by omega
      -- nothing mentions the new token
      have hsA : ∀ (t : Nat) (o : SObj), (mergeH T 0 (hpX recs st ops.size (B + ops.size) (lX listed)) M ++ [x])[t]? = some o → (B + j) ∉ o.toks := by
        intro t o ho hs
        by_cases ht : t < B + ops.size
        · rw [List.getElem?_append_left (by rw [mergeH_length (by rw [hpX_length]; omega), hpX_length]; exact ht), mergeH_get (by rw [hpX_length]; omega), hpX_length, if_pos ht, Nat.zero_add] at ho
          split at ho
          · exact n2 (mem_hpToks ho hs)
          · rcases hvisH t o ho (B + j) hs with h | h
            · omega
            · rw [show B + j - B = j by omega, hun] at h; cases h
        · rw [List.getElem?_append_right (by rw [mergeH_length (by rw [hpX_length]; omega), hpX_length]; omega), mergeH_length (by rw [hpX_length]; omega), hpX_length] at ho
          have : t - (B + ops.size) = 0 := by
            have := (List.getElem?_eq_some_iff.1 ho).1; simp at this; omega
          rw [this] at ho
          simp at ho; subst ho
          exact n2 (mem_hpToks e0 hs)
      have hA2 : (mergeH T 0 (hpX recs st ops.size (B + ops.size) (lX listed)) M).length = B + ops.size := by rw [mergeH_length (by rw [hpX_length]; omega), hpX_length]
      have hrel := Rel.relocate (H2 := hpX recs st ops.size (B + ops.size) (lX (listed.setIfInBounds j true))) (s := B + j) hun2 hA2 hjB hsA (hpX_length _) (fun t o ho => by
        have ht : t < B + ops.size := by have := (List.getElem?_eq_some_iff.1 ho).1; rwa [hpX_length] at this
        rw [hheap t .dead ht, e5] at ho
        by_cases hts : t = B + j
        · refine .inl ⟨hts, ?_⟩
          rw [if_pos (by rw [hts]; exact List.mem_cons_self), e3, hts, List.getElem?_set_self (by
            split
            · rw [mergeH_length (by rw [List.length_map]; omega)]; omega
            · omega)] at ho
          exact (Option.some.inj ho).symm
        · refine .inr ⟨hts, ?_⟩
          by_cases hm : memN t T = true ∧ isWr o' = true
          · obtain ⟨hm, hw⟩ := hm
            rw [hw, if_pos rfl, if_pos (List.mem_cons_of_mem _ (memN_iff.1 hm)), e3, hw, if_pos rfl, List.getElem?_set_ne (Ne.symm hts), mergeH_get (by rw [List.length_map]; omega), if_pos (by omega), Nat.zero_add, if_pos hm, List.getElem?_map] at ho
            cases hM : M[t]? with
            | none => rw [List.getElem?_eq_none_iff] at hM; omega
            | some m =>
              rw [hM] at ho
              simp only [Option.map_some, Option.some.injEq] at ho
              refine ⟨m, ?_, ho.symm⟩
              rw [mergeH_get (by rw [hpX_length]; omega), hpX_length, if_pos ht, Nat.zero_add, if_pos hm, hM]
          · rw [if_neg (fun h => by
              rcases List.mem_cons.1 h with h | h
              · exact hts h
              · split at h
                · rename_i hw; exact hm ⟨memN_iff.2 h, hw⟩
                · cases h)] at ho
            refine ⟨o, ?_, ?_⟩
            · rw [mergeH_get (by rw [hpX_length]; omega), hpX_length, if_pos ht, Nat.zero_add]
              by_cases hT2 : memN t T = true
              · rw [if_pos hT2]
                have hw : isWr o' = false := by
                  cases hw : isWr o' with
                  | false => rfl
                  | true => exact absurd ⟨hT2, hw⟩ hm
                obtain ⟨l, hl⟩ := hq hw
                rw [hl, List.getElem?_append_left (by rw [maskH_length]; omega), hmask, maskH_get, Nat.zero_add, ho]
                simp only [hT2, if_true, Option.map_some]
              · rw [if_neg hT2, ho]
            · -- its tokens are old
              have hlt := obj_toks_lt (I.heap.ok t o ho)
              rw [hpX_length] at hlt
              cases o with
              | cells l T' =>
                simp only [SObj.ren]
                rw [renL_id l (fun s hs => by
                  have := hlt s hs
                  unfold swapTo; rw [if_neg (fun hb => by have := Nat.eq_of_beq_eq_true hb; omega)])]
              | _ => rfl)
      have hspec := ren_spec (R := C.R) (w := C.w1) (ρ := ρ1) (ρ' := fun t => if t = B + j then ρ1 (B + ops.size) else ρ1 t) (n' := B + ops.size) (g := swapTo (B + ops.size) (B + j)) v (fun t ht => by
        have hlt := toks_lt v hvok t ht
        have hts : t ≠ B + j := fun e => n1 (e ▸ ht)
        unfold swapTo
        by_cases e : t = B + ops.size
        · subst e; rw [if_pos (Nat.beq_refl _)]; exact ⟨by simp, hjB⟩
        · rw [if_neg (fun hb => e (Nat.eq_of_beq_eq_true hb))]
          exact ⟨by simp [hts], by omega⟩) hvok
      refine finish _ _ w1 (by rw [e2, hspec.1]) (fun t hvt ht => ?_) (by rw [e2]; exact hspec.2) hrel
      have hts : t ≠ B + j := fun e => by
        subst e
        rcases hvt with h | h
        · omega
        · rw [show B + j - B = j by omega, hun] at h; cases h
      simp only [if_neg hts]
      exact hr1 t ht

omit W in
theorem count_pos {X : Nat → Bool} : ∀ (n j : Nat), j < n → X j = false → 0 < (List.range n).countP fun k => !X k := fun n j hj hX => by
  rw [List.countP_pos_iff]
  exact ⟨j, List.mem_range.2 hj, by simp [hX]⟩
omit W in
theorem count_next {X X' : Nat → Bool} {j : Nat} (hX : X j = false) (hX' : ∀ k, X' k = if k = j then true else X k) : ∀ n, j < n → ((List.range n).countP fun k => !X' k) + 1 = (List.range n).countP fun k => !X k
  | 0, h => by omega
  | n + 1, h => by
    rw [List.range_succ, List.countP_append, List.countP_append]
    by_cases e : j = n
    · subst e
      have : ∀ m, m ≤ j → ((List.range m).countP fun k => !X' k) = (List.range m).countP fun k => !X k := fun m hm => by
        apply List.countP_congr
        intro k hk
        rw [hX' k, if_neg (by have := List.mem_range.1 hk; omega)]
      rw [this j (Nat.le_refl _)]
      simp [hX' j, hX]
    · have ih := count_next hX hX' n (by omega)
      have : X' n = X n := by rw [hX' n, if_neg (fun h => e h.symm)]
      simp only [List.countP_singleton, this]
      omega

theorem Whole.all_listed {listed : Array Bool} (hs : listed.size = ops.size) (hr : Region.ready .any ops listed = []) : ∀ j, j < ops.size → lX listed j = true := by
  intro j
  induction j using Nat.strongRecOn with
  | _ j ih =>
    intro hj
    cases hx : lX listed j with
    | true => rfl
    | false =>
      obtain ⟨o, ho, _⟩ := W.stepAt hj
      have hl : listed.getD j true = false := by
        unfold lX at hx
        have : j < listed.size := by omega
        simp [this] at hx ⊢; exact hx
      have : j ∈ Region.ready .any ops listed := mem_ready.2 ⟨hl, o, ho, fun e he hb => ih e.on ((W.ancs_spec j o ho).1 e.on (mem_edges.2 ⟨e, he, hb, rfl⟩)) (by have := (W.ancs_spec j o ho).1 e.on (mem_edges.2 ⟨e, he, hb, rfl⟩); omega)⟩
      rw [hr] at this; cases this

theorem Whole.any_order (hF0 : ∀ d v, getF F0 d = some v → ∀ t, t ∈ v.toks → t < B) (hH0 : ∀ (t : Nat) (o : SObj), H0[t]? = some o → ∀ s, s ∈ o.toks → s < B)
    {C : Cx} {ρ0 : Nat → Tk} {d0 : List Deferred} {Q : Exit → Act → World → Prop}
    (hQ : ∀ ρ a w, (∀ t, t < B → ρ t = ρ0 t) → a.defers = d0 → FRel C ρ (B + ops.size) (st ops.size).F a.tmps → Rel C ρ (st ops.size).H w → Q .normal a w) :
    ∀ (fuel : Nat) (listed : Array Bool) (ρ : Nat → Tk) (a : Act) (w : World), DInv C ops B F0 st recs ρ0 d0 listed ρ a w → ((List.range ops.size).countP fun k => !lX listed k) ≤ fuel → wpAny P .any ops Q fuel listed a w := by
  have hend : ∀ (listed : Array Bool) (ρ : Nat → Tk) (a : Act) (w : World), DInv C ops B F0 st recs ρ0 d0 listed ρ a w → (∀ j, j < ops.size → lX listed j = true) → Q .normal a w := by
    intro listed ρ a w I hall
    obtain ⟨lF, lH⟩ := W.lens ops.size (Nat.le_refl _)
    refine hQ ρ a w I.agree I.defers ⟨by rw [I.size, lF], fun d v hv => ?_⟩ ?_
    · refine I.val d v ?_
      rw [← getF_some hv, W.textF d ops.size (Nat.le_refl _)]
      exact fw_agree fun k hk _ => hall k hk
    · have : hpX recs st ops.size (B + ops.size) (lX listed) = (st ops.size).H := by
        apply List.ext_getElem?
        intro t
        by_cases ht : t < B + ops.size
        · rw [W.hpX_get _ ht, W.textH t ht ops.size (Nat.le_refl _)]
          exact fw_agree fun k hk _ => hall k hk
        · rw [List.getElem?_eq_none (by rw [hpX_length]; omega), List.getElem?_eq_none (by omega)]
      rw [← this]; exact I.heap
  intro fuel
  induction fuel with
  | zero =>
    intro listed ρ a w I hc
    have hall : ∀ j, j < ops.size → lX listed j = true := fun j hj => by
      cases hx : lX listed j with
      | true => rfl
      | false => have := count_pos ops.size j hj hx; omega
    refine ⟨?_, hend listed ρ a w I hall⟩
    cases hr : Region.ready .any ops listed with
    | nil => rfl
    | cons i l =>
      have hi : i ∈ Region.ready .any ops listed := by rw [hr]; simp
      obtain ⟨h1, o, ho, _⟩ := mem_ready.1 hi
      have hlt := (Array.getElem?_eq_some_iff.1 ho).1
      have := hall i hlt
      unfold lX at this
      rw [wp_unlisted I.lsize hlt h1] at this; cases this
  | succ fuel ih =>
    intro listed ρ a w I hc
    refine ⟨fun hr => hend listed ρ a w I (W.all_listed I.lsize hr), fun i hi => ?_⟩
    obtain ⟨h1, o, ho, hall⟩ := mem_ready.1 hi
    have hlt := (Array.getElem?_eq_some_iff.1 ho).1
    have hun : lX listed i = false := wp_unlisted I.lsize hlt h1
    refine W.step_any hF0 hH0 I ho hun (fun e he => ?_) fun ρ' a' w' I' => ih _ ρ' a' w' I' ?_
    · obtain ⟨x, hx, hb, rfl⟩ := mem_edges.1 he
      exact hall x hx hb
    · have := count_next (X := lX listed) (X' := lX (listed.setIfInBounds i true)) hun (fun k => by
        unfold lX
        by_cases e : k = i
        · subst e; rw [if_pos rfl]; simp [I.lsize, hlt]
        · rw [if_neg e, getD_set_ne false (Ne.symm e)]) ops.size hlt
      omega
end

theorem dead_rel {C : Cx} {ρ : Nat → Tk} {H : Hp} {w : World} (h : Rel C ρ H w) (n : Nat) : Rel C ρ (H ++ List.replicate n .dead) w := by
  have hg : ∀ (t : Nat) (o : SObj), (H ++ List.replicate n .dead)[t]? = some o → H[t]? = some o ∨ o = .dead := fun t o ho => by
    by_cases ht : t < H.length
    · rw [List.getElem?_append_left ht] at ho; exact .inl ho
    · rw [List.getElem?_append_right (by omega), List.getElem?_replicate] at ho
      split at ho
      · cases ho; exact .inr rfl
      · cases ho
  have hb : ∀ t b, blkOf ρ (H ++ List.replicate n .dead) t = some b → blkOf ρ H t = some b := fun t b hb => by
    obtain ⟨o, ho, h2⟩ := blkOf_get hb
    rcases hg t o ho with h3 | rfl
    · rw [blkOf_eq h3]; exact h2
    · cases h2
  refine ⟨fun t o ho => ?_, fun t t' b h1 h2 => h.sep t t' b (hb t b h1) (hb t' b h2), fun t b h1 => h.own t b (hb t b h1), h.hdr, h.keep, h.size, h.os, h.tape, h.output, fun t o ho => ?_, h.fit⟩
  · rcases hg t o ho with h3 | rfl
    · exact h.obj t o h3
    · trivial
  · rcases hg t o ho with h3 | rfl
    · exact SObj.ok_mono (by simp) (h.ok t o h3)
    · trivial

/-- **A region whose order is open.** -/
theorem draw_sound (E : Env) {α : Type} (hE : EnvOk E) {callf : CallF α} (hcall : CallOk E.P callf) (ops : Array Oper) (base : Nat) (S : St) (hb : base ≤ S.H.length) (K : St → Option α) (r : α) (hm : E.P.follows .mixedOrders = true)
    (h : (drawL E callf ops S.H.length (S.H.length + ops.size) 0 ops.toList ⟨S.F, S.H ++ List.replicate ops.size .dead⟩ [] fun S' recs => if drawOk ops S.H.length recs.reverse then gcSt base S' K else none) = some r) (id : Nat) :
    ∃ S', K S' = some r ∧ CodeGood E.P base (.region id ops true) S .normal S' := by
  obtain ⟨S1, new, h1, htr⟩ := drawL_sound E hE hcall ops S.H.length (S.H.length + ops.size) ops.toList 0 _ [] _ r h
  simp only [List.append_nil, List.reverse_reverse] at h1
  split at h1
  · rename_i hok
    obtain ⟨S2, h2, g2⟩ := gcSt_sound h1
    refine ⟨S2, h2, g2.len, fun C ρ a w hd hF hR => wp_region_any hm ?_⟩
    obtain ⟨st, e1, e2, e3⟩ := htr.states
    unfold drawOk at hok
    split at hok
    · rename_i ancs hanc
      have W : Whole E.P ops S.H.length S.F S.H st new ancs := ⟨rfl, e1, fun k hk => by
        obtain ⟨o, rec, p1, p2, p3⟩ := e3 k (by simpa using hk)
        rw [Nat.zero_add] at p3
        exact ⟨o, rec, by rw [← Array.getElem?_toList]; exact p1, p2, p3⟩, hanc, hok⟩
      have hR0 : Rel C ρ S.H { w with drawn := w.drawn + 1 } := ⟨hR.obj, hR.sep, hR.own, hR.hdr, hR.keep, hR.size, hR.os, hR.tape, hR.output, hR.ok, hR.fit⟩
      have hX0 : ∀ k, lX (Array.replicate ops.size false) k = false := fun k => by
        unfold lX
        rw [Array.getD_eq_getD_getElem?]
        by_cases h : k < ops.size <;> simp [h]
      have hfw : ∀ {β : Type} (wr : Nat → Option β) (init : β) (n : Nat), fw wr (lX (Array.replicate ops.size false)) init n = init := fun wr init n => by
        rcases fw_cases (w := wr) (X := lX (Array.replicate ops.size false)) (init := init) n with h | ⟨k, _, hx, _⟩
        · exact h
        · rw [hX0 k] at hx; cases hx
      have hlen : (Array.toList ops).length = ops.size := by simp
      refine W.any_order (C := C) (ρ0 := ρ) (d0 := a.defers) (fun d v hv => toks_lt v (hF.val d v (some_getF hv)).2) (fun t o ho => obj_toks_lt (hR.ok t o ho)) (fun ρ' a' w' q1 q2 q3 q4 => ?_) ops.size _ ρ a _ ?_ ?_
      · rw [← hlen, e2] at q3 q4
        have l2 := (W.lens ops.size (Nat.le_refl _)).2
        rw [← hlen, e2] at l2
        obtain ⟨ρ2, k1, k2, k3⟩ := g2.rel C ρ' a'.tmps w' (by rw [l2]; exact q3) q4
        exact ⟨rfl, ρ2, by rw [q2, hd], k2, k3, fun t ht => by rw [k1 t ht, q1 t (by omega)]⟩
      · refine ⟨by simp, fun j o _ hx => ?_, rfl, hF.size, fun d v hv => ?_, ?_, fun _ _ => rfl⟩
        · rw [hX0 j] at hx; cases hx
        · unfold vF at hv
          rw [hfw] at hv
          obtain ⟨p1, p2⟩ := hF.val d v (some_getF hv)
          exact ⟨p1, ok_mono (by omega) v p2⟩
        · have : hpX new st ops.size (S.H.length + ops.size) (lX (Array.replicate ops.size false)) = S.H ++ List.replicate ops.size .dead := by
            apply List.ext_getElem?
            intro t
            by_cases ht : t < S.H.length + ops.size
            · rw [W.hpX_get _ ht]; unfold vH; rw [hfw, e1]
            · rw [List.getElem?_eq_none (by rw [hpX_length]; omega), List.getElem?_eq_none (by simp; omega)]
          rw [this]; exact dead_rel hR0 ops.size
      · exact Nat.le_trans List.countP_le_length (by simp)
    · cases hok
  · cases h1
end Go.Proofs.Ytkjellhkamfciaa.Sx
