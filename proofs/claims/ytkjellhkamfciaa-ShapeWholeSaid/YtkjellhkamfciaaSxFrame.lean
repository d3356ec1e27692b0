/- SX: the frame rule: a part of the heap that a run does not see stays as it is. -/
import Derived.Test.YtkjellhkamfciaaSxRun
namespace Go.Proofs.Ytkjellhkamfciaa.Sx
open Go Go.RowKit

theorem RosOk.world {R : Nat → Prop} {w w' : World} (h : ∀ b, R b → w'.heap[b]? = w.heap[b]?) {v : Value} {κ : K} {xs : List κ.T} (hr : RosOk R w v κ xs) : RosOk R w' v κ xs := by
  rcases hr with h0 | ⟨ad, cap, e, hl, hs, hR, hc⟩
  · exact .inl h0
  · refine .inr ⟨ad, cap, e, hl, hs, hR, fun j c hj => ?_⟩
    rw [World.cell?_of_block (w := w) (a := ⟨ad.block, _, none⟩) (h ad.block hR)]; exact hc j c hj
mutual
theorem ok_world {R : Nat → Prop} {w w' : World} {ρ : Nat → Tk} {n : Nat} (h : ∀ b, R b → w'.heap[b]? = w.heap[b]?) : ∀ (v : SV), v.ok R w ρ n → v.ok R w' ρ n
  | .ptr _ _, hv => by simp only [SV.ok] at hv ⊢; exact hv
  | .aix _ _ _ _ _, hv => by simp only [SV.ok] at hv ⊢; exact hv
  | .pix _ _ _ _, hv => by simp only [SV.ok] at hv ⊢; exact hv
  | .sub _ _ _ _, hv => by simp only [SV.ok] at hv ⊢; exact hv
  | .sl _, hv => by simp only [SV.ok] at hv ⊢; exact hv
  | .rix _ _ _ _ _, hv => by simp only [SV.ok] at hv ⊢; exact ⟨hv.1.world h, hv.2⟩
  | .ros _ _ _, hv => by simp only [SV.ok] at hv ⊢; exact hv.world h
  | .fn _ a b, hv => by simp only [SV.ok] at hv ⊢; exact ⟨okL_world h a hv.1, okL_world h b hv.2⟩
  | .raw _, hv => by simp only [SV.ok] at hv ⊢; exact hv
  | .arr _ _ _, hv => by simp only [SV.ok] at hv ⊢; exact hv
  | .agg l, hv => by simp only [SV.ok] at hv ⊢; exact okL_world h l hv
  | .tup l, hv => by simp only [SV.ok] at hv ⊢; exact okL_world h l hv
  | .int _ _, _ => by simp only [SV.ok]
  | .bool _, _ => by simp only [SV.ok]
theorem okL_world {R : Nat → Prop} {w w' : World} {ρ : Nat → Tk} {n : Nat} (h : ∀ b, R b → w'.heap[b]? = w.heap[b]?) : ∀ (l : List SV), SV.okL R w ρ n l → SV.okL R w' ρ n l
  | [], _ => by simp only [SV.okL]
  | x :: l, hv => by simp only [SV.okL] at hv ⊢; exact ⟨ok_world h x hv.1, okL_world h l hv.2⟩
end
theorem SObj.ok_world {R : Nat → Prop} {w w' : World} {ρ : Nat → Tk} {n : Nat} (h : ∀ b, R b → w'.heap[b]? = w.heap[b]?) {o : SObj} (ho : o.ok R w ρ n) : o.ok R w' ρ n := by
  cases o with
  | cells l T => exact ⟨okL_world h l ho.1, ho.2⟩
  | _ => trivial

/-- The surroundings of a run that begins now and sees the tokens of T alone. -/
def Cx.inner (C : Cx) (ρ : Nat → Tk) (H : Hp) (T : Nat → Prop) (w : World) : Cx :=
  { R := C.R, w1 := w, Own := fun b => w.heap.size ≤ b ∨ ∃ t, T t ∧ blkOf ρ H t = some b }

theorem Rel.roKeep {C : Cx} {ρ : Nat → Tk} {H : Hp} {w : World} (h : Rel C ρ H w) : ∀ b, C.R b → w.heap[b]? = C.w1.heap[b]? := fun b hb => h.keep b (h.fit.ro b hb).1 (h.fit.ro b hb).2

theorem maskH_get {T : List Nat} : ∀ {H : Hp} {i t : Nat}, (maskH T i H)[t]? = (H[t]?).map fun o => if memN (i + t) T then o else .dead
  | [], i, t => by simp [maskH]
  | o :: H, i, 0 => by simp [maskH]
  | o :: H, i, t + 1 => by
    simp only [maskH, List.getElem?_cons_succ]
    rw [maskH_get (H := H), show i + 1 + t = i + (t + 1) by omega]
theorem maskH_length {T : List Nat} : ∀ {H : Hp} {i : Nat}, (maskH T i H).length = H.length
  | [], i => rfl
  | o :: H, i => by simp [maskH, maskH_length (H := H)]
theorem mergeH_get {T : List Nat} : ∀ {H M : Hp} {i t : Nat}, H.length ≤ M.length → (mergeH T i H M)[t]? = if t < H.length then (if memN (i + t) T then M[t]? else H[t]?) else none
  | [], M, i, t, _ => by simp [mergeH]
  | o :: H, [], i, t, h => by simp at h
  | o :: H, p :: M, i, 0, h => by simp only [mergeH, List.getElem?_cons_zero, Nat.add_zero]; split <;> simp
  | o :: H, p :: M, i, t + 1, h => by
    simp only [mergeH, List.getElem?_cons_succ, List.length_cons]
    rw [mergeH_get (H := H) (by simpa using h), show i + 1 + t = i + (t + 1) by omega]
    simp only [Nat.add_lt_add_iff_right]
theorem mergeH_length {T : List Nat} : ∀ {H M : Hp} {i : Nat}, H.length ≤ M.length → (mergeH T i H M).length = H.length
  | [], M, i, _ => rfl
  | o :: H, [], i, h => by simp at h
  | o :: H, p :: M, i, h => by simp only [mergeH, List.length_cons]; rw [mergeH_length (H := H) (by simpa using h)]

theorem objBlk_mask {tk : Tk} {o : SObj} {c : Bool} {b : Nat} (h : objBlk tk (if c then o else .dead) = some b) : c = true ∧ objBlk tk o = some b := by
  cases c
  · cases h
  · exact ⟨rfl, h⟩

/-- What a run sees that is shown the tokens of T alone. -/
theorem Rel.mask {C : Cx} {ρ : Nat → Tk} {H : Hp} {w : World} (h : Rel C ρ H w) (T : List Nat) : Rel (C.inner ρ H (· ∈ T) w) ρ (maskH T 0 H) w := by
  have hg : ∀ t o, (maskH T 0 H)[t]? = some o → ∃ o', H[t]? = some o' ∧ o = if memN t T then o' else .dead := fun t o ho => by
    rw [maskH_get] at ho
    cases hq : H[t]? with
    | none => simp [hq] at ho
    | some o' => simp only [hq, Option.map_some, Option.some.injEq, Nat.zero_add] at ho; exact ⟨o', rfl, ho.symm⟩
  have hb : ∀ t b, blkOf ρ (maskH T 0 H) t = some b → t ∈ T ∧ blkOf ρ H t = some b := fun t b hb => by
    obtain ⟨o, ho, h2⟩ := blkOf_get hb
    obtain ⟨o', h3, rfl⟩ := hg t o ho
    obtain ⟨h4, h5⟩ := objBlk_mask h2
    exact ⟨memN_iff.1 h4, by rw [blkOf_eq h3]; exact h5⟩
  refine ⟨fun t o ho => ?_, fun t t' b h1 h2 => h.sep t t' b (hb t b h1).2 (hb t' b h2).2, fun t b h1 => .inr ⟨t, (hb t b h1).1, (hb t b h1).2⟩, h.hdr, fun _ _ _ => rfl, Nat.le_refl _, rfl, rfl, rfl, fun t o ho => ?_, ⟨fun b hb => .inl hb, fun b hr => ?_⟩⟩
  · obtain ⟨o', h3, rfl⟩ := hg t o ho
    have := h.obj t o' h3
    split
    · exact this
    · trivial
  · obtain ⟨o', h3, rfl⟩ := hg t o ho
    rw [maskH_length]
    split
    · exact SObj.ok_world h.roKeep (h.ok t o' h3)
    · trivial
  · have hlt : b < w.heap.size := Nat.lt_of_lt_of_le (h.fit.ro b hr).1 h.size
    refine ⟨hlt, fun hc => ?_⟩
    rcases hc with hc | ⟨t, _, ht⟩
    · exact absurd hlt (by show ¬ b < w.heap.size; omega)
    · exact (h.fit.ro b hr).2 (h.own t b ht)

/-- And what it leaves. -/
theorem Rel.unmask {C : Cx} {ρ ρ' : Nat → Tk} {H M : Hp} {w w' : World} {T : List Nat} (h : Rel C ρ H w) (hM : Rel (C.inner ρ H (· ∈ T) w) ρ' M w') (hl : H.length ≤ M.length) (hr : ∀ t, t < H.length → ρ' t = ρ t) :
    Rel C ρ' (mergeH T 0 H M ++ M.drop H.length) w' := by
  have hml := mergeH_length (T := T) (i := 0) hl
  have hlen : (mergeH T 0 H M ++ M.drop H.length).length = M.length := by rw [List.length_append, hml, List.length_drop]; omega
  -- where an object comes from
  have hg : ∀ t o, (mergeH T 0 H M ++ M.drop H.length)[t]? = some o → (t < H.length ∧ t ∉ T ∧ H[t]? = some o) ∨ ((t ∈ T ∨ H.length ≤ t) ∧ M[t]? = some o) := fun t o ho => by
    by_cases ht : t < H.length
    · rw [List.getElem?_append_left (by omega), mergeH_get hl, if_pos ht, Nat.zero_add] at ho
      by_cases hT : memN t T = true
      · rw [if_pos hT] at ho; exact .inr ⟨.inl (memN_iff.1 hT), ho⟩
      · rw [if_neg hT] at ho; exact .inl ⟨ht, fun h => hT (memN_iff.2 h), ho⟩
    · rw [List.getElem?_append_right (by omega), List.getElem?_drop, hml] at ho
      refine .inr ⟨.inr (by omega), ?_⟩
      rw [show H.length + (t - H.length) = t by omega] at ho; exact ho
  have hb : ∀ t b, blkOf ρ' (mergeH T 0 H M ++ M.drop H.length) t = some b → (t < H.length ∧ t ∉ T ∧ blkOf ρ H t = some b) ∨ ((t ∈ T ∨ H.length ≤ t) ∧ blkOf ρ' M t = some b) := fun t b hb => by
    obtain ⟨o, ho, h2⟩ := blkOf_get hb
    rcases hg t o ho with ⟨h3, h4, h5⟩ | ⟨h3, h5⟩
    · refine .inl ⟨h3, h4, ?_⟩
      rw [blkOf_eq h5, ← hr t h3]; exact h2
    · exact .inr ⟨h3, by rw [blkOf_eq h5]; exact h2⟩
  have hapart : ∀ t t' b, t ∉ T → blkOf ρ H t = some b → blkOf ρ' M t' = some b → False := fun t t' b hT h1 h2 => by
    have hlt := blk_lt h h1
    rcases hM.own t' b h2 with hc | ⟨s, hs, hs2⟩
    · exact absurd hlt (Nat.not_lt.2 hc)
    · have := h.sep t s b h1 hs2
      subst this
      exact hT hs
  have hout : ∀ b, b < w.heap.size → (∀ t, t ∈ T → blkOf ρ H t ≠ some b) → w'.heap[b]? = w.heap[b]? := fun b hlt hn => hM.keep b hlt fun hc => by
    rcases hc with hc | ⟨t, ht, ht2⟩
    · exact absurd hlt (Nat.not_lt.2 hc)
    · exact hn t ht ht2
  refine ⟨fun t o ho => ?_, fun t t' b h1 h2 => ?_, fun t b h1 => ?_, hM.hdr, fun b h1 h2 => ?_, Nat.le_trans h.size hM.size, hM.os.trans h.os, hM.tape.trans h.tape, hM.output.trans h.output, fun t o ho => ?_, h.fit⟩
  · rcases hg t o ho with ⟨h3, h4, h5⟩ | ⟨_, h5⟩
    · rw [hr t h3]
      refine (h.obj t o h5).agree (C := C) (n := H.length) (h.ok t o h5) hr fun b hbb => hout b ?_ fun s hs hs2 => ?_
      · exact blk_lt h (t := t) (by rw [blkOf_eq h5]; exact hbb)
      · have := h.sep t s b (by rw [blkOf_eq h5]; exact hbb) hs2
        subst this
        exact h4 hs
    · exact hM.obj t o h5
  · rcases hb t b h1 with ⟨_, g2, g3⟩ | ⟨_, g3⟩ <;> rcases hb t' b h2 with ⟨_, k2, k3⟩ | ⟨_, k3⟩
    · exact h.sep t t' b g3 k3
    · exact (hapart t t' b g2 g3 k3).elim
    · exact (hapart t' t b k2 k3 g3).elim
    · exact hM.sep t t' b g3 k3
  · rcases hb t b h1 with ⟨_, _, g3⟩ | ⟨_, g3⟩
    · exact h.own t b g3
    · rcases hM.own t b g3 with hc | ⟨s, _, hs2⟩
      · exact h.fit.new b (Nat.le_trans h.size hc)
      · exact h.own s b hs2
  · rw [hout b (Nat.lt_of_lt_of_le h1 h.size) fun t _ ht => h2 (h.own t b ht)]
    exact h.keep b h1 h2
  · rw [hlen]
    rcases hg t o ho with ⟨h3, h4, h5⟩ | ⟨_, h5⟩
    · exact SObj.ok_mono hl (SObj.ok_agree hr (h.ok t o h5))
    · exact SObj.ok_world (fun b hb => (h.roKeep b hb).symm) (hM.ok t o h5)
end Go.Proofs.Ytkjellhkamfciaa.Sx
