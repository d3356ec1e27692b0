/- SX: forgetting what is not reached, and numbering the rest anew. -/
import Derived.Test.YtkjellhkamfciaaSxOps5
namespace Go.Proofs.Ytkjellhkamfciaa.Sx
open Go Go.RowKit

mutual
theorem ren_spec {R : Nat → Prop} {w : World} {n n' : Nat} {ρ ρ' : Nat → Tk} {g : Nat → Nat} : ∀ (v : SV), (∀ t, t ∈ v.toks → ρ' (g t) = ρ t ∧ g t < n') → v.ok R w ρ n → den ρ' (v.ren g) = den ρ v ∧ (v.ren g).ok R w ρ' n'
  | .ptr t _, h, _ => by have := h t (by simp [SV.toks]); simp only [SV.ren, den, SV.ok, this, and_self]
  | .aix t _ _ _ _, h, hv => by have := h t (by simp [SV.toks]); simp only [SV.ok] at hv; simp only [SV.ren, den, SV.ok, this, hv, and_self]
  | .pix t _ _ _, h, hv => by have := h t (by simp [SV.toks]); simp only [SV.ok] at hv; simp only [SV.ren, den, SV.ok, this.1]; exact ⟨trivial, this.2, hv.2⟩
  | .sl t, h, _ => by have := h t (by simp [SV.toks]); simp only [SV.ren, den, SV.ok, this, and_self]
  | .sub t _ _ _, h, hv => by have := h t (by simp [SV.toks]); simp only [SV.ok] at hv; simp only [SV.ren, den, SV.ok, this.1]; exact ⟨trivial, this.2, hv.2⟩
  | .rix _ _ _ _ _, _, hv => by simp only [SV.ren, den, SV.ok] at hv ⊢; exact ⟨trivial, hv⟩
  | .ros _ _ _, _, hv => by simp only [SV.ren, den, SV.ok] at hv ⊢; exact ⟨trivial, hv⟩
  | .fn _ a b, h, hv => by
    simp only [SV.toks, List.mem_append] at h
    simp only [SV.ok] at hv
    obtain ⟨h1, h2, _⟩ := renL_spec a (fun t ht => h t (.inl ht)) hv.1
    obtain ⟨h3, h4, _⟩ := renL_spec b (fun t ht => h t (.inr ht)) hv.2
    simp only [SV.ren, den, SV.ok, h1, h2, h3, h4, and_self]
  | .raw _, _, hv => by simp only [SV.ren, den, SV.ok] at hv ⊢; exact ⟨trivial, hv⟩
  | .arr _ _ _, _, hv => by simp only [SV.ren, den, SV.ok] at hv ⊢; exact ⟨trivial, hv⟩
  | .agg l, h, hv => by
    simp only [SV.toks] at h
    simp only [SV.ok] at hv
    obtain ⟨_, h2, h3⟩ := renL_spec l h hv
    simp only [SV.ren, den, SV.ok, h2, h3, and_self]
  | .tup l, h, hv => by
    simp only [SV.toks] at h
    simp only [SV.ok] at hv
    obtain ⟨h1, h2, _⟩ := renL_spec l h hv
    simp only [SV.ren, den, SV.ok, h1, h2, and_self]
  | .int _ _, _, _ => by simp only [SV.ren, den, SV.ok, and_self]
  | .bool _, _, _ => by simp only [SV.ren, den, SV.ok, and_self]
theorem renL_spec {R : Nat → Prop} {w : World} {n n' : Nat} {ρ ρ' : Nat → Tk} {g : Nat → Nat} : ∀ (l : List SV), (∀ t, t ∈ SV.toksL l → ρ' (g t) = ρ t ∧ g t < n') → SV.okL R w ρ n l → denL ρ' (SV.renL g l) = denL ρ l ∧ SV.okL R w ρ' n' (SV.renL g l) ∧ denC ρ' (SV.renL g l) = denC ρ l
  | [], _, _ => by simp only [SV.renL, denL, SV.okL, denC, and_self]
  | x :: l, h, hv => by
    simp only [SV.toksL, List.mem_append] at h
    simp only [SV.okL] at hv
    obtain ⟨h1, h2⟩ := ren_spec x (fun t ht => h t (.inl ht)) hv.1
    obtain ⟨h3, h4, h5⟩ := renL_spec l (fun t ht => h t (.inr ht)) hv.2
    simp only [SV.renL, denL, SV.okL, denC, h1, h2, h3, h4, h5, true_and, and_true]
    cases x <;> simp only [SV.ren, cell1]
end
mutual
theorem ok_of_toks {R : Nat → Prop} {w : World} {n n' : Nat} {ρ : Nat → Tk} : ∀ (v : SV), (∀ t, t ∈ v.toks → t < n') → v.ok R w ρ n → v.ok R w ρ n'
  | .ptr t _, h, _ => by have := h t (by simp [SV.toks]); simpa only [SV.ok] using this
  | .aix t _ _ _ _, h, hv => by have := h t (by simp [SV.toks]); simp only [SV.ok] at hv ⊢; exact ⟨this, hv.2⟩
  | .pix t _ _ _, h, hv => by have := h t (by simp [SV.toks]); simp only [SV.ok] at hv ⊢; exact ⟨this, hv.2⟩
  | .sl t, h, _ => by have := h t (by simp [SV.toks]); simpa only [SV.ok] using this
  | .sub t _ _ _, h, hv => by have := h t (by simp [SV.toks]); simp only [SV.ok] at hv ⊢; exact ⟨this, hv.2⟩
  | .rix _ _ _ _ _, _, hv => by simp only [SV.ok] at hv ⊢; exact hv
  | .ros _ _ _, _, hv => by simp only [SV.ok] at hv ⊢; exact hv
  | .fn _ a b, h, hv => by
    simp only [SV.toks, List.mem_append] at h
    simp only [SV.ok] at hv ⊢
    exact ⟨okL_of_toks a (fun t ht => h t (.inl ht)) hv.1, okL_of_toks b (fun t ht => h t (.inr ht)) hv.2⟩
  | .raw _, _, hv => by simp only [SV.ok] at hv ⊢; exact hv
  | .arr _ _ _, _, hv => by simp only [SV.ok] at hv ⊢; exact hv
  | .agg l, h, hv => by simp only [SV.ok] at hv ⊢; exact okL_of_toks l (by simpa only [SV.toks] using h) hv
  | .tup l, h, hv => by simp only [SV.ok] at hv ⊢; exact okL_of_toks l (by simpa only [SV.toks] using h) hv
  | .int _ _, _, _ => by simp only [SV.ok]
  | .bool _, _, _ => by simp only [SV.ok]
theorem okL_of_toks {R : Nat → Prop} {w : World} {n n' : Nat} {ρ : Nat → Tk} : ∀ (l : List SV), (∀ t, t ∈ SV.toksL l → t < n') → SV.okL R w ρ n l → SV.okL R w ρ n' l
  | [], _, _ => by simp only [SV.okL]
  | x :: l, h, hv => by
    simp only [SV.toksL, List.mem_append] at h
    simp only [SV.okL] at hv ⊢
    exact ⟨ok_of_toks x (fun t ht => h t (.inl ht)) hv.1, okL_of_toks l (fun t ht => h t (.inr ht)) hv.2⟩
end
theorem ren_leaves (g : Nat → Nat) : ∀ (l : List SV), leavesB (SV.renL g l) = leavesB l
  | [] => rfl
  | x :: l => by
    simp only [SV.renL, leavesB, ren_leaves g l]
    cases x <;> rfl

theorem memN_iff {t : Nat} : ∀ {l : List Nat}, memN t l = true ↔ t ∈ l
  | [] => by simp [memN]
  | x :: l => by
    simp only [memN, Bool.or_eq_true, memN_iff (l := l), List.mem_cons]
    constructor
    · rintro (h | h)
      · exact .inl (Nat.eq_of_beq_eq_true h).symm
      · exact .inr h
    · rintro (h | h)
      · exact .inl (by rw [h]; exact Nat.beq_refl _)
      · exact .inr h
theorem allIn_iff {base : Nat} {τ : List Nat} : ∀ {l : List Nat}, allIn base τ l = true → ∀ t ∈ l, t < base ∨ t ∈ τ
  | [], _, t, ht => by simp at ht
  | x :: l, h, t, ht => by
    simp only [allIn, Bool.and_eq_true, Bool.or_eq_true] at h
    rcases List.mem_cons.1 ht with rfl | ht
    · exact h.1.imp (fun h => Nat.le_of_ble_eq_true h) memN_iff.1
    · exact allIn_iff h.2 t ht
theorem nodupN_spec : ∀ {l : List Nat}, nodupN l = true → l.Nodup
  | [], _ => List.nodup_nil
  | x :: l, h => by
    simp only [nodupN, Bool.and_eq_true, Bool.not_eq_true'] at h
    refine List.nodup_cons.2 ⟨fun hm => ?_, nodupN_spec h.2⟩
    rw [memN_iff.2 hm] at h
    simp at h
theorem allGe_spec {base : Nat} : ∀ {l : List Nat}, allGe base l = true → ∀ t ∈ l, base ≤ t
  | [], _, t, ht => by simp at ht
  | x :: l, h, t, ht => by
    simp only [allGe, Bool.and_eq_true] at h
    rcases List.mem_cons.1 ht with rfl | ht
    · exact Nat.le_of_ble_eq_true h.1
    · exact allGe_spec h.2 t ht
theorem idxOf_spec {t : Nat} : ∀ {l : List Nat}, t ∈ l → l[idxOf t l]? = some t
  | [], h => by simp at h
  | x :: l, h => by
    unfold idxOf
    split
    · rename_i hb; simp [Nat.eq_of_beq_eq_true hb]
    · rename_i hb
      rcases List.mem_cons.1 h with rfl | h
      · rw [Nat.beq_refl] at hb; exact absurd rfl hb
      · simpa using idxOf_spec h
theorem pickAll_get {H : Hp} : ∀ {τ : List Nat} {objs : Hp}, pickAll H τ = some objs → objs.length = τ.length ∧ ∀ (i t : Nat), τ[i]? = some t → objs[i]? = H[t]? ∧ t < H.length
  | [], objs, h => by simp only [pickAll, Option.some.injEq] at h; subst h; simp
  | x :: τ, objs, h => by
    simp only [pickAll] at h
    split at h
    · rename_i o r ho hr
      cases h
      obtain ⟨h1, h2⟩ := pickAll_get hr
      refine ⟨by simp [h1], fun i t hi => ?_⟩
      cases i with
      | zero => simp at hi; subst hi; exact ⟨by simp [ho], (List.getElem?_eq_some_iff.1 ho).1⟩
      | succ i => simp at hi; simpa using h2 i t hi
    · cases h
theorem mem_hpToks {t : Nat} : ∀ {H : Hp} {i : Nat} {o : SObj}, H[i]? = some o → t ∈ o.toks → t ∈ hpToks H
  | [], i, o, h, _ => by simp at h
  | x :: H, 0, o, h, ht => by simp at h; subst h; simp [hpToks, ht]
  | x :: H, i + 1, o, h, ht => by simp at h; simp only [hpToks, List.mem_append]; exact .inr (mem_hpToks h ht)

theorem SObj.ok_of_toks {R : Nat → Prop} {w : World} {n n' : Nat} {ρ : Nat → Tk} {o : SObj} (h : ∀ t, t ∈ o.toks → t < n') (ho : o.ok R w ρ n) : o.ok R w ρ n' := by
  cases o with
  | cells l T => exact ⟨okL_of_toks l h ho.1, ho.2⟩
  | _ => trivial

/-- What a collection leaves: a heap that is worth as much, with tokens named anew. -/
theorem gc_spec {H H' : Hp} {base : Nat} {roots τ : List Nat} (h : gc H base roots = some (τ, H')) : base ≤ H.length ∧ base ≤ H'.length ∧
    ∀ (C : Cx) (ρ : Nat → Tk) (w : World), Rel C ρ H w → ∃ ρ' : Nat → Tk, (∀ t, t < base → ρ' t = ρ t) ∧ Rel C ρ' H' w ∧
      (τ = [] → ρ' = ρ ∧ ∀ t ∈ roots, t < H'.length) ∧ (τ ≠ [] → ∀ t ∈ roots, ρ' (gcMap base τ t) = ρ t ∧ gcMap base τ t < H'.length) := by
  unfold gc at h
  split at h
  · rename_i τ' hτ
    split at h
    · rename_i objs hobjs
      split at h
      · rename_i hc
        simp only [Bool.and_eq_true] at hc
        obtain ⟨⟨⟨⟨⟨c0, c1⟩, c2⟩, c3⟩, c4⟩, c5⟩ := hc
        have hb : base ≤ H.length := Nat.le_of_ble_eq_true c0
        have hnd := nodupN_spec c4
        have hge := allGe_spec c5
        obtain ⟨hol, hog⟩ := pickAll_get hobjs
        split at h
        · -- nothing is left above
          cases h
          have htl : (H.take base).length = base := by rw [List.length_take]; omega
          have hlt : ∀ t ∈ roots, t < base := fun t ht => by rcases allIn_iff c2 t ht with h | h; exact h; simp at h
          refine ⟨hb, by omega, fun C ρ w hR => ⟨ρ, fun _ _ => rfl, ?_, fun _ => ⟨rfl, fun t ht => by have := hlt t ht; omega⟩, fun h => absurd rfl h⟩⟩
          have hget : ∀ (t : Nat) (o : SObj), (H.take base)[t]? = some o → t < base ∧ H[t]? = some o := fun t o ho => by
            rw [List.getElem?_take] at ho
            split at ho
            · exact ⟨by assumption, ho⟩
            · cases ho
          have hblk : ∀ t b, blkOf ρ (H.take base) t = some b → blkOf ρ H t = some b := fun t b hb' => by
            obtain ⟨o, ho, h2⟩ := blkOf_get hb'
            rw [blkOf_eq (hget t o ho).2]; exact h2
          refine ⟨fun t o ho => hR.obj t o (hget t o ho).2, fun t t' b h1 h2 => hR.sep t t' b (hblk t b h1) (hblk t' b h2), fun t b h1 => hR.own t b (hblk t b h1), hR.hdr, hR.keep, hR.size, hR.os, hR.tape, hR.output, fun t o ho => ?_, hR.fit⟩
          refine SObj.ok_of_toks (fun s hs => ?_) (hR.ok t o (hget t o ho).2)
          rcases allIn_iff c1 s (mem_hpToks ho hs) with h | h
          · omega
          · simp at h
        · cases h
          have hne : τ ≠ [] := by assumption
          let orig : Nat → Nat := fun i => if i < base then i else (τ[i - base]?).getD 0
          have hg : ∀ t, (t < base ∨ t ∈ τ) → orig (gcMap base τ t) = t ∧ gcMap base τ t < base + τ.length := fun t ht => by
            by_cases hlt : t < base
            · have e : gcMap base τ t = t := by
                unfold gcMap; rw [if_pos (show Nat.blt t base = true from Nat.ble_eq_true_of_le hlt)]
              rw [e]; exact ⟨by simp [orig, hlt], by omega⟩
            · have hm : t ∈ τ := ht.resolve_left hlt
              have e : gcMap base τ t = base + idxOf t τ := by
                unfold gcMap; rw [if_neg (fun hb : Nat.blt t base = true => hlt (Nat.le_of_ble_eq_true hb))]
              have hi := idxOf_spec hm
              have hil := (List.getElem?_eq_some_iff.1 hi).1
              rw [e]
              refine ⟨?_, by omega⟩
              simp only [orig]
              rw [if_neg (by omega), show base + idxOf t τ - base = idxOf t τ by omega, hi]; rfl
          have hlen : (((H.take base) ++ objs).map (SObj.ren (gcMap base τ))).length = base + τ.length := by simp [hol]; omega
          have hget : ∀ (i : Nat) (o' : SObj), (((H.take base) ++ objs).map (SObj.ren (gcMap base τ)))[i]? = some o' → ∃ o, H[orig i]? = some o ∧ o' = o.ren (gcMap base τ) ∧ (∀ t ∈ o.toks, t < base ∨ t ∈ τ) := fun i o' ho => by
            rw [List.getElem?_map] at ho
            cases hq : (H.take base ++ objs)[i]? with
            | none => simp [hq] at ho
            | some o =>
              simp only [hq, Option.map_some, Option.some.injEq] at ho
              by_cases hi : i < base
              · have h1 : (H.take base)[i]? = some o := by rw [← hq, List.getElem?_append_left (by simp; omega)]
                refine ⟨o, ?_, ho.symm, fun t ht => allIn_iff c1 t (mem_hpToks h1 ht)⟩
                rw [List.getElem?_take, if_pos hi] at h1
                simp only [orig, if_pos hi]; exact h1
              · have h1 : objs[i - base]? = some o := by
                  rw [← hq, List.getElem?_append_right (by simp; omega)]; congr 1; simp; omega
                have hil : i - base < τ.length := by rw [← hol]; exact (List.getElem?_eq_some_iff.1 h1).1
                have h2 := hog (i - base) τ[i - base] (List.getElem?_eq_getElem hil)
                refine ⟨o, ?_, ho.symm, fun t ht => allIn_iff c3 t (mem_hpToks h1 ht)⟩
                simp only [orig, if_neg hi]
                rw [List.getElem?_eq_getElem hil, Option.getD_some, ← h2.1]; exact h1
          have hinj : ∀ i j, i < base + τ.length → j < base + τ.length → orig i = orig j → i = j := fun i j hi hj e => by
            simp only [orig] at e
            by_cases h1 : i < base <;> by_cases h2 : j < base
            · rw [if_pos h1, if_pos h2] at e; exact e
            · rw [if_pos h1, if_neg h2, List.getElem?_eq_getElem (show j - base < τ.length by omega), Option.getD_some] at e
              have := hge _ (List.getElem_mem (show j - base < τ.length by omega)); omega
            · rw [if_neg h1, if_pos h2, List.getElem?_eq_getElem (show i - base < τ.length by omega), Option.getD_some] at e
              have := hge _ (List.getElem_mem (show i - base < τ.length by omega)); omega
            · rw [if_neg h1, if_neg h2, List.getElem?_eq_getElem (show i - base < τ.length by omega), List.getElem?_eq_getElem (show j - base < τ.length by omega), Option.getD_some, Option.getD_some] at e
              have := (List.getElem_inj hnd).1 e
              omega
          refine ⟨hb, by omega, fun C ρ w hR => ?_⟩
          have hρ : ∀ t, (t < base ∨ t ∈ τ) → (fun i => ρ (orig i)) (gcMap base τ t) = ρ t ∧ gcMap base τ t < base + τ.length := fun t ht => ⟨by simp only [(hg t ht).1], (hg t ht).2⟩
          refine ⟨fun i => ρ (orig i), fun t ht => by simp only [orig, if_pos ht], ?_, fun h => absurd h hne, fun _ t ht => by rw [hlen]; exact hρ t (allIn_iff c2 t ht)⟩
          have hobjblk : ∀ (tk : Tk) (o : SObj), objBlk tk (o.ren (gcMap base τ)) = objBlk tk o := fun tk o => by cases o <;> rfl
          have hblk : ∀ i b, blkOf (fun i => ρ (orig i)) (((H.take base) ++ objs).map (SObj.ren (gcMap base τ))) i = some b → i < base + τ.length ∧ blkOf ρ H (orig i) = some b := fun i b hb' => by
            have hl := blkOf_lt_len hb'
            rw [hlen] at hl
            obtain ⟨o', ho', h2⟩ := blkOf_get hb'
            obtain ⟨o, g1, g2, _⟩ := hget i o' ho'
            refine ⟨hl, ?_⟩
            rw [blkOf_eq g1, ← hobjblk, ← g2]; exact h2
          refine ⟨fun i o' ho' => ?_, fun i j b h1 h2 => ?_, fun i b h1 => hR.own _ b (hblk i b h1).2, fun t => hR.hdr _, hR.keep, hR.size, hR.os, hR.tape, hR.output, fun i o' ho' => ?_, hR.fit⟩
          · obtain ⟨o, g1, g2, g3⟩ := hget i o' ho'
            have hob := hR.obj _ o g1
            have hok := hR.ok _ o g1
            subst g2
            cases o with
            | cells l T =>
              have := renL_spec (R := C.R) (w := C.w1) (ρ := ρ) (ρ' := fun i => ρ (orig i)) l (fun t ht => hρ t (g3 t ht)) hok.1
              simp only [SObj.ren, ObjRel] at hob ⊢
              rw [this.2.2]; exact hob
            | seq κ xs E => exact hob
            | dead => trivial
          · obtain ⟨l1, e1⟩ := hblk i b h1
            obtain ⟨l2, e2⟩ := hblk j b h2
            exact hinj i j l1 l2 (hR.sep _ _ b e1 e2)
          · obtain ⟨o, g1, g2, g3⟩ := hget i o' ho'
            have hok := hR.ok _ o g1
            subst g2
            rw [hlen]
            cases o with
            | cells l T =>
              have := renL_spec (R := C.R) (w := C.w1) (ρ := ρ) (ρ' := fun i => ρ (orig i)) l (fun t ht => hρ t (g3 t ht)) hok.1
              exact ⟨this.2.1, by rw [ren_leaves]; exact hok.2⟩
            | seq κ xs E => trivial
            | dead => trivial
      · cases h
    · cases h
  · cases h
end Go.Proofs.Ytkjellhkamfciaa.Sx
