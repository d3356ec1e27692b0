/- SX: what a function does over a small heap it does in any heap. -/
import Derived.Test.YtkjellhkamfciaaSxExec
namespace Go.Proofs.Ytkjellhkamfciaa.Sx
open Go Go.RowKit

mutual
/-- Nothing in it is read off memory that came in. -/
def SV.free : SV → Bool
  | .rix _ _ _ _ _ => false
  | .ros _ _ _ => false
  | .fn _ a b => SV.freeL a && SV.freeL b
  | .agg l => SV.freeL l
  | .tup l => SV.freeL l
  | _ => true
def SV.freeL : List SV → Bool
  | [] => true
  | x :: l => x.free && SV.freeL l
end
def SObj.free : SObj → Bool
  | .cells l _ => SV.freeL l
  | _ => true
mutual
theorem ok_free {R R' : Nat → Prop} {w w' : World} {ρ : Nat → Tk} {n : Nat} : ∀ (v : SV), v.free = true → v.ok R w ρ n → v.ok R' w' ρ n
  | .ptr _ _, _, hv => by simp only [SV.ok] at hv ⊢; exact hv
  | .aix _ _ _ _ _, _, hv => by simp only [SV.ok] at hv ⊢; exact hv
  | .pix _ _ _ _, _, hv => by simp only [SV.ok] at hv ⊢; exact hv
  | .sub _ _ _ _, _, hv => by simp only [SV.ok] at hv ⊢; exact hv
  | .sl _, _, hv => by simp only [SV.ok] at hv ⊢; exact hv
  | .rix _ _ _ _ _, h, _ => by simp [SV.free] at h
  | .ros _ _ _, h, _ => by simp [SV.free] at h
  | .fn _ a b, h, hv => by
    simp only [SV.free, Bool.and_eq_true] at h
    simp only [SV.ok] at hv ⊢
    exact ⟨okL_free a h.1 hv.1, okL_free b h.2 hv.2⟩
  | .raw _, _, hv => by simp only [SV.ok] at hv ⊢; exact hv
  | .arr _ _ _, _, hv => by simp only [SV.ok] at hv ⊢; exact hv
  | .agg l, h, hv => by simp only [SV.free] at h; simp only [SV.ok] at hv ⊢; exact okL_free l h hv
  | .tup l, h, hv => by simp only [SV.free] at h; simp only [SV.ok] at hv ⊢; exact okL_free l h hv
  | .int _ _, _, _ => by simp only [SV.ok]
  | .bool _, _, _ => by simp only [SV.ok]
theorem okL_free {R R' : Nat → Prop} {w w' : World} {ρ : Nat → Tk} {n : Nat} : ∀ (l : List SV), SV.freeL l = true → SV.okL R w ρ n l → SV.okL R' w' ρ n l
  | [], _, _ => by simp only [SV.okL]
  | x :: l, h, hv => by
    simp only [SV.freeL, Bool.and_eq_true] at h
    simp only [SV.okL] at hv ⊢
    exact ⟨ok_free x h.1 hv.1, okL_free l h.2 hv.2⟩
end

theorem RosOk.more {R R' : Nat → Prop} {w : World} (h : ∀ b, R b → R' b) {v : Value} {κ : K} {xs : List κ.T} (hr : RosOk R w v κ xs) : RosOk R' w v κ xs := by
  rcases hr with h0 | ⟨ad, cap, e, hl, hs, hR, hc⟩
  · exact .inl h0
  · exact .inr ⟨ad, cap, e, hl, hs, h _ hR, hc⟩
mutual
theorem ok_more {R R' : Nat → Prop} {w : World} {ρ : Nat → Tk} {n : Nat} (h : ∀ b, R b → R' b) : ∀ (v : SV), v.ok R w ρ n → v.ok R' w ρ n
  | .ptr _ _, hv => by simp only [SV.ok] at hv ⊢; exact hv
  | .aix _ _ _ _ _, hv => by simp only [SV.ok] at hv ⊢; exact hv
  | .pix _ _ _ _, hv => by simp only [SV.ok] at hv ⊢; exact hv
  | .sub _ _ _ _, hv => by simp only [SV.ok] at hv ⊢; exact hv
  | .sl _, hv => by simp only [SV.ok] at hv ⊢; exact hv
  | .rix _ _ _ _ _, hv => by simp only [SV.ok] at hv ⊢; exact ⟨hv.1.more h, hv.2⟩
  | .ros _ _ _, hv => by simp only [SV.ok] at hv ⊢; exact hv.more h
  | .fn _ a b, hv => by simp only [SV.ok] at hv ⊢; exact ⟨okL_more h a hv.1, okL_more h b hv.2⟩
  | .raw _, hv => by simp only [SV.ok] at hv ⊢; exact hv
  | .arr _ _ _, hv => by simp only [SV.ok] at hv ⊢; exact hv
  | .agg l, hv => by simp only [SV.ok] at hv ⊢; exact okL_more h l hv
  | .tup l, hv => by simp only [SV.ok] at hv ⊢; exact okL_more h l hv
  | .int _ _, _ => by simp only [SV.ok]
  | .bool _, _ => by simp only [SV.ok]
theorem okL_more {R R' : Nat → Prop} {w : World} {ρ : Nat → Tk} {n : Nat} (h : ∀ b, R b → R' b) : ∀ (l : List SV), SV.okL R w ρ n l → SV.okL R' w ρ n l
  | [], _ => by simp only [SV.okL]
  | x :: l, hv => by simp only [SV.okL] at hv ⊢; exact ⟨ok_more h x hv.1, okL_more h l hv.2⟩
end

theorem setAll_length : ∀ (σ : List Nat) (H os : Hp), (setAll H σ os).length = H.length
  | [], H, os => by cases os <;> rfl
  | s :: σ, H, [] => rfl
  | s :: σ, H, o :: os => by simp only [setAll]; rw [setAll_length σ]; simp
theorem setAll_not : ∀ (σ : List Nat) (H os : Hp) (t : Nat), t ∉ σ → (setAll H σ os)[t]? = H[t]?
  | [], H, os, t, _ => by cases os <;> rfl
  | s :: σ, H, [], t, _ => rfl
  | s :: σ, H, o :: os, t, h => by
    simp only [List.mem_cons, not_or] at h
    simp only [setAll]
    rw [setAll_not σ _ _ t h.2, List.getElem?_set_ne (Ne.symm h.1)]
theorem setAll_get : ∀ (σ : List Nat) (H os : Hp) (i s : Nat), σ.Nodup → (∀ s ∈ σ, s < H.length) → σ.length ≤ os.length → σ[i]? = some s → (setAll H σ os)[s]? = os[i]?
  | [], H, os, i, s, _, _, _, h => by simp at h
  | s' :: σ, H, [], i, s, _, _, hl, _ => by simp at hl
  | s' :: σ, H, o :: os, 0, s, hn, hlt, _, h => by
    simp at h; subst h
    simp only [setAll]
    rw [setAll_not σ _ _ _ (List.nodup_cons.1 hn).1, List.getElem?_set_self (hlt _ (by simp))]; rfl
  | s' :: σ, H, o :: os, i + 1, s, hn, hlt, hl, h => by
    simp at h
    simp only [setAll]
    rw [setAll_get σ _ _ i s (List.nodup_cons.1 hn).2 (fun x hx => by rw [List.length_set]; exact hlt x (by simp [hx])) (by simpa using hl) h]; rfl

/-- The surroundings of the function's own run. -/
def Cx.call (C : Cx) (ρ : Nat → Tk) (H : Hp) (σ ex : List Nat) (w : World) : Cx :=
  { R := fun b => C.R b ∨ ∃ t ∈ ex, blkOf ρ H t = some b, w1 := w, Own := fun b => w.heap.size ≤ b ∨ ∃ t ∈ σ, blkOf ρ H t = some b }

theorem objBlk_ren {g : Nat → Nat} (tk : Tk) (o : SObj) : objBlk tk (o.ren g) = objBlk tk o := by cases o <;> rfl

/-- **A call, seen from a greater heap.** -/
theorem Sound.adapt {P : Program} {f : FuncId} {Hin H H0 : Hp} {v0 : SV} {args : List SV} (σ ex : List Nat) (hnd : σ.Nodup) (hlt : ∀ s ∈ σ, s < H.length) (hdis : ∀ t ∈ ex, t ∉ σ) (hlen : Hin.length = σ.length)
    (hH : ∀ (i s : Nat) (o : SObj), σ[i]? = some s → Hin[i]? = some o → H[s]? = some o ∧ o.toks = [])
    (hfree : ex = [] ∨ (v0.free = true ∧ ∀ o ∈ H0, SObj.free o = true))
    (hargs : ∀ (C : Cx) (ρ : Nat → Tk) (w : World), Rel C ρ H w → SV.okL C.R C.w1 ρ H.length args → ∀ ρ0 : Nat → Tk, (∀ i s, σ[i]? = some s → ρ0 i = ρ s) →
      ∃ args0, denL ρ0 args0 = denL ρ args ∧ SV.okL (C.call ρ H σ ex w).R w ρ0 Hin.length args0 ∧ Sound P f args0 Hin v0 H0) :
    Sound P f args H (v0.ren (gAd σ H.length)) (backH σ H H0) := by
  have hbl : ∀ H0 : Hp, σ.length ≤ H0.length → (backH σ H H0).length = H.length + (H0.length - σ.length) := fun H0 hl => by
    unfold backH; rw [List.length_append, setAll_length, List.length_map, List.length_drop]
  refine ⟨by unfold backH; rw [List.length_append, setAll_length]; omega, fun C ρ w hR hok => ?_⟩
  -- the small run
  let ρ0 : Nat → Tk := fun i => ρ (σ.getD i 0)
  have hρ0 : ∀ i s, σ[i]? = some s → ρ0 i = ρ s := fun i s h => by simp only [ρ0]; rw [List.getD_eq_getElem?_getD, h]; rfl
  obtain ⟨args0, hden, hok0, hS⟩ := hargs C ρ w hR hok ρ0 hρ0
  have hl0 : σ.length ≤ H0.length := by rw [← hlen]; exact hS.len
  have hget : ∀ (i : Nat) (o : SObj), Hin[i]? = some o → ∃ s, σ[i]? = some s ∧ H[s]? = some o ∧ o.toks = [] ∧ s ∈ σ := fun i o ho => by
    have hi : i < σ.length := by rw [← hlen]; exact (List.getElem?_eq_some_iff.1 ho).1
    have hs : σ[i]? = some σ[i] := List.getElem?_eq_getElem hi
    exact ⟨_, hs, (hH i _ o hs ho).1, (hH i _ o hs ho).2, List.getElem_mem hi⟩
  have hblk0 : ∀ i b, blkOf ρ0 Hin i = some b → ∃ s, σ[i]? = some s ∧ s ∈ σ ∧ blkOf ρ H s = some b := fun i b hb => by
    obtain ⟨o, ho, h2⟩ := blkOf_get hb
    obtain ⟨s, h3, h4, _, h5⟩ := hget i o ho
    exact ⟨s, h3, h5, by rw [blkOf_eq h4, ← hρ0 i s h3]; exact h2⟩
  have hroK : ∀ b, C.R b → w.heap[b]? = C.w1.heap[b]? := hR.roKeep
  have hfit : (C.call ρ H σ ex w).Fit := ⟨fun b hb => .inl hb, fun b hr => by
    rcases hr with hr | ⟨t, ht, hb⟩
    · have hl : b < w.heap.size := Nat.lt_of_lt_of_le (hR.fit.ro b hr).1 hR.size
      refine ⟨hl, fun hc => ?_⟩
      rcases hc with hc | ⟨s, _, hs⟩
      · exact absurd hl (Nat.not_lt.2 hc)
      · exact (hR.fit.ro b hr).2 (hR.own s b hs)
    · have hl := blk_lt hR hb
      refine ⟨hl, fun hc => ?_⟩
      rcases hc with hc | ⟨s, hs, hs2⟩
      · exact absurd hl (Nat.not_lt.2 hc)
      · exact hdis t ht (hR.sep t s b hb hs2 ▸ hs)⟩
  have hrel0 : Rel (C.call ρ H σ ex w) ρ0 Hin w := by
    refine ⟨fun i o ho => ?_, fun i j b h1 h2 => ?_, fun i b h1 => ?_, fun i => hR.hdr _, fun _ _ _ => rfl, Nat.le_refl _, rfl, rfl, rfl, fun i o ho => ?_, hfit⟩
    · obtain ⟨s, h3, h4, h5, _⟩ := hget i o ho
      have hob := hR.obj s o h4
      rw [hρ0 i s h3]
      cases o with
      | cells l T =>
        simp only [ObjRel] at hob ⊢
        have e : denC ρ0 l = denC ρ l := by
          have := renL_spec (R := C.R) (w := C.w1) (ρ := ρ) (ρ' := ρ0) (n' := Hin.length) (g := id) l (fun t ht => by simp only [SObj.toks] at h5; rw [h5] at ht; cases ht) (hR.ok s _ h4).1
          rw [renL_id (g := id) l (fun _ _ => rfl)] at this
          exact this.2.2
        rw [e]; exact hob
      | seq κ xs E => exact hob
      | dead => trivial
    · obtain ⟨s, a1, _, a3⟩ := hblk0 i b h1
      obtain ⟨s', b1, _, b3⟩ := hblk0 j b h2
      have := hR.sep s s' b a3 b3
      subst this
      have hi := (List.getElem?_eq_some_iff.1 a1).1
      have hj := (List.getElem?_eq_some_iff.1 b1).1
      have e1 := (List.getElem?_eq_some_iff.1 a1).2
      have e2 := (List.getElem?_eq_some_iff.1 b1).2
      exact (List.getElem_inj hnd).1 (e1.trans e2.symm)
    · obtain ⟨s, _, a2, a3⟩ := hblk0 i b h1
      exact .inr ⟨s, a2, a3⟩
    · obtain ⟨s, h3, h4, h5, _⟩ := hget i o ho
      have := hR.ok s o h4
      cases o with
      | cells l T =>
        refine ⟨?_, this.2⟩
        have hw := okL_world hroK l this.1
        have hl := okL_of_toks (n' := Hin.length) l (fun t ht => by simp only [SObj.toks] at h5; rw [h5] at ht; cases ht) this.1
        have h6 := renL_spec (R := C.R) (w := C.w1) (ρ := ρ) (ρ' := ρ0) (n' := Hin.length) (g := id) l (fun t ht => by simp only [SObj.toks] at h5; rw [h5] at ht; cases ht) this.1
        rw [renL_id (g := id) l (fun _ _ => rfl)] at h6
        exact okL_more (fun _ h => .inl h) l (okL_world hroK l h6.2.1)
      | _ => trivial
  have hcall := hS.run _ ρ0 w hrel0 hok0
  rw [hden] at hcall
  refine hcall.mono fun e w' hq => ?_
  obtain ⟨ρ1, q1, q2, q3, q4⟩ := hq
  -- back
  let ρ' : Nat → Tk := fun t => if t < H.length then ρ t else ρ1 (t - H.length + σ.length)
  have hρ' : ∀ t, t < H.length → ρ' t = ρ t := fun t ht => by simp only [ρ', if_pos ht]
  have hg : ∀ s, s < H0.length → ρ' (gAd σ H.length s) = ρ1 s ∧ gAd σ H.length s < (backH σ H H0).length := fun s hs => by
    unfold gAd
    by_cases h : s < σ.length
    · rw [if_pos (show Nat.blt s σ.length = true from Nat.ble_eq_true_of_le h), List.getD_eq_getElem?_getD, List.getElem?_eq_getElem h, Option.getD_some]
      have h1 := hlt _ (List.getElem_mem h)
      refine ⟨?_, by rw [hbl H0 hl0]; omega⟩
      rw [hρ' _ h1, q1 s (by rw [hlen]; exact h), hρ0 s _ (List.getElem?_eq_getElem h)]
    · rw [if_neg (fun hb : Nat.blt s σ.length = true => h (Nat.le_of_ble_eq_true hb))]
      refine ⟨?_, by rw [hbl H0 hl0]; omega⟩
      simp only [ρ']
      rw [if_neg (by omega), show H.length + (s - σ.length) - H.length + σ.length = s by omega]
  -- where an object comes from
  have hor : ∀ t o, (backH σ H H0)[t]? = some o → (t < H.length ∧ t ∉ σ ∧ H[t]? = some o) ∨ ∃ i a, H0[i]? = some a ∧ o = a.ren (gAd σ H.length) ∧ ρ' t = ρ1 i ∧ gAd σ H.length i = t := fun t o ho => by
    unfold backH at ho
    by_cases ht : t < H.length
    · rw [List.getElem?_append_left (by rw [setAll_length]; exact ht)] at ho
      by_cases hs : t ∈ σ
      · obtain ⟨i, hi, e⟩ := List.mem_iff_getElem.1 hs
        have h1 : σ[i]? = some t := by rw [List.getElem?_eq_getElem hi, e]
        rw [setAll_get σ H _ i t hnd hlt (by rw [List.length_map, List.length_take]; omega) h1, List.getElem?_map, List.getElem?_take, if_pos hi] at ho
        cases hq0 : H0[i]? with
        | none => rw [hq0] at ho; cases ho
        | some a =>
          rw [hq0] at ho
          simp only [Option.map_some, Option.some.injEq] at ho
          have e2 : gAd σ H.length i = t := by
            unfold gAd
            rw [if_pos (show Nat.blt i σ.length = true from Nat.ble_eq_true_of_le hi), List.getD_eq_getElem?_getD, h1]; rfl
          exact .inr ⟨i, a, hq0, ho.symm, by rw [← e2]; exact (hg i (by omega)).1, e2⟩
      · rw [setAll_not σ H _ t hs] at ho; exact .inl ⟨ht, hs, ho⟩
    · rw [List.getElem?_append_right (by rw [setAll_length]; omega), setAll_length, List.getElem?_map, List.getElem?_drop] at ho
      cases hq0 : H0[σ.length + (t - H.length)]? with
      | none => rw [hq0] at ho; cases ho
      | some a =>
        rw [hq0] at ho
        simp only [Option.map_some, Option.some.injEq] at ho
        have e2 : gAd σ H.length (σ.length + (t - H.length)) = t := by
          unfold gAd
          rw [if_neg (fun hb : Nat.blt _ σ.length = true => by have := Nat.le_of_ble_eq_true hb; omega)]; omega
        exact .inr ⟨_, a, hq0, ho.symm, by
          have := (hg (σ.length + (t - H.length)) (List.getElem?_eq_some_iff.1 hq0).1).1
          rw [e2] at this; exact this, e2⟩
  have hb : ∀ t b, blkOf ρ' (backH σ H H0) t = some b → (t < H.length ∧ t ∉ σ ∧ blkOf ρ H t = some b) ∨ ∃ i, blkOf ρ1 H0 i = some b ∧ gAd σ H.length i = t := fun t b hb => by
    obtain ⟨o, ho, h2⟩ := blkOf_get hb
    rcases hor t o ho with ⟨h3, h4, h5⟩ | ⟨i, a, h3, rfl, h4, h5⟩
    · exact .inl ⟨h3, h4, by rw [blkOf_eq h5, ← hρ' t h3]; exact h2⟩
    · refine .inr ⟨i, ?_, h5⟩
      rw [blkOf_eq h3, ← h4]
      rw [objBlk_ren] at h2; exact h2
  have hapart : ∀ t i b, t ∉ σ → blkOf ρ H t = some b → blkOf ρ1 H0 i = some b → False := fun t i b hT h1 h2 => by
    have hl := blk_lt hR h1
    rcases q3.own i b h2 with hc | ⟨s, hs, hs2⟩
    · exact absurd hl (Nat.not_lt.2 hc)
    · exact hT (hR.sep t s b h1 hs2 ▸ hs)
  have hout : ∀ b, b < w.heap.size → (∀ t, t ∈ σ → blkOf ρ H t ≠ some b) → w'.heap[b]? = w.heap[b]? := fun b hl hn => q3.keep b hl fun hc => by
    rcases hc with hc | ⟨t, ht, ht2⟩
    · exact absurd hl (Nat.not_lt.2 hc)
    · exact hn t ht ht2
  have okBack : ∀ v : SV, (ex = [] ∨ v.free = true) → v.ok (C.call ρ H σ ex w).R w ρ1 H0.length → v.ok C.R C.w1 ρ1 H0.length := fun v hf hv => by
    rcases hf with he | hf
    · subst he
      have : v.ok C.R w ρ1 H0.length := by
        have e : (C.call ρ H σ [] w).R = C.R := by funext b; simp [Cx.call]
        rw [e] at hv; exact hv
      exact ok_world (fun b hb => (hroK b hb).symm) v this
    · exact ok_free v hf hv
  have okBackL : ∀ l : List SV, (ex = [] ∨ SV.freeL l = true) → SV.okL (C.call ρ H σ ex w).R w ρ1 H0.length l → SV.okL C.R C.w1 ρ1 H0.length l := fun l hf hv => by
    rcases hf with he | hf
    · subst he
      have : SV.okL C.R w ρ1 H0.length l := by
        have e : (C.call ρ H σ [] w).R = C.R := by funext b; simp [Cx.call]
        rw [e] at hv; exact hv
      exact okL_world (fun b hb => (hroK b hb).symm) l this
    · exact okL_free l hf hv
  have hfv : ex = [] ∨ v0.free = true := hfree.imp id (·.1)
  have hvr := ren_spec (ρ' := ρ') (n' := (backH σ H H0).length) v0 (fun t ht => hg t (toks_lt v0 q4 t ht)) (okBack v0 hfv q4)
  refine ⟨ρ', hρ', by rw [hvr.1]; exact q2, ⟨fun t o ho => ?_, fun t u b h1 h2 => ?_, fun t b h1 => ?_, fun t => ?_, fun b h1 h2 => ?_, Nat.le_trans hR.size q3.size, q3.os.trans hR.os, q3.tape.trans hR.tape, q3.output.trans hR.output, fun t o ho => ?_, hR.fit⟩, hvr.2⟩
  · rcases hor t o ho with ⟨h3, h4, h5⟩ | ⟨i, a, h3, rfl, h4, h5⟩
    · rw [hρ' t h3]
      refine (hR.obj t o h5).agree (C := C) (n := H.length) (hR.ok t o h5) hρ' fun b hbb => hout b ?_ fun s hs hs2 => ?_
      · exact blk_lt hR (t := t) (by rw [blkOf_eq h5]; exact hbb)
      · exact h4 (hR.sep t s b (by rw [blkOf_eq h5]; exact hbb) hs2 ▸ hs)
    · rw [h4]
      have hob := q3.obj i a h3
      have hok1 := q3.ok i a h3
      cases a with
      | cells l T =>
        have := renL_spec (ρ' := ρ') (n' := (backH σ H H0).length) l (fun s hs => hg s (toksL_lt l hok1.1 s hs)) hok1.1
        simp only [SObj.ren, ObjRel] at hob ⊢
        rw [this.2.2]; exact hob
      | seq κ xs E => exact hob
      | dead => trivial
  · rcases hb t b h1 with ⟨_, a2, a3⟩ | ⟨i, a3, a4⟩ <;> rcases hb u b h2 with ⟨_, b2, b3⟩ | ⟨j, b3, b4⟩
    · exact hR.sep t u b a3 b3
    · exact (hapart t j b a2 a3 b3).elim
    · exact (hapart u i b b2 b3 a3).elim
    · have := q3.sep i j b a3 b3
      subst this
      exact a4.symm.trans b4
  · rcases hb t b h1 with ⟨_, _, a3⟩ | ⟨i, a3, _⟩
    · exact hR.own t b a3
    · rcases q3.own i b a3 with hc | ⟨s, _, hs2⟩
      · exact hR.fit.new b (Nat.le_trans hR.size hc)
      · exact hR.own s b hs2
  · simp only [ρ']
    split
    · exact hR.hdr t
    · exact q3.hdr _
  · rw [hout b (Nat.lt_of_lt_of_le h1 hR.size) fun t _ ht => h2 (hR.own t b ht)]
    exact hR.keep b h1 h2
  · rcases hor t o ho with ⟨h3, h4, h5⟩ | ⟨i, a, h3, rfl, h4, h5⟩
    · exact SObj.ok_mono (by rw [hbl H0 hl0]; omega) (SObj.ok_agree hρ' (hR.ok t o h5))
    · have hok1 := q3.ok i a h3
      cases a with
      | cells l T =>
        have hfl : ex = [] ∨ SV.freeL l = true := hfree.imp id fun h => h.2 _ (List.mem_of_getElem? h3)
        have := renL_spec (ρ' := ρ') (n' := (backH σ H H0).length) l (fun s hs => hg s (toksL_lt l hok1.1 s hs)) (okBackL l hfl hok1.1)
        exact ⟨this.2.1, by rw [ren_leaves]; exact hok1.2⟩
      | seq κ xs E => trivial
      | dead => trivial
end Go.Proofs.Ytkjellhkamfciaa.Sx
