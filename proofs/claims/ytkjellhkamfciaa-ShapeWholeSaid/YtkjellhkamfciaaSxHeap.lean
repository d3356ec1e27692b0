/- SX: how the relation between symbolic heaps and worlds is kept by new blocks, stores, and reads. -/
import Derived.Test.YtkjellhkamfciaaSxSem
namespace Go.Proofs.Ytkjellhkamfciaa.Sx
open Go Go.RowKit

def ext (ρ : Nat → Tk) (n : Nat) (tk : Tk) : Nat → Tk := fun t => if t = n then tk else ρ t
theorem ext_lt {ρ : Nat → Tk} {n : Nat} {tk : Tk} : ∀ t, t < n → ext ρ n tk t = ρ t := fun t h => by
  unfold ext; rw [if_neg (by omega)]
theorem ext_self {ρ : Nat → Tk} {n : Nat} {tk : Tk} : ext ρ n tk n = tk := by simp [ext]

theorem SObj.ok_mono {R : Nat → Prop} {w : World} {ρ : Nat → Tk} {n m : Nat} (h : n ≤ m) {o : SObj} (ho : o.ok R w ρ n) : o.ok R w ρ m := by
  cases o with
  | cells l T => exact ⟨okL_mono h _ ho.1, ho.2⟩
  | _ => trivial

theorem SObj.ok_agree {R : Nat → Prop} {w : World} {ρ ρ' : Nat → Tk} {n : Nat} (h : ∀ t, t < n → ρ' t = ρ t) {o : SObj} (ho : o.ok R w ρ n) : o.ok R w ρ' n := by
  cases o with
  | cells l T => exact ⟨okL_agree h _ ho.1, ho.2⟩
  | _ => trivial

theorem ObjRel.agree {C : Cx} {ρ ρ' : Nat → Tk} {w w' : World} {n : Nat} {tk : Tk} {o : SObj} (h : ObjRel ρ w tk o) (ho : o.ok C.R C.w1 ρ n) (hr : ∀ t, t < n → ρ' t = ρ t)
    (hw : ∀ b, objBlk tk o = some b → w'.heap[b]? = w.heap[b]?) : ObjRel ρ' w' tk o := by
  cases o with
  | cells l T =>
    simp only [ObjRel, SObj.ok] at h ho ⊢
    rw [hw _ rfl, denC_agree hr l ho.1]; exact h
  | seq κ xs E =>
    simp only [ObjRel] at h ⊢
    refine ⟨⟨h.1.1, ?_⟩, h.2⟩
    rcases h.1.2 with h1 | ⟨g, cap, cur, e, h2, h3, rest⟩
    · exact .inl h1
    · refine .inr ⟨g, cap, cur, e, h2, ?_, rest⟩
      rw [hw g (by simp only [objBlk, e, Value.ownBlock])]; exact h3
  | dead => trivial

/-- A new object. -/
theorem Rel.push {C : Cx} {ρ : Nat → Tk} {H : Hp} {w w' : World} (h : Rel C ρ H w) (o : SObj) (tk : Tk)
    (hw : ∀ b, b < w.heap.size → w'.heap[b]? = w.heap[b]?) (hs : w.heap.size ≤ w'.heap.size) (hos : w'.os = w.os) (htp : w'.tape = w.tape) (hout : w'.output = w.output)
    (hobj : ObjRel (ext ρ H.length tk) w' tk o) (hblk : ∀ b, objBlk tk o = some b → w.heap.size ≤ b)
    (hok : o.ok C.R C.w1 (ext ρ H.length tk) (H.length + 1)) (hhdr : ∃ a n c, tk.hdr = .slice a n c) : Rel C (ext ρ H.length tk) (H ++ [o]) w' := by
  have hold : ∀ t o', t < H.length → (H ++ [o])[t]? = some o' → H[t]? = some o' := fun t o' ht ho => by
    rw [List.getElem?_append_left ht] at ho; exact ho
  have hnew : ∀ t o', ¬ t < H.length → (H ++ [o])[t]? = some o' → t = H.length ∧ o' = o := fun t o' ht ho => by
    have hl := (List.getElem?_eq_some_iff.1 ho).1
    simp at hl
    have : t = H.length := by omega
    subst this
    simp at ho
    exact ⟨rfl, ho.symm⟩
  have hb : ∀ t b, blkOf (ext ρ H.length tk) (H ++ [o]) t = some b → (t < H.length ∧ blkOf ρ H t = some b) ∨ (t = H.length ∧ w.heap.size ≤ b) := fun t b hb => by
    have hl := blkOf_lt_len hb
    simp at hl
    by_cases ht : t < H.length
    · refine .inl ⟨ht, ?_⟩
      unfold blkOf at hb ⊢
      rw [List.getElem?_append_left ht, ext_lt t ht] at hb
      exact hb
    · have ht' : t = H.length := by omega
      subst ht'
      refine .inr ⟨rfl, hblk b ?_⟩
      rw [blkOf_eq (o := o) (by simp), ext_self] at hb
      exact hb
  refine ⟨?_, ?_, ?_, ?_, ?_, ?_, ?_, ?_, ?_, ?_, h.fit⟩
  · intro t o' ho
    by_cases ht : t < H.length
    · have ho' := hold t o' ht ho
      rw [ext_lt t ht]
      refine (h.obj t o' ho').agree (C := C) (n := H.length) (h.ok t o' ho') ext_lt fun b hb' => hw b ?_
      exact blk_lt h (t := t) (by rw [blkOf_eq ho']; exact hb')
    · obtain ⟨rfl, rfl⟩ := hnew t o' ht ho
      rw [ext_self]; exact hobj
  · intro t t' b h1 h2
    rcases hb t b h1 with ⟨g1, g2⟩ | ⟨g1, g2⟩ <;> rcases hb t' b h2 with ⟨g3, g4⟩ | ⟨g3, g4⟩
    · exact h.sep t t' b g2 g4
    · have := blk_lt h g2; omega
    · have := blk_lt h g4; omega
    · omega
  · intro t b h1
    rcases hb t b h1 with ⟨_, g2⟩ | ⟨_, g2⟩
    · exact h.own t b g2
    · exact h.fit.new b (Nat.le_trans h.size g2)
  · intro t
    by_cases ht : t = H.length
    · subst ht; rw [ext_self]; exact hhdr
    · unfold ext; rw [if_neg ht]; exact h.hdr t
  · intro b h1 h2
    rw [hw b (Nat.lt_of_lt_of_le h1 h.size)]; exact h.keep b h1 h2
  · exact Nat.le_trans h.size hs
  · rw [hos]; exact h.os
  · rw [htp]; exact h.tape
  · rw [hout]; exact h.output
  · intro t o' ho
    rw [List.length_append, List.length_singleton]
    by_cases ht : t < H.length
    · exact SObj.ok_mono (by omega) (SObj.ok_agree ext_lt (h.ok t o' (hold t o' ht ho)))
    · obtain ⟨rfl, rfl⟩ := hnew t o' ht ho
      exact hok

/-- A new block of cells. -/
theorem Rel.newCells {C : Cx} {ρ : Nat → Tk} {H : Hp} {w : World} (h : Rel C ρ H w) (l : List SV) (T : TypeId) (hl : SV.okL C.R C.w1 ρ H.length l) (hb : leavesB l = true) :
    Rel C (ext ρ H.length ⟨w.heap.size, .slice none 0 0⟩) (H ++ [.cells l T]) (w.alloc (.cells (denC ρ l).toArray T)) := by
  refine h.push (.cells l T) ⟨w.heap.size, .slice none 0 0⟩ (fun b hb => Below.heap_alloc w _ b hb) (by simp) rfl rfl rfl ?_ ?_ ⟨okL_mono (by omega) l (okL_agree ext_lt l hl), hb⟩ ⟨_, _, _, rfl⟩
  · simp only [ObjRel]
    rw [denC_agree ext_lt l hl]
    exact heap_alloc_new w _
  · intro b hb; cases hb; exact Nat.le_refl _

/-- A new block of elements. -/
theorem Rel.newSeq {C : Cx} {ρ : Nat → Tk} {H : Hp} {w : World} (h : Rel C ρ H w) (κ : K) (xs : List κ.T) (E : TypeId) (hmax : xs.length ≤ maxLen) :
    Rel C (ext ρ H.length ⟨w.heap.size, .slice (some ⟨w.heap.size, 0, none⟩) xs.length xs.length⟩) (H ++ [.seq κ xs E]) (w.alloc (.cells (xs.flatMap κ.cells).toArray E)) := by
  refine h.push (.seq κ xs E) _ (fun b hb => Below.heap_alloc w _ b hb) (by simp) rfl rfl rfl ?_ ?_ trivial ⟨_, _, _, rfl⟩
  · simp only [ObjRel]
    refine ⟨⟨cells_flat_length κ xs, .inr ⟨w.heap.size, xs.length, _, rfl, Nat.zero_le _, heap_alloc_new w _, Nat.le_refl _, hmax, by rw [List.size_toArray]; exact cells_flat_length κ xs, ?_⟩⟩, fun b hb => by simpa [Value.ownBlock] using hb.symm⟩
    rw [← cells_flat_length κ xs]
    exact List.take_length
  · intro b hb
    simp only [objBlk, Value.ownBlock, Option.some.injEq] at hb
    omega

/-- A block is written anew. -/
theorem Rel.setObj {C : Cx} {ρ : Nat → Tk} {H : Hp} {w w' : World} (h : Rel C ρ H w) {t : Nat} {o o' : SObj} (ht : H[t]? = some o) (hb : blkOf ρ H t = some (ρ t).blk)
    (hw : ∀ b, b ≠ (ρ t).blk → w'.heap[b]? = w.heap[b]?) (hs : w'.heap.size = w.heap.size) (hos : w'.os = w.os) (htp : w'.tape = w.tape) (hout : w'.output = w.output)
    (hobj : ObjRel ρ w' (ρ t) o') (hk : blkOf ρ (H.set t o') t = some (ρ t).blk) (hok : o'.ok C.R C.w1 ρ H.length) : Rel C ρ (H.set t o') w' := by
  have hlt := (List.getElem?_eq_some_iff.1 ht).1
  have hblk : ∀ s b, blkOf ρ (H.set t o') s = some b → blkOf ρ H s = some b := fun s b hs => by
    by_cases e : s = t
    · subst e; rw [hk] at hs; rw [hb]; exact hs
    · unfold blkOf at hs ⊢
      rwa [List.getElem?_set_ne (Ne.symm e)] at hs
  refine ⟨?_, fun s s' b h1 h2 => h.sep s s' b (hblk s b h1) (hblk s' b h2), fun s b h1 => h.own s b (hblk s b h1), h.hdr, ?_, by rw [hs]; exact h.size, by rw [hos]; exact h.os, by rw [htp]; exact h.tape, by rw [hout]; exact h.output, ?_, h.fit⟩
  · intro s os hs'
    by_cases e : t = s
    · subst e
      rw [List.getElem?_set_self hlt] at hs'
      cases hs'; exact hobj
    · rw [List.getElem?_set_ne e] at hs'
      refine (h.obj s os hs').agree (C := C) (n := H.length) (h.ok s os hs') (fun _ _ => rfl) fun b hb' => hw b fun e' => e ?_
      subst e'
      exact h.sep t s _ hb (by rw [blkOf_eq hs']; exact hb')
  · intro b h1 h2
    rw [hw b (fun e => h2 (e ▸ h.own t _ hb))]
    exact h.keep b h1 h2
  · intro s os hs'
    rw [List.length_set]
    by_cases e : t = s
    · subst e
      rw [List.getElem?_set_self hlt] at hs'
      cases hs'; exact hok
    · rw [List.getElem?_set_ne e] at hs'
      exact h.ok s os hs'

section
variable {P : Program} (E : Env)
theorem run_isAgg {T : TypeId} {g : Bool} (h : E.isAgg T = some g) (w : World) : (isAgg T).run E.P w = .ok g w := by
  unfold Env.isAgg at h
  cases hu : E.P.underlying T with
  | none => simp [hu] at h
  | some d =>
    rw [hu] at h
    unfold Go.isAgg
    rw [Sem.run_bind, run_underlying hu w]
    cases d <;> simp_all
theorem run_sizeOf {T : TypeId} {n : Nat} (h : E.size T = some n) (w : World) : (sizeOf T).run E.P w = .ok n w := by
  unfold Env.size at h
  cases hi : E.P.info? T with
  | none => simp [hi] at h
  | some i =>
    rw [hi] at h
    simp only [Option.map_some, Option.some.injEq] at h
    simp [sizeOf, typeInfo, hi, h]
/-- What is loaded from cells that are known. -/
theorem run_loadVar {T : TypeId} {g : Bool} {n : Nat} (hg : E.isAgg T = some g) (hn : E.size T = some n) (w : World) (b o : Nat) (cs : List Value) (hl : cs.length = n)
    (h : ∀ j v, cs[j]? = some v → w.cell? ⟨b, o + j, none⟩ = some v) (v : Value) (hv : if g then v = .agg cs.toArray else cs = [v]) : (loadVar T ⟨b, o, none⟩).run E.P w = .ok v w := by
  have hadd : ∀ j, (⟨b, o, none⟩ : Addr).add j = ⟨b, o + j, none⟩ := fun j => by unfold Addr.add; split <;> simp_all
  unfold loadVar
  rw [Sem.run_bind, run_isAgg E hg]
  cases g with
  | true =>
    simp only [if_true] at hv
    subst hv
    have := run_loadCells_list (P := E.P) w ⟨b, o, none⟩ cs (fun j v hv => by rw [hadd]; exact h j v hv)
    rw [hl] at this
    simp [run_sizeOf E hn, this]
  | false =>
    simp only [Bool.false_eq_true, if_false] at hv
    subst hv
    have := h 0 v rfl
    simp only [Nat.add_zero] at this
    simp [this]
end
theorem mkVal_den {ρ : Nat → Tk} {g : Bool} {l : List SV} {v : SV} (h : mkVal g l = some v) : if g then den ρ v = .agg (denC ρ l).toArray else denC ρ l = [den ρ v] := by
  unfold mkVal at h
  split at h
  · cases h; simp [den]
  · cases h
  · rename_i x hx
    cases h
    simp only [Bool.false_eq_true, if_false, denC, List.append_nil]
    cases v <;> first | rfl | (exact absurd rfl (hx _ _ _))
  · cases h
theorem mkVal_ok {R : Nat → Prop} {w : World} {ρ : Nat → Tk} {n : Nat} {g : Bool} {l : List SV} {v : SV} (h : mkVal g l = some v) (ho : SV.okL R w ρ n l) : v.ok R w ρ n := by
  unfold mkVal at h
  split at h
  · cases h; simpa [SV.ok] using ho
  · cases h
  · cases h; simp only [SV.okL] at ho; exact ho.1
  · cases h
end Go.Proofs.Ytkjellhkamfciaa.Sx
