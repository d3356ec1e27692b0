/- SX: regions whose order is open, the main part: every order ends in the state of the run in the order of the text. -/
import Derived.Test.YtkjellhkamfciaaSxDraw
namespace Go.Proofs.Ytkjellhkamfciaa.Sx
open Go Go.RowKit

mutual
theorem ren_id {g : Nat → Nat} : ∀ (v : SV), (∀ t, t ∈ v.toks → g t = t) → v.ren g = v
  | .ptr t _, h => by simp only [SV.ren, h t (by simp [SV.toks])]
  | .aix t _ _ _ _, h => by simp only [SV.ren, h t (by simp [SV.toks])]
  | .pix t _ _ _, h => by simp only [SV.ren, h t (by simp [SV.toks])]
  | .sub t _ _ _, h => by simp only [SV.ren, h t (by simp [SV.toks])]
  | .sl t, h => by simp only [SV.ren, h t (by simp [SV.toks])]
  | .rix _ _ _ _ _, _ => by simp only [SV.ren]
  | .ros _ _ _, _ => by simp only [SV.ren]
  | .fn _ a b, h => by
    simp only [SV.toks, List.mem_append] at h
    simp only [SV.ren, renL_id a (fun t ht => h t (.inl ht)), renL_id b (fun t ht => h t (.inr ht))]
  | .raw _, _ => by simp only [SV.ren]
  | .arr _ _ _, _ => by simp only [SV.ren]
  | .agg l, h => by simp only [SV.toks] at h; simp only [SV.ren, renL_id l h]
  | .tup l, h => by simp only [SV.toks] at h; simp only [SV.ren, renL_id l h]
  | .int _ _, _ => by simp only [SV.ren]
  | .bool _, _ => by simp only [SV.ren]
theorem renL_id {g : Nat → Nat} : ∀ (l : List SV), (∀ t, t ∈ SV.toksL l → g t = t) → SV.renL g l = l
  | [], _ => by simp only [SV.renL]
  | x :: l, h => by
    simp only [SV.toksL, List.mem_append] at h
    simp only [SV.renL, ren_id x (fun t ht => h t (.inl ht)), renL_id l (fun t ht => h t (.inr ht))]
end
/-- What does not mention a token does not care what it stands for. -/
theorem den_toks {R : Nat → Prop} {w : World} {n n' : Nat} {ρ ρ' : Nat → Tk} (v : SV) (h : ∀ t, t ∈ v.toks → ρ' t = ρ t ∧ t < n') (hv : v.ok R w ρ n) : den ρ' v = den ρ v ∧ v.ok R w ρ' n' := by
  have := ren_spec (ρ' := ρ') (n' := n') (g := id) v h hv
  rwa [ren_id (g := id) v (fun _ _ => rfl)] at this
mutual
theorem toks_lt {R : Nat → Prop} {w : World} {ρ : Nat → Tk} {n : Nat} : ∀ (v : SV), v.ok R w ρ n → ∀ t, t ∈ v.toks → t < n
  | .ptr t _, h, s, hs => by simp [SV.toks] at hs; subst hs; exact h
  | .aix t _ _ _ _, h, s, hs => by simp [SV.toks] at hs; subst hs; exact h.1
  | .pix t _ _ _, h, s, hs => by simp [SV.toks] at hs; subst hs; exact h.1
  | .sub t _ _ _, h, s, hs => by simp [SV.toks] at hs; subst hs; exact h.1
  | .sl t, h, s, hs => by simp [SV.toks] at hs; subst hs; exact h
  | .rix _ _ _ _ _, _, s, hs => by simp [SV.toks] at hs
  | .ros _ _ _, _, s, hs => by simp [SV.toks] at hs
  | .fn _ a b, h, s, hs => by
    simp only [SV.ok] at h
    simp only [SV.toks, List.mem_append] at hs
    rcases hs with hs | hs
    · exact toksL_lt a h.1 s hs
    · exact toksL_lt b h.2 s hs
  | .raw _, _, s, hs => by simp [SV.toks] at hs
  | .arr _ _ _, _, s, hs => by simp [SV.toks] at hs
  | .agg l, h, s, hs => by simp only [SV.ok] at h; simp only [SV.toks] at hs; exact toksL_lt l h s hs
  | .tup l, h, s, hs => by simp only [SV.ok] at h; simp only [SV.toks] at hs; exact toksL_lt l h s hs
  | .int _ _, _, s, hs => by simp [SV.toks] at hs
  | .bool _, _, s, hs => by simp [SV.toks] at hs
theorem toksL_lt {R : Nat → Prop} {w : World} {ρ : Nat → Tk} {n : Nat} : ∀ (l : List SV), SV.okL R w ρ n l → ∀ t, t ∈ SV.toksL l → t < n
  | [], _, s, hs => by simp [SV.toksL] at hs
  | x :: l, h, s, hs => by
    simp only [SV.okL] at h
    simp only [SV.toksL, List.mem_append] at hs
    rcases hs with hs | hs
    · exact toks_lt x h.1 s hs
    · exact toksL_lt l h.2 s hs
end
theorem obj_toks_lt {R : Nat → Prop} {w : World} {ρ : Nat → Tk} {n : Nat} {o : SObj} (h : o.ok R w ρ n) : ∀ t, t ∈ o.toks → t < n := by
  cases o with
  | cells l T => exact toksL_lt l h.1
  | _ => intro t ht; simp [SObj.toks] at ht

/-- The newest object is given another token, one that nothing mentions. -/
theorem Rel.relocate {C : Cx} {ρ : Nat → Tk} {A H2 : Hp} {x : SObj} {w : World} {N s : Nat} (h : Rel C ρ (A ++ [x]) w) (hN : A.length = N) (hs : s < N)
    (hsA : ∀ (t : Nat) (o : SObj), (A ++ [x])[t]? = some o → s ∉ o.toks) (hl : H2.length = N)
    (hget : ∀ t o, H2[t]? = some o → (t = s ∧ o = x.ren (swapTo N s)) ∨ (t ≠ s ∧ ∃ a, A[t]? = some a ∧ o = a.ren (swapTo N s))) : Rel C (fun t => if t = s then ρ N else ρ t) H2 w := by
  have hg : ∀ t, t ≤ N → t ≠ s → (fun t => if t = s then ρ N else ρ t) (swapTo N s t) = ρ t ∧ swapTo N s t < N := fun t ht hts => by
    unfold swapTo
    by_cases e : t = N
    · subst e; rw [if_pos (Nat.beq_refl _)]; exact ⟨by simp, hs⟩
    · rw [if_neg (fun hb => e (Nat.eq_of_beq_eq_true hb))]
      exact ⟨by simp [hts], by omega⟩
  -- where an object comes from
  have hor : ∀ t o, H2[t]? = some o → ∃ t' a, (A ++ [x])[t']? = some a ∧ o = a.ren (swapTo N s) ∧ (if t = s then ρ N else ρ t) = ρ t' ∧ ((t = s ∧ t' = N) ∨ (t ≠ s ∧ t' = t ∧ t < N)) := fun t o ho => by
    rcases hget t o ho with ⟨rfl, rfl⟩ | ⟨hts, a, ha, rfl⟩
    · exact ⟨N, x, by rw [← hN]; simp, rfl, by simp, .inl ⟨rfl, rfl⟩⟩
    · have hlt := (List.getElem?_eq_some_iff.1 ha).1
      exact ⟨t, a, by rw [List.getElem?_append_left hlt]; exact ha, rfl, by simp [hts], .inr ⟨hts, rfl, by omega⟩⟩
  have hlen : (A ++ [x]).length = N + 1 := by simp [hN]
  have hobjblk : ∀ (tk : Tk) (o : SObj), objBlk tk (o.ren (swapTo N s)) = objBlk tk o := fun tk o => by cases o <;> rfl
  have hblk : ∀ t b, blkOf (fun t => if t = s then ρ N else ρ t) H2 t = some b → ∃ t', blkOf ρ (A ++ [x]) t' = some b ∧ ((t = s ∧ t' = N) ∨ (t ≠ s ∧ t' = t ∧ t < N)) := fun t b hb => by
    obtain ⟨o, ho, h2⟩ := blkOf_get hb
    obtain ⟨t', a, e1, e2, e3, e4⟩ := hor t o ho
    refine ⟨t', ?_, e4⟩
    rw [blkOf_eq e1, ← e3, ← hobjblk, ← e2]; exact h2
  have hspec : ∀ (t' : Nat) (a : SObj), (A ++ [x])[t']? = some a → ∀ t, t ∈ a.toks → (fun t => if t = s then ρ N else ρ t) (swapTo N s t) = ρ t ∧ swapTo N s t < N := fun t' a ha t ht => by
    have hlt := obj_toks_lt (h.ok t' a ha) t ht
    rw [hlen] at hlt
    exact hg t (by omega) (fun e => hsA t' a ha (e ▸ ht))
  refine ⟨fun t o ho => ?_, fun t u b h1 h2 => ?_, fun t b h1 => ?_, fun t => ?_, h.keep, h.size, h.os, h.tape, h.output, fun t o ho => ?_, h.fit⟩
  · obtain ⟨t', a, e1, rfl, e3, _⟩ := hor t o ho
    have hob := h.obj t' a e1
    have hok := h.ok t' a e1
    simp only [e3]
    cases a with
    | cells l T =>
      have := renL_spec (R := C.R) (w := C.w1) (ρ := ρ) (ρ' := fun t => if t = s then ρ N else ρ t) l (hspec t' _ e1) hok.1
      simp only [SObj.ren, ObjRel] at hob ⊢
      rw [this.2.2]; exact hob
    | seq κ xs E => exact hob
    | dead => trivial
  · obtain ⟨t', e1, e2⟩ := hblk t b h1
    obtain ⟨u', e3, e4⟩ := hblk u b h2
    have := h.sep t' u' b e1 e3
    rcases e2 with ⟨a1, a2⟩ | ⟨a1, a2, a3⟩ <;> rcases e4 with ⟨b1, b2⟩ | ⟨b1, b2, b3⟩ <;> omega
  · obtain ⟨t', e1, _⟩ := hblk t b h1
    exact h.own t' b e1
  · by_cases e : t = s
    · simp only [e, if_true]; exact h.hdr N
    · simp only [if_neg e]; exact h.hdr t
  · obtain ⟨t', a, e1, rfl, e3, _⟩ := hor t o ho
    have hok := h.ok t' a e1
    rw [hl]
    cases a with
    | cells l T =>
      have := renL_spec (R := C.R) (w := C.w1) (ρ := ρ) (ρ' := fun t => if t = s then ρ N else ρ t) l (hspec t' _ e1) hok.1
      exact ⟨this.2.1, by rw [ren_leaves]; exact hok.2⟩
    | seq κ xs E => trivial
    | dead => trivial

def getF (F : Fr) (d : Nat) : Option SV := (F[d]?).join
theorem getF_put (F : Fr) (dst : Option Tmp) (v : SV) (d : Nat) : getF (put F dst v) d = if dst = some d ∧ d < F.length then some v else getF F d := by
  cases dst with
  | none => simp [put]
  | some t =>
    simp only [put, getF, Option.some.injEq]
    by_cases e : t = d
    · subst e
      by_cases hl : t < F.length
      · simp [hl]
      · have hl' := Nat.le_of_not_lt hl
        have h1 : F[t]? = none := List.getElem?_eq_none hl'
        have h2 : (F.set t (some v))[t]? = none := List.getElem?_eq_none (by rw [List.length_set]; exact hl')
        rw [h1, h2, if_neg (fun h => hl h.2)]
    · rw [List.getElem?_set_ne e, if_neg (fun h => e h.1)]
theorem put_length (F : Fr) (dst : Option Tmp) (v : SV) : (put F dst v).length = F.length := by cases dst <;> simp [put]

theorem wp_unlisted {X : Array Bool} {n : Nat} (hX : X.size = n) {i : Nat} (hi : i < n) (h : X.getD i true = false) : X.getD i false = false := by
  have : i < X.size := by omega
  simp [this] at h ⊢; exact h
end Go.Proofs.Ytkjellhkamfciaa.Sx
