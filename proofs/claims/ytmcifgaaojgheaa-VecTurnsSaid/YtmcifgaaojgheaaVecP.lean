/- vec: its values, plainly. -/
import Derived.Test.YtmcifgaaojgheaaVecV
import Derived.Test.YtmcifgaaojgheaaFxP
namespace Go.Proofs.Ytmcifgaaojgheaa.Sx
open Go
set_option linter.unusedVariables false
set_option linter.unusedSimpArgs false
theorem onF {β : Type} {o : Option β} {bad : Bool} : V.on o bad = false ↔ (∃ n, o = some n) ∧ bad = false := by
  unfold V.on; cases o <;> simp
theorem on_some {β : Type} (n : β) (b : Bool) : V.on (some n) b = b := rfl
theorem on_none {β : Type} (b : Bool) : V.on (none : Option β) b = true := rfl
theorem no_false {l : List (Option Int)} : V.no l = false ↔ ∀ o ∈ l, ∃ n, o = some n := by
  unfold V.no
  rw [List.any_eq_false]
  constructor
  · intro h o ho
    have := h o ho
    cases o with
    | none => simp at this
    | some n => exact ⟨n, rfl⟩
  · intro h o ho
    obtain ⟨n, rfl⟩ := h o ho
    simp
theorem guard_some' {β : Type} {c : Bool} {o : Option β} {m : β} : (if c = true then none else o) = some m ↔ c = false ∧ o = some m := by cases c <;> simp
theorem t3_some {a b c : Option Int} {t : V.T3} : V.t3 a b c = some t ↔ a = some t.1 ∧ b = some t.2.1 ∧ c = some t.2.2 := by
  unfold V.t3
  rw [guard_some', no_false]
  obtain ⟨x, y, z⟩ := t
  cases a <;> cases b <;> cases c <;> simp [V.gv]
theorem t4_some {a b c d : Option Int} {t : V.T4} : V.t4 a b c d = some t ↔ a = some t.1 ∧ b = some t.2.1 ∧ c = some t.2.2.1 ∧ d = some t.2.2.2 := by
  unfold V.t4
  rw [guard_some', no_false]
  obtain ⟨x, y, z, w⟩ := t
  cases a <;> cases b <;> cases c <;> cases d <;> simp [V.gv]
theorem tAdd_some {a b t : V.T3} : V.tAdd a b = some t ↔ V.mAdd a.1 b.1 = some t.1 ∧ V.mAdd a.2.1 b.2.1 = some t.2.1 ∧ V.mAdd a.2.2 b.2.2 = some t.2.2 := t3_some
theorem tSub_some {a b t : V.T3} : V.tSub a b = some t ↔ V.mSub a.1 b.1 = some t.1 ∧ V.mSub a.2.1 b.2.1 = some t.2.1 ∧ V.mSub a.2.2 b.2.2 = some t.2.2 := t3_some
theorem tScale_some {a t : V.T3} {n : Int} : V.tScale a n = some t ↔ V.mMul a.1 n = some t.1 ∧ V.mMul a.2.1 n = some t.2.1 ∧ V.mMul a.2.2 n = some t.2.2 := t3_some
theorem negO {n m : Int} : V.mSub 0 n = some m ↔ Gd n ∧ m = -n := by
  rw [mSub_some]; unfold Gd; omega
theorem ex_neg {n : Int} : (∃ m, V.mSub 0 n = some m) ↔ Gd n := by
  constructor
  · rintro ⟨m, h⟩; exact (negO.1 h).1
  · intro h; exact ⟨-n, negO.2 ⟨h, rfl⟩⟩
theorem gv_neg {n : Int} (h : Gd n) : V.gv (V.mSub 0 n) = -n := by rw [negO.2 ⟨h, rfl⟩]; rfl
theorem tCross_some {a b t : V.T3} : V.tCross a b = some t ↔ V.mDot [a.2.1, a.2.2] [b.2.2, -b.2.1] = some t.1 ∧ V.mDot [a.2.2, a.1] [b.1, -b.2.2] = some t.2.1 ∧ V.mDot [a.1, a.2.1] [b.2.1, -b.1] = some t.2.2 := by
  unfold V.tCross
  rw [guard_some', no_false, t3_some]
  simp only [List.mem_cons, List.not_mem_nil, or_false, forall_eq_or_imp, forall_eq, ex_neg]
  constructor
  · rintro ⟨⟨h1, h2, h3⟩, h⟩
    rwa [gv_neg h1, gv_neg h2, gv_neg h3] at h
  · intro h
    have g1 : Gd b.1 := (mDot2_some.1 h.2.1).2.2.1
    have g2 : Gd b.2.1 := (mDot2_some.1 h.2.2).2.2.1
    have g3 : Gd b.2.2 := (mDot2_some.1 h.1).2.2.1
    rw [gv_neg g1, gv_neg g2, gv_neg g3]
    exact ⟨⟨g1, g2, g3⟩, h⟩
theorem tUnit_some {a t : V.T3} : V.tUnit a = some t ↔ ∃ n, V.tLen a = some n ∧ V.mDiv a.1 n = some t.1 ∧ V.mDiv a.2.1 n = some t.2.1 ∧ V.mDiv a.2.2 n = some t.2.2 := by
  unfold V.tUnit
  rw [guard_some', no_false, t3_some]
  simp only [List.mem_cons, List.not_mem_nil, or_false, forall_eq]
  constructor
  · rintro ⟨⟨n, hn⟩, h⟩
    rw [hn] at h
    exact ⟨n, hn, h⟩
  · rintro ⟨n, hn, h⟩
    rw [hn]
    exact ⟨⟨n, rfl⟩, h⟩
theorem tWhole_some {q t : V.T4} : V.tWhole q = some t ↔ ∃ n, V.tLen4 q = some n ∧ 2147483648 ≤ n ∧ V.mDiv q.1 n = some t.1 ∧ V.mDiv q.2.1 n = some t.2.1 ∧ V.mDiv q.2.2.1 n = some t.2.2.1 ∧ V.mDiv q.2.2.2 n = some t.2.2.2 := by
  unfold V.tWhole
  by_cases hc : V.gv (V.tLen4 q) < 2147483648 ∨ V.no [V.tLen4 q] = true
  · rw [if_pos hc]
    constructor
    · intro h; cases h
    · rintro ⟨n, hn, h1, _⟩
      rw [hn] at hc
      rcases hc with hc | hc
      · rw [gv_some] at hc; omega
      · cases hc
  · rw [if_neg hc, t4_some]
    have h2 : V.no [V.tLen4 q] = false := by cases h : V.no [V.tLen4 q] <;> simp_all
    obtain ⟨n, hn⟩ := no_false.1 h2 (V.tLen4 q) (by simp)
    rw [hn] at hc ⊢
    rw [gv_some] at hc ⊢
    constructor
    · intro h
      exact ⟨n, rfl, by omega, h⟩
    · rintro ⟨m, hm, _, h⟩
      cases hm
      exact h
theorem tTurn_some {m : V.T9} {a t : V.T3} : V.tTurn m a = some t ↔ V.tDot m.1 a = some t.1 ∧ V.tDot m.2.1 a = some t.2.1 ∧ V.tDot m.2.2 a = some t.2.2 := t3_some
end Go.Proofs.Ytmcifgaaojgheaa.Sx
