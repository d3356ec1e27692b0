/- SX: the executor is sound. -/
import Derived.Test.YtkjellhkamfciaaSxDraw5
namespace Go.Proofs.Ytkjellhkamfciaa.Sx
open Go Go.RowKit

section
variable (E : Env) {α : Type}
/-- A loop that is carried out round by round. -/
theorem nilObj_spec {C : Cx} {ρ : Nat → Tk} {H : Hp} {w : World} (h : Rel C ρ H w) (i : Nat) : H.length ≤ (nilObj E i H).length ∧ ∃ ρ', (∀ t, t < H.length → ρ' t = ρ t) ∧ Rel C ρ' (nilObj E i H) w := by
  unfold nilObj
  split
  · rename_i l T hi
    split
    · split
      · rename_i ts _
        have hlt := (List.getElem?_eq_some_iff.1 hi).1
        have hok := h.ok i _ hi
        obtain ⟨ρ', g1, g2, g3, g4, g5⟩ := nilz_spec E ts l ρ H h hok.1 hok.2 (.inr (.inr trivial))
        refine ⟨by simp, ρ', g1, ?_⟩
        have hi' : (H ++ (nilz E ts l H.length).2)[i]? = some (.cells l T) := by rw [List.getElem?_append_left hlt]; exact hi
        have hob := g2.obj i _ hi'
        have := g2.setObj (o' := .cells (nilz E ts l H.length).1 T) (w' := w) hi' (by rw [blkOf_eq hi']; rfl) (fun _ _ => rfl) rfl rfl rfl rfl
          (by simp only [ObjRel] at hob ⊢; rw [g3, hob, denC_agree g1 l hok.1]) (by rw [blkOf_eq (o := .cells (nilz E ts l H.length).1 T) (by rw [List.getElem?_set_self (by simp; omega)])]; rfl) ⟨g4, g5⟩
        rwa [List.set_append_left _ _ hlt] at this
      · exact ⟨Nat.le_refl _, ρ, fun _ _ => rfl, h⟩
    · exact ⟨Nat.le_refl _, ρ, fun _ _ => rfl, h⟩
  · exact ⟨Nat.le_refl _, ρ, fun _ _ => rfl, h⟩
theorem nilGo_len : ∀ (n i : Nat) (H : Hp), H.length ≤ (nilGo E n i H).length
  | 0, i, H => Nat.le_refl _
  | n + 1, i, H => by
    refine Nat.le_trans ?_ (nilGo_len n (i + 1) (nilObj E i H))
    unfold nilObj
    split
    · split
      · split <;> simp
      · exact Nat.le_refl _
    · exact Nat.le_refl _
theorem nilGo_spec {C : Cx} {w : World} : ∀ (n i : Nat) (H : Hp) (ρ : Nat → Tk), Rel C ρ H w → ∃ ρ', (∀ t, t < H.length → ρ' t = ρ t) ∧ Rel C ρ' (nilGo E n i H) w
  | 0, i, H, ρ, h => ⟨ρ, fun _ _ => rfl, h⟩
  | n + 1, i, H, ρ, h => by
    obtain ⟨l1, ρ1, a1, a2⟩ := nilObj_spec E h i
    obtain ⟨ρ2, b1, b2⟩ := nilGo_spec n (i + 1) _ ρ1 a2
    exact ⟨ρ2, fun t ht => by rw [b1 t (by omega), a1 t ht], b2⟩
theorem nilSt_sound {S : St} {K : St → Option α} {r : α} (h : nilSt E S K = some r) : ∃ S', K S' = some r ∧ SameGood S.H.length S S' := by
  unfold nilSt at h
  split at h
  · refine ⟨_, h, nilGo_len E _ _ _, fun C ρ tmps w hF hR => ?_⟩
    obtain ⟨ρ', a1, a2⟩ := nilGo_spec E S.H.length 0 S.H ρ hR
    exact ⟨ρ', a1, hF.next a1 (nilGo_len E _ _ _), a2⟩
  · exact ⟨S, h, Nat.le_refl _, fun C ρ tmps w hF hR => ⟨ρ, fun _ _ => rfl, hF, hR⟩⟩
theorem CodeGood.thenSame {P : Program} {base : Nat} {c : Code} {S S1 S' : St} (h : CodeGood P base c S .normal S1) (h2 : SameGood S1.H.length S1 S') : CodeGood P base c S .normal S' :=
  ⟨Nat.le_trans h.len h2.len, fun C ρ a w hd hF hR => wp_mono (h.wp C ρ a w hd hF hR) fun ex a' w' hp => by
    obtain ⟨p1, ρ', p2, p3, p4, p5⟩ := hp
    obtain ⟨ρ2, q1, q2, q3⟩ := h2.rel C ρ' a'.tmps w' p3 p4
    exact ⟨p1, ρ2, p2, q2, q3, fun t ht => by rw [q1 t (Nat.lt_of_lt_of_le ht h.len), p5 t ht]⟩⟩
theorem loop_sound {fid : FuncId} {path : List Bool} {base : Nat} {x : Code} {run : RunF α} (ih : RunOk E.P run) (hst : Stands E.P fid path (.loop x)) {L : Nat} {S0 : St} {K : Ex → St → Option α} {r : α} (hb : base ≤ S0.H.length)
    (h0 : iter (loopStep E run fid path base x) L S0 K = some r) : ∃ e S', K e S' = some r ∧ CodeGood E.P base (.loop x) S0 e S' := by
  obtain ⟨e, S1, h1, l1, g1⟩ := iter_sound E (c := x) (base := base) (fun S K r hb h => by
    unfold loopStep at h
    obtain ⟨e, S1, h1, g1⟩ := ih fid (false :: path) base x S _ r (sub_step hst fun root hr => by simp [sub, hr]) hb h
    cases e with
    | normal =>
      obtain ⟨S2, h2, g2⟩ := cleanL_sound E h1
      exact ⟨.normal, S1, S2, h2, g1, g2⟩
    | exit id =>
      obtain ⟨S2, h2, g2⟩ := cleanX_sound E h1
      exact ⟨.exit id, S1, S2, h2, g1, g2⟩
    | ret =>
      obtain ⟨S2, h2, g2⟩ := cleanX_sound E h1
      exact ⟨.ret, S1, S2, h2, g1, g2⟩) L S0 K r hb h0
  refine ⟨e, S1, h1, ⟨l1, fun C ρ a w hd hF hR b k cs => ?_⟩⟩
  obtain ⟨ex, a', w', hp, harr⟩ := g1 C ρ a w hd hF hR b k cs
  exact ⟨ex, a', w', hp, .of_steps (.one step_loop) harr⟩

/-- **The executor is sound.** -/
theorem exec_sound (hE : EnvOk E) {look : LookF α} {lps : LookL α} (hlook : LookOk E.P look) (hlps : LoopsOk E.P lps) : ∀ n, RunOk E.P (exec E look lps n)
  | 0 => fun fid path base c S K r _ _ h => by simp [exec] at h
  | n + 1 => by
    intro fid path base c S K r hst hb h
    have ih := exec_sound hE hlook hlps n
    cases c with
    | skip => exact ⟨.normal, S, by simpa [exec] using h, hb, fun C ρ a w hd hF hR => wp_skip ⟨rfl, ρ, hd, hF, hR, fun _ _ => rfl⟩⟩
    | label l => exact ⟨.normal, S, by simpa [exec] using h, hb, fun C ρ a w hd hF hR => wp_label ⟨rfl, ρ, hd, hF, hR, fun _ _ => rfl⟩⟩
    | ret => exact ⟨.ret, S, by simpa [exec] using h, hb, fun C ρ a w hd hF hR => wp_ret ⟨rfl, ρ, hd, hF, hR, fun _ _ => rfl⟩⟩
    | exit id => exact ⟨.exit id, S, by simpa [exec] using h, hb, fun C ρ a w hd hF hR => wp_exit ⟨rfl, ρ, hd, hF, hR, fun _ _ => rfl⟩⟩
    | seq x y =>
      simp only [exec] at h
      obtain ⟨e, S1, h1, g1⟩ := ih fid (false :: path) base x S _ r (sub_step hst fun root hr => by simp [sub, hr]) hb h
      cases e with
      | normal =>
        obtain ⟨e2, S2, h2, g2⟩ := ih fid (true :: path) base y S1 K r (sub_step hst fun root hr => by simp [sub, hr]) g1.len h1
        refine ⟨e2, S2, h2, g2.len, fun C ρ a w hd hF hR => wp_seq (wp_mono (g1.wp C ρ a w hd hF hR) fun ex a' w' hp => ?_)⟩
        obtain ⟨p1, ρ', p2, p3, p4, p5⟩ := hp
        subst p1
        refine wp_mono (g2.wp C ρ' a' w' p2 p3 p4) fun ex2 a2 w2 hp2 => ?_
        obtain ⟨q1, ρ2, q2, q3, q4, q5⟩ := hp2
        exact ⟨q1, ρ2, q2, q3, q4, fun t ht => by rw [q5 t ht, p5 t ht]⟩
      | exit id =>
        refine ⟨.exit id, S1, h1, g1.len, fun C ρ a w hd hF hR => wp_seq (wp_mono (g1.wp C ρ a w hd hF hR) fun ex a' w' hp => ?_)⟩
        obtain ⟨p1, hp⟩ := hp
        subst p1
        exact ⟨rfl, hp⟩
      | ret =>
        refine ⟨.ret, S1, h1, g1.len, fun C ρ a w hd hF hR => wp_seq (wp_mono (g1.wp C ρ a w hd hF hR) fun ex a' w' hp => ?_)⟩
        obtain ⟨p1, hp⟩ := hp
        subst p1
        exact ⟨rfl, hp⟩
    | cond x y z =>
      simp only [exec] at h
      split at h
      · rename_i t ht
        -- the slot of the test is written out
        have hS : ∀ (b : Bool), t = b → SameGood base S (setOpd x b S) := by
          intro b hbt
          cases x with
          | tmp d =>
            have hd : S.F[d]? = some (some (.bool t)) := by
              simp only [opd] at ht
              cases hq : S.F[d]? with
              | none => simp [hq] at ht
              | some y => cases y <;> simp_all
            exact ⟨hb, fun C ρ tmps w hF hR => ⟨ρ, fun _ _ => rfl, hF.same hd hbt, hR⟩⟩
          | _ => exact ⟨hb, fun C ρ tmps w hF hR => ⟨ρ, fun _ _ => rfl, hF, hR⟩⟩
        split at h
        · rename_i htt
          obtain ⟨e, S1, h1, g1⟩ := ih fid (false :: path) base y _ K r (sub_step hst fun root hr => by simp [sub, hr]) (hS true htt).len h
          have g2 := CodeGood.after (hS true htt) g1
          refine ⟨e, S1, h1, g2.len, fun C ρ a w hd hF hR => ?_⟩
          obtain ⟨e1, _⟩ := opd_spec hF ht
          exact wp_cond (t := true) (by rw [e1, htt]; rfl) (g2.wp C ρ a w hd hF hR)
        · rename_i htt
          have htf : t = false := by simpa using htt
          obtain ⟨e, S1, h1, g1⟩ := ih fid (true :: path) base z _ K r (sub_step hst fun root hr => by simp [sub, hr]) (hS false htf).len h
          have g2 := CodeGood.after (hS false htf) g1
          refine ⟨e, S1, h1, g2.len, fun C ρ a w hd hF hR => ?_⟩
          obtain ⟨e1, _⟩ := opd_spec hF ht
          exact wp_cond (t := false) (by rw [e1, htf]; rfl) (g2.wp C ρ a w hd hF hR)
      · cases h
    | block id x =>
      simp only [exec] at h
      obtain ⟨e, S1, h1, g1⟩ := ih fid (false :: path) base x S _ r (sub_step hst fun root hr => by simp [sub, hr]) hb h
      cases e with
      | normal =>
        refine ⟨.normal, S1, h1, g1.len, fun C ρ a w hd hF hR => wp_block (wp_mono (g1.wp C ρ a w hd hF hR) fun ex a' w' hp => ?_)⟩
        obtain ⟨p1, hp⟩ := hp
        subst p1
        exact ⟨rfl, hp⟩
      | ret =>
        refine ⟨.ret, S1, h1, g1.len, fun C ρ a w hd hF hR => wp_block (wp_mono (g1.wp C ρ a w hd hF hR) fun ex a' w' hp => ?_)⟩
        obtain ⟨p1, hp⟩ := hp
        subst p1
        exact ⟨rfl, hp⟩
      | exit id' =>
        simp only at h1
        split at h1
        · rename_i he
          have he' := Nat.eq_of_beq_eq_true he
          refine ⟨.normal, S1, h1, g1.len, fun C ρ a w hd hF hR => wp_block (wp_mono (g1.wp C ρ a w hd hF hR) fun ex a' w' hp => ?_)⟩
          obtain ⟨p1, hp⟩ := hp
          subst p1
          simp only [Ex.exit', Exit.inBlock, if_pos he']
          exact ⟨trivial, hp⟩
        · rename_i he
          have he' : id' ≠ id := fun e => he (by rw [e]; exact Nat.beq_refl _)
          refine ⟨.exit id', S1, h1, g1.len, fun C ρ a w hd hF hR => wp_block (wp_mono (g1.wp C ρ a w hd hF hR) fun ex a' w' hp => ?_)⟩
          obtain ⟨p1, hp⟩ := hp
          subst p1
          simp only [Ex.exit', Exit.inBlock, if_neg he']
          exact ⟨trivial, hp⟩
    | scope x =>
      simp only [exec] at h
      obtain ⟨e, S1, h1, g1⟩ := ih fid (false :: path) base x S _ r (sub_step hst fun root hr => by simp [sub, hr]) hb h
      refine ⟨e, S1, h1, g1.len, fun C ρ a w hd hF hR => wp_scope_straight (wp_mono (g1.wp C ρ a w hd hF hR) fun ex a' w' hp => ?_)⟩
      obtain ⟨p1, hp⟩ := hp
      subst p1
      cases e <;> exact ⟨rfl, hp⟩
    | loop x =>
      simp only [exec] at h
      obtain ⟨S0, h0, g0⟩ := cleanL_sound E h
      unfold loopAt at h0
      split at h0
      · rename_i l hl
        obtain ⟨e, S1, h1, g1⟩ := hlps fid path base S0 l hl x hst K r g0.len h0
        exact ⟨e, S1, h1, CodeGood.after g0 g1⟩
      · obtain ⟨e, S1, h1, g1⟩ := loop_sound E ih hst g0.len h0
        exact ⟨e, S1, h1, CodeGood.after g0 g1⟩
    | region id ops draw =>
      simp only [exec] at h
      split at h
      · rename_i hdr
        subst hdr
        split at h
        · rename_i hm
          obtain ⟨S1, h1, g1⟩ := draw_sound E hE (callI_sound E hlook ih) ops base S hb _ r hm h id
          obtain ⟨S', h2, g2⟩ := nilSt_sound E h1
          exact ⟨.normal, S', h2, g1.thenSame g2⟩
        · cases h
      · rename_i hdr
        have hdr' : draw = false := by simpa using hdr
        subst hdr'
        obtain ⟨S', h1, l1, g1⟩ := opsL_sound E hE (callI_sound E hlook ih) ops ops.toList S _ r h
        refine ⟨.normal, S', h1, Nat.le_trans hb l1, fun C ρ a w hd hF hR => wp_region_list (g1 C ρ a w hF hR _ fun ρ' a' w' hr hd' hF' hR' => ?_)⟩
        exact ⟨rfl, ρ', by rw [hd', hd], hF', hR', fun t ht => hr t (Nat.lt_of_lt_of_le ht hb)⟩
    | _ => simp [exec] at h
end
end Go.Proofs.Ytkjellhkamfciaa.Sx
