/- SX: operations on numbers, booleans, addresses, aggregates. -/
import Derived.Test.YtkjellhkamfciaaSxOps2
namespace Go.Proofs.Ytkjellhkamfciaa.Sx
open Go Go.RowKit

section
variable (E : Env)

theorem op_move {o : Oper} {F : Fr} {H : Hp} {x : Operand} {v : SV} (ho : o.op = .move x ∨ o.op = .assign x) (hx : opd F x = some v) : OpGood E.P o F H v H :=
  .val fun C ρ a w hF hR => by
    obtain ⟨h1, h2⟩ := opd_spec hF hx
    refine ⟨?_, h2⟩
    rcases ho with ho | ho <;> simp only [execOp, ho, h1, Sem.run_pure]

theorem op_pick {o : Oper} {F : Fr} {H : Hp} {c x y : Operand} {b : Bool} {v u : SV} (ho : o.op = .pick c x y) (hc : opd F c = some (.bool b)) (hx : opd F x = some v) (hy : opd F y = some u) :
    OpGood E.P o F H (if b then v else u) H :=
  .val fun C ρ a w hF hR => by
    obtain ⟨h1, _⟩ := opd_spec hF hc
    obtain ⟨h3, h4⟩ := opd_spec hF hx
    obtain ⟨h5, h6⟩ := opd_spec hF hy
    cases b
    · exact ⟨by simp [execOp, ho, h1, h5, den, asBool], h6⟩
    · exact ⟨by simp [execOp, ho, h1, h3, den, asBool], h4⟩

theorem op_nilCheck {o : Oper} {F : Fr} {H : Hp} {x : Operand} {t off : Nat} (ho : o.op = .nilCheck x) (hx : opd F x = some (.ptr t off)) : OpGood E.P o F H (.ptr t off) H :=
  .val fun C ρ a w hF hR => by
    obtain ⟨h1, h2⟩ := opd_spec hF hx
    exact ⟨by simp [execOp, ho, h1, den], h2⟩

theorem unS_spec {op : UnOp} {x v : SV} (h : unS op x = some v) (ρ : Nat → Tk) (R : Nat → Prop) (w1 : World) (n : Nat) (P : Program) (w : World) : (Op.unary op (den ρ x)).run P w = .ok (den ρ v) w ∧ v.ok R w1 ρ n := by
  unfold unS at h
  split at h <;> first | (cases h; done) | (cases h; simp [den, Op.unary, Op.intArith, Op.intBits, bxorI, SV.ok])
theorem op_unOp {o : Oper} {F : Fr} {H : Hp} {op : UnOp} {T : TypeId} {x : Operand} {u v : SV} (ho : o.op = .unOp op T x) (hx : opd F x = some u) (hv : unS op u = some v) : OpGood E.P o F H v H :=
  .val fun C ρ a w hF hR => by
    obtain ⟨h1, _⟩ := opd_spec hF hx
    obtain ⟨h3, h4⟩ := unS_spec hv ρ C.R C.w1 H.length E.P w
    exact ⟨by simp [execOp, ho, h1, h3], h4⟩

theorem op_convert {o : Oper} {F : Fr} {H : Hp} {src dst : TypeId} {x : Operand} {k k' : IntKind} {n : Int} (ho : o.op = .convert src dst x) (hx : opd F x = some (.int k' n)) (hd : E.P.underlying dst = some (.int k)) (hs : ∃ d, E.P.underlying src = some d) :
    OpGood E.P o F H (.int k (k.wrap n)) H :=
  .val fun C ρ a w hF hR => by
    obtain ⟨h1, _⟩ := opd_spec hF hx
    obtain ⟨d, hs⟩ := hs
    refine ⟨?_, by simp [SV.ok]⟩
    simp only [execOp, ho, h1, den, convert, Sem.run_bind, run_underlying hd, run_underlying hs, Result.andThen_ok]
    cases d <;> simp [Conv.intToInt]

theorem op_makeFunc {o : Oper} {F : Fr} {H : Hp} {f : FuncId} {first cap : Array Operand} {a b : List SV} (ho : o.op = .makeFunc (.func f) first cap) (ha : opds F first.toList = some a) (hb : opds F cap.toList = some b) :
    OpGood E.P o F H (.fn f a b) H :=
  .val fun C ρ A w hF hR => by
    obtain ⟨h1, h2⟩ := opds_spec hF ha
    obtain ⟨h3, h4⟩ := opds_spec hF hb
    refine ⟨?_, by simp only [SV.ok]; exact ⟨h2, h4⟩⟩
    simp only [execOp, ho, den, Instr.makeFunc, Sem.run_bind, Sem.run_pure, Result.andThen_ok]
    rw [← h1, ← h3]
    congr 3 <;> exact (Array.toList_inj.1 (by simp))

theorem binI_spec {α : Type} {op : BinOp} {k : IntKind} {a b : Int} {K : SV → Option α} {r : α} (h : binI op k a b K = some r) :
    ∃ v, K v = some r ∧ ∀ (ρ : Nat → Tk) (R : Nat → Prop) (w1 : World) (n : Nat) (T : TypeId) (P : Program) (w : World) (x y : Operand), (do eqGuard op T x y (.int k a) (.int k b); binOp op T (.int k a) (.int k b)).run P w = .ok (den ρ v) w ∧ v.ok R w1 ρ n := by
  unfold binI at h
  split at h
  all_goals first
    | (cases h; done)
    | (split at h <;> first
        | (cases h; done)
        | (rename_i hb; exact ⟨_, h, fun ρ R w1 n T P w x y => ⟨by simp [eqGuard, binOp, Op.intDiv, hb, den], by simp [SV.ok]⟩⟩))
    | exact ⟨_, h, fun ρ R w1 n T P w x y => ⟨by simp [eqGuard, binOp, Op.intArith, Op.intBits, Op.intCmp, den, bandI, borI, bxorI, bclrI, cEq_eq, cLt_eq, cLe_eq, bne], by simp [SV.ok]⟩⟩

theorem run_part {T : TypeId} {n : Nat} {ρ : Nat → Tk} {g : Bool} (hg : E.isAgg T = some g) (hn : E.size T = some n) {R : Nat → Prop} {w1 : World} {m : Nat} {l r : List SV} {off : Nat} {v : SV}
    (ho : SV.okL R w1 ρ m l) (ht : segTake l off n = some r) (hv : mkVal g r = some v) (w : World) : (part T (denC ρ l).toArray off).run E.P w = .ok (den ρ v) w ∧ v.ok R w1 ρ m := by
  obtain ⟨⟨A, B, e1, e2⟩, e3, e4, _⟩ := segTake_spec (ρ := ρ) ho ht
  refine ⟨?_, mkVal_ok hv e4⟩
  have hm := mkVal_den (ρ := ρ) hv
  have hx : ((denC ρ l).toArray.extract off (off + n)).toList = denC ρ r := by
    rw [Array.toList_extract, e1, ← e2, ← e3]
    simp
  unfold part
  rw [Sem.run_bind, run_isAgg E hg]
  cases g with
  | true =>
    simp only [if_true] at hm
    simp only [Result.andThen_ok, if_true, Sem.run_bind, run_sizeOf E hn, Sem.run_pure, hm]
    congr 2
    apply Array.toList_inj.1
    rw [hx]
  | false =>
    simp only [Bool.false_eq_true, if_false] at hm
    have : (denC ρ l).toArray[off]? = some (den ρ v) := by
      rw [List.getElem?_toArray, e1, ← e2, hm]
      simp
    simp [this]

/-! Equality of structs and arrays. -/
/-- The value of type T that lies as these leaves. -/
def EqOk (d : Nat) (T : TypeId) (xs ys : List SV) (r : Bool) : Prop :=
  ∀ (ρ : Nat → Tk) (R : Nat → Prop) (w1 : World) (n : Nat) (w : World), SV.okL R w1 ρ n xs → SV.okL R w1 ρ n ys → ∀ g, E.isAgg T = some g → ∀ u v, mkVal g xs = some u → mkVal g ys = some v → ∀ d', d ≤ d' → (Op.equalIn d' T (den ρ u) (den ρ v)).run E.P w = .ok r w

theorem eqFs_spec {eq : TypeId → List SV → List SV → Option Bool} {d : Nat} (heq : ∀ T a b r, eq T a b = some r → EqOk E d T a b r)
    (hagg : ∀ T a b r, eq T a b = some r → ∃ g u v, E.isAgg T = some g ∧ mkVal g a = some u ∧ mkVal g b = some v) (xs ys : List SV) : ∀ (fs : List Field) (r : Bool), eqFs E eq xs ys fs = some r →
    ∀ (ρ : Nat → Tk) (R : Nat → Prop) (w1 : World) (n : Nat) (w : World), SV.okL R w1 ρ n xs → SV.okL R w1 ρ n ys → ∀ d', d ≤ d' → (Op.eqFields d' (denC ρ xs).toArray (denC ρ ys).toArray fs).run E.P w = .ok r w
  | [], r, h, ρ, R, w1, n, w, h1, h2, d', hd => by
    simp only [eqFs, Option.some.injEq] at h; subst h; simp [Op.eqFields]
  | f :: fs, r, h, ρ, R, w1, n, w, h1, h2, d', hd => by
    simp only [eqFs] at h
    split at h
    · rename_i hne
      split at h
      · rename_i m hm
        obtain ⟨a, ha, h⟩ := bindO_some h
        obtain ⟨b, hb, h⟩ := bindO_some h
        obtain ⟨r1, hr1, h⟩ := bindO_some h
        obtain ⟨r2, hr2, h⟩ := bindO_some h
        cases h
        obtain ⟨g, u, v, hg, hu, hv⟩ := hagg _ _ _ _ hr1
        have p1 := run_part E hg hm h1 ha hu w
        have p2 := run_part E hg hm h2 hb hv w
        have oa := (segTake_spec (ρ := ρ) h1 ha).2.2.1
        have ob := (segTake_spec (ρ := ρ) h2 hb).2.2.1
        have he := heq _ _ _ _ hr1 ρ R w1 n w oa ob g hg u v hu hv d' hd
        have ih := eqFs_spec heq hagg xs ys fs r2 hr2 ρ R w1 n w h1 h2 d' hd
        have hne' : f.name ≠ "_" := by simpa using hne
        simp only [Op.eqFields, if_pos hne', Sem.run_bind, p1.1, p2.1, he, Result.andThen_ok, Sem.run_ite, Sem.run_pure]
        cases r1 <;> simp [ih]
      · cases h
    · cases h

theorem eqAs_spec {eq : List SV → List SV → Option Bool} {d : Nat} {e : TypeId} (heq : ∀ a b r, eq a b = some r → EqOk E d e a b r)
    (hagg : ∀ a b r, eq a b = some r → ∃ g u v, E.isAgg e = some g ∧ mkVal g a = some u ∧ mkVal g b = some v) (xs ys : List SV) (sz : Nat) (hsz : E.size e = some sz) : ∀ (m i : Nat) (r : Bool), eqAs eq xs ys sz m i = some r →
    ∀ (ρ : Nat → Tk) (R : Nat → Prop) (w1 : World) (n : Nat) (w : World), SV.okL R w1 ρ n xs → SV.okL R w1 ρ n ys → ∀ d', d ≤ d' →
    (forIn (List.range' i m 1) ((none : Option Bool), ()) fun j (_ : Option Bool × Unit) => (do
        let a ← part e (denC ρ xs).toArray (j * sz)
        let b ← part e (denC ρ ys).toArray (j * sz)
        let c ← Op.equalIn d' e a b
        if (!c) = true then pure (ForInStep.done (some false, ())) else pure (ForInStep.yield (none, ())) : Sem (ForInStep (Option Bool × Unit)))).run E.P w = .ok (if r then (none, ()) else (some false, ())) w
  | 0, i, r, h, ρ, R, w1, n, w, h1, h2, d', hd => by
    simp only [eqAs, Option.some.injEq] at h; subst h; simp
  | m + 1, i, r, h, ρ, R, w1, n, w, h1, h2, d', hd => by
    simp only [eqAs] at h
    obtain ⟨a, ha, h⟩ := bindO_some h
    obtain ⟨b, hb, h⟩ := bindO_some h
    obtain ⟨r1, hr1, h⟩ := bindO_some h
    obtain ⟨r2, hr2, h⟩ := bindO_some h
    cases h
    obtain ⟨g, u, v, hg, hu, hv⟩ := hagg _ _ _ hr1
    have p1 := run_part E hg hsz h1 ha hu w
    have p2 := run_part E hg hsz h2 hb hv w
    have oa := (segTake_spec (ρ := ρ) h1 ha).2.2.1
    have ob := (segTake_spec (ρ := ρ) h2 hb).2.2.1
    have he := heq _ _ _ hr1 ρ R w1 n w oa ob g hg u v hu hv d' hd
    have ih := eqAs_spec heq hagg xs ys sz hsz m (i + 1) r2 hr2 ρ R w1 n w h1 h2 d' hd
    simp only [List.range'_succ, List.forIn_cons, Sem.run_bind, p1.1, p2.1, he, Result.andThen_ok, Sem.run_ite, Sem.run_pure]
    cases r1
    · simp
    · simpa using ih

theorem eqT_agg : ∀ (d : Nat) (T : TypeId) (a b : List SV) (r : Bool), eqT E d T a b = some r → ∃ g u v, E.isAgg T = some g ∧ mkVal g a = some u ∧ mkVal g b = some v
  | 0, _, _, _, _, h => by simp [eqT] at h
  | d + 1, T, a, b, r, h => by
    simp only [eqT] at h
    split at h
    · rename_i k hu
      split at h
      · exact ⟨false, _, _, by simp [Env.isAgg, hu], rfl, rfl⟩
      · cases h
    · rename_i hu
      split at h
      · exact ⟨false, _, _, by simp [Env.isAgg, hu], rfl, rfl⟩
      · cases h
    · rename_i fs hu
      exact ⟨true, _, _, by simp [Env.isAgg, hu], rfl, rfl⟩
    · rename_i m e hu
      exact ⟨true, _, _, by simp [Env.isAgg, hu], rfl, rfl⟩
    · cases h

theorem eqT_spec : ∀ (d : Nat) (T : TypeId) (a b : List SV) (r : Bool), eqT E d T a b = some r → EqOk E d T a b r
  | 0, _, _, _, _, h => by simp [eqT] at h
  | d + 1, T, a, b, r, h => by
    intro ρ R w1 n w h1 h2 g hg u v hu hv d' hd
    obtain ⟨d', rfl⟩ : ∃ m, d' = m + 1 := ⟨d' - 1, by omega⟩
    simp only [eqT] at h
    split at h
    · rename_i k hT
      have : g = false := by simp [Env.isAgg, hT] at hg; exact hg
      subst this
      split at h
      · split at h
        · rename_i hk
          cases h; cases hu; cases hv
          subst hk
          simp [cEq_eq, den, Op.equalIn, run_underlying hT]
        · cases h
      · cases h
    · rename_i hT
      have : g = false := by simp [Env.isAgg, hT] at hg; exact hg
      subst this
      split at h
      · cases h; cases hu; cases hv
        simp [den, Op.equalIn, run_underlying hT]
      · cases h
    · rename_i fs hT
      have : g = true := by simp [Env.isAgg, hT] at hg; exact hg
      subst this
      split at h
      · cases h
      · rename_i hs
        cases hu; cases hv
        have hf : E.P.fieldsOf T = fs := by simp [Program.fieldsOf, hT]
        rw [← hf] at h
        simp only [den]
        rw [run_equalIn_struct w d' T _ _ (by rw [hf]; exact hT) (by simpa using hs)]
        exact eqFs_spec E (eqT_spec d) (eqT_agg E d) a b _ r h ρ R w1 n w h1 h2 d' (by omega)
    · rename_i m e hT
      have : g = true := by simp [Env.isAgg, hT] at hg; exact hg
      subst this
      split at h
      · rename_i sz hsz
        cases hu; cases hv
        have := eqAs_spec E (eqT_spec d e) (eqT_agg E d e) a b sz hsz m 0 r h ρ R w1 n w h1 h2 d' (by omega)
        simp only [den, Op.equalIn, Sem.run_bind, run_underlying hT, Result.andThen_ok, run_sizeOf E hsz, Std.Legacy.Range.forIn_eq_forIn_range', Std.Legacy.Range.size]
        simp only [Nat.sub_zero, Nat.add_sub_cancel, Nat.div_one, this, Result.andThen_ok]
        cases r <;> simp
      · cases h
    · cases h

theorem binS_spec {α : Type} {op : BinOp} {T : TypeId} {x y : SV} {K : SV → Option α} {r : α} (h : binS E op T x y K = some r) :
    ∃ v, K v = some r ∧ ∀ (ρ : Nat → Tk) (R : Nat → Prop) (w1 : World) (n : Nat) (w : World) (p q : Operand), x.ok R w1 ρ n → y.ok R w1 ρ n → (do eqGuard op T p q (den ρ x) (den ρ y); binOp op T (den ρ x) (den ρ y)).run E.P w = .ok (den ρ v) w ∧ v.ok R w1 ρ n := by
  unfold binS at h
  split at h
  · split at h
    · cases h
    · rename_i hb; exact ⟨_, h, fun ρ R w1 n w p q _ _ => ⟨by simp [eqGuard, binOp, Op.shift, hb, den], by simp [SV.ok]⟩⟩
  · split at h
    · cases h
    · rename_i hb; exact ⟨_, h, fun ρ R w1 n w p q _ _ => ⟨by simp [eqGuard, binOp, Op.shift, hb, den], by simp [SV.ok]⟩⟩
  · split at h
    · rename_i hk
      subst hk
      obtain ⟨v, h1, h2⟩ := binI_spec h
      exact ⟨v, h1, fun ρ R w1 n w p q _ _ => by simp only [den]; exact h2 ρ R w1 n T E.P w p q⟩
    · cases h
  · split at h
    · rename_i hT
      refine ⟨_, h, fun ρ R w1 n w p q _ _ => ⟨?_, by simp [SV.ok]⟩⟩
      rename_i a b _ _ _
      have he : (Op.equal T (.bool a) (.bool b)).run E.P w = .ok (a == b) w := run_equalIn_bool' w 9999 T a b hT
      simp only [den]
      rw [Sem.run_bind, show eqGuard BinOp.eql T p q (.bool a) (.bool b) = pure () from rfl, Sem.run_pure, Result.andThen_ok, show binOp BinOp.eql T (.bool a) (.bool b) = (do pure (Value.bool (← Op.equal T (.bool a) (.bool b)))) from rfl, Sem.run_bind, he]
      rfl
    · cases h
  · split at h
    · rename_i hT
      refine ⟨_, h, fun ρ R w1 n w p q _ _ => ⟨?_, by simp [SV.ok]⟩⟩
      rename_i a b _ _ _
      have he : (Op.equal T (.bool a) (.bool b)).run E.P w = .ok (a == b) w := run_equalIn_bool' w 9999 T a b hT
      simp only [den]
      rw [Sem.run_bind, show eqGuard BinOp.neq T p q (.bool a) (.bool b) = pure () from rfl, Sem.run_pure, Result.andThen_ok, show binOp BinOp.neq T (.bool a) (.bool b) = (do pure (Value.bool (!(← Op.equal T (.bool a) (.bool b))))) from rfl, Sem.run_bind, he]
      rfl
    · cases h
  · split at h
    · rename_i hag
      split at h
      · cases h
      · rename_i hgd
        obtain ⟨b, hb, h⟩ := bindO_some h
        refine ⟨_, h, fun ρ R w1 n w p q hx hy => ⟨?_, by simp [SV.ok]⟩⟩
        have he := eqT_spec E _ _ _ _ _ hb ρ R w1 n w hx hy true hag _ _ rfl rfl 10000 (by omega)
        simp only [den] at he ⊢
        rw [Sem.run_bind, run_eqGuard_agg w .eql T p q _ _ (by simpa using hgd)]
        simp only [Result.andThen_ok]
        rw [run_eql_struct, he]; rfl
    · cases h
  · split at h
    · rename_i hag
      split at h
      · cases h
      · rename_i hgd
        obtain ⟨b, hb, h⟩ := bindO_some h
        refine ⟨_, h, fun ρ R w1 n w p q hx hy => ⟨?_, by simp [SV.ok]⟩⟩
        have he := eqT_spec E _ _ _ _ _ hb ρ R w1 n w hx hy true hag _ _ rfl rfl 10000 (by omega)
        simp only [den] at he ⊢
        rw [Sem.run_bind, run_eqGuard_agg w .neq T p q _ _ (by simpa using hgd)]
        simp only [Result.andThen_ok]
        rw [run_neq_struct, he]; rfl
    · cases h
  · split at h
    · rename_i e hT
      refine ⟨_, h, fun ρ R w1 n w p q hx _ => ⟨?_, by simp [SV.ok]⟩⟩
      rename_i v κ xs _ _
      simp only [SV.ok] at hx
      obtain ⟨a, m, c, rfl, hn⟩ : ∃ a m c, v = .slice a m c ∧ (a = none → xs.isEmpty = true) := by
        rcases hx with ⟨rfl, a, c, rfl⟩ | ⟨ad, c, rfl, _⟩
        · exact ⟨a, 0, c, rfl, fun _ => rfl⟩
        · exact ⟨some ad, _, c, rfl, fun h => by cases h⟩
      have hq : (Op.equal T (.slice a m c) (.slice none 0 0)).run E.P w = .ok (nilV (.slice a m c)) w := by
        show (Op.equalIn 10000 T _ _).run E.P w = _
        unfold Op.equalIn
        rw [Sem.run_bind, run_underlying hT]
        cases a <;> rfl
      have hb : (nilV (.slice a m c) && xs.isEmpty) = nilV (.slice a m c) := by
        cases a with
        | none => simp [hn rfl]
        | some a => rfl
      simp only [den, hb]
      rw [Sem.run_bind, show eqGuard BinOp.eql T p q (.slice a m c) (.slice none 0 0) = pure () from rfl, Sem.run_pure, Result.andThen_ok, show binOp BinOp.eql T (.slice a m c) (.slice none 0 0) = (do pure (Value.bool (← Op.equal T (.slice a m c) (.slice none 0 0)))) from rfl, Sem.run_bind, hq]
      rfl
    · cases h
  · cases h
end
end Go.Proofs.Ytkjellhkamfciaa.Sx
