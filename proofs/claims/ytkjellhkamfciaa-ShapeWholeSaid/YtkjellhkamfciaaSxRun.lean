/- SX: the executor is sound: lists of operations, code, loops, calls. -/
import Derived.Test.YtkjellhkamfciaaSxGc
namespace Go.Proofs.Ytkjellhkamfciaa.Sx
open Go Go.RowKit

def Ex.exit' : Ex → Exit
  | .normal => .normal
  | .exit id => .exit id
  | .ret => .ret

theorem FRel.next {C : Cx} {ρ ρ' : Nat → Tk} {n n' : Nat} {F : Fr} {tmps : Array Value} (h : FRel C ρ n F tmps) (hr : ∀ t, t < n → ρ' t = ρ t) (hn : n ≤ n') : FRel C ρ' n' F tmps :=
  ⟨h.size, fun i v hv => by
    obtain ⟨h1, h2⟩ := h.val i v hv
    exact ⟨by rw [den_agree hr v h2]; exact h1, ok_mono hn v (ok_agree hr v h2)⟩⟩
theorem FRel.set {C : Cx} {ρ : Nat → Tk} {n : Nat} {F : Fr} {tmps : Array Value} (h : FRel C ρ n F tmps) {d : Nat} {v : SV} (hv : v.ok C.R C.w1 ρ n) : FRel C ρ n (F.set d (some v)) (tmps.setIfInBounds d (den ρ v)) :=
  ⟨by simp [h.size], fun i u hu => by
    by_cases e : d = i
    · subst e
      by_cases hd : d < F.length
      · rw [List.getElem?_set_self hd] at hu
        cases hu
        exact ⟨by simp [h.size, hd], hv⟩
      · rw [List.getElem?_eq_none (by simp; omega)] at hu; cases hu
    · rw [List.getElem?_set_ne e] at hu
      obtain ⟨h1, h2⟩ := h.val i u hu
      exact ⟨by rw [Array.getElem?_setIfInBounds_ne e]; exact h1, h2⟩⟩
theorem FRel.put {C : Cx} {ρ : Nat → Tk} {n : Nat} {F : Fr} {a : Act} (h : FRel C ρ n F a.tmps) (dst : Option Tmp) {v : SV} (hv : v.ok C.R C.w1 ρ n) : FRel C ρ n (put F dst v) (a.put dst (den ρ v)).tmps := by
  cases dst with
  | none => exact h
  | some d => exact h.set hv
/-- A slot whose boolean is known is written out. -/
theorem FRel.same {C : Cx} {ρ : Nat → Tk} {n : Nat} {F : Fr} {tmps : Array Value} (h : FRel C ρ n F tmps) {d : Nat} {b c : Bool} (hd : F[d]? = some (some (.bool b))) (hbc : b = c) : FRel C ρ n (F.set d (some (.bool c))) tmps := by
  subst hbc
  have hl := (List.getElem?_eq_some_iff.1 hd).1
  have : F.set d (some (.bool b)) = F := by
    apply List.ext_getElem?
    intro i
    by_cases e : d = i
    · subst e; rw [List.getElem?_set_self hl, hd]
    · rw [List.getElem?_set_ne e]
  rw [this]; exact h

section
variable (E : Env) {α : Type}

/-- What one operation of a region does. -/
structure StepGood (P : Program) (ops : Array Oper) (o : Oper) (S S' : St) : Prop where
  len : S.H.length ≤ S'.H.length
  wp : ∀ (C : Cx) (ρ : Nat → Tk) (a : Act) (w : World), FRel C ρ S.H.length S.F a.tmps → Rel C ρ S.H w → ∀ (rest : List Oper) (Q : Exit → Act → World → Prop),
    (∀ ρ' a' w', (∀ t, t < S.H.length → ρ' t = ρ t) → a'.defers = a.defers → FRel C ρ' S'.H.length S'.F a'.tmps → Rel C ρ' S'.H w' → wpList P ops Q rest a' w') → wpList P ops Q (o :: rest) a w

theorem put_defers (a : Act) (d : Option Tmp) (v : Value) : (a.put d v).defers = a.defers := by cases d <;> rfl

theorem go_step {ops : Array Oper} {o : Oper} {S : St} {v : SV} {H' : Hp} (hg : OpGood E.P o S.F S.H v H') (hw : ∀ (C : Cx) (ρ : Nat → Tk) (a : Act), FRel C ρ S.H.length S.F a.tmps → Region.wanted o (yielded ops a.tmps) = true) :
    StepGood E.P ops o S ⟨put S.F o.dst v, H'⟩ :=
  ⟨hg.len, fun C ρ a w hF hR rest Q hn => by
    unfold wpList
    rw [if_pos (hw C ρ a hF)]
    refine .inl (hg.wp C ρ a w hF hR _ _ fun ρ' w' hr hR' hv => hn ρ' _ w' hr (put_defers a _ _) ?_ hR')
    exact (hF.next hr hg.len).put o.dst hv⟩
theorem skip_step {ops : Array Oper} {o : Oper} {S : St} (hw : ∀ (C : Cx) (ρ : Nat → Tk) (a : Act), FRel C ρ S.H.length S.F a.tmps → Region.wanted o (yielded ops a.tmps) = false) :
    StepGood E.P ops o S ⟨put S.F o.dst (.raw undef), S.H⟩ :=
  ⟨Nat.le_refl _, fun C ρ a w hF hR rest Q hn => by
    unfold wpList
    rw [if_neg (by rw [hw C ρ a hF]; exact Bool.false_ne_true)]
    exact hn ρ _ w (fun _ _ => rfl) (put_defers a _ _) (hF.put o.dst (v := .raw undef) (by simp [SV.ok, undef])) hR⟩
theorem StepGood.before {ops : Array Oper} {o : Oper} {S S1 S' : St} (h : StepGood E.P ops o S1 S') (hH : S1.H = S.H) (hF : ∀ (C : Cx) (ρ : Nat → Tk) (tmps : Array Value), FRel C ρ S.H.length S.F tmps → FRel C ρ S.H.length S1.F tmps) : StepGood E.P ops o S S' :=
  ⟨by rw [← hH]; exact h.len, fun C ρ a w h1 h2 rest Q hn => h.wp C ρ a w (by rw [hH]; exact hF C ρ _ h1) (by rw [hH]; exact h2) rest Q (by rw [hH]; exact hn)⟩

theorem yielded_of {ops : Array Oper} {tmps : Array Value} {j d : Nat} (hd : (ops[j]?).bind (·.dst) = some d) : yielded ops tmps j = match tmps[d]? with | some (.bool b) => some b | _ => none := by
  unfold yielded; rw [hd]; rfl

theorem op1_sound (hE : EnvOk E) {callf : CallF α} (hcall : CallOk E.P callf) (ops : Array Oper) (o : Oper) (S : St) (K : St → Option α) (r : α) (h : op1 E callf ops o S K = some r) :
    ∃ S', K S' = some r ∧ StepGood E.P ops o S S' := by
  unfold op1 at h
  simp only at h
  have go : ∀ (S : St), opS E callf o S.F S.H (fun v H => K ⟨put S.F o.dst v, H⟩) = some r → (∀ (C : Cx) (ρ : Nat → Tk) (a : Act), FRel C ρ S.H.length S.F a.tmps → Region.wanted o (yielded ops a.tmps) = true) → ∃ S', K S' = some r ∧ StepGood E.P ops o S S' := by
    intro S h hw
    obtain ⟨v, H', hk, _, hg⟩ := opS_sound E hE hcall o S.F S.H _ r h
    exact ⟨_, hk, go_step E (hg _ (.refl _ _)) hw⟩
  split at h
  · rename_i hgd
    exact go S h fun C ρ a _ => by simp [Region.wanted, hgd]
  · rename_i j want hgd
    split at h
    · rename_i b d hgo
      -- the boolean's slot
      unfold guardOf at hgo
      split at hgo
      · rename_i d' hd'
        have hslot : d' = d ∧ S.F[d]? = some (some (.bool b)) := by
          split at hgo
          · rename_i hb; cases hgo; exact ⟨rfl, hb⟩
          · cases hgo
          · cases hgo
        obtain ⟨rfl, hsl⟩ := hslot
        have hy : ∀ (C : Cx) (ρ : Nat → Tk) (a : Act), FRel C ρ S.H.length S.F a.tmps → yielded ops a.tmps j = some b := fun C ρ a hF => by
          rw [yielded_of hd', (hF.val d' _ hsl).1]; rfl
        split at h
        · rename_i hb
          split at h
          · rename_i hwt
            obtain ⟨S', hk, hg⟩ := go ⟨S.F.set d' (some (.bool true)), S.H⟩ h fun C ρ a hF => by
              have h1 := (hF.val d' (.bool true) (List.getElem?_set_self (List.getElem?_eq_some_iff.1 hsl).1)).1
              simp only [Region.wanted, hgd, yielded_of hd', h1, den, hwt]; rfl
            exact ⟨S', hk, hg.before E rfl fun C ρ t hF => hF.same hsl hb⟩
          · rename_i hwt
            have := skip_step E (ops := ops) (o := o) (S := ⟨S.F.set d' (some (.bool true)), S.H⟩) fun C ρ a hF => by
              have h1 := (hF.val d' (.bool true) (List.getElem?_set_self (List.getElem?_eq_some_iff.1 hsl).1)).1
              simp only [Region.wanted, hgd, yielded_of hd', h1, den]
              cases want <;> simp_all
            exact ⟨_, h, this.before E rfl fun C ρ t hF => hF.same hsl hb⟩
        · rename_i hb
          have hb' : b = false := by simpa using hb
          split at h
          · rename_i hwt
            have := skip_step E (ops := ops) (o := o) (S := ⟨S.F.set d' (some (.bool false)), S.H⟩) fun C ρ a hF => by
              have h1 := (hF.val d' (.bool false) (List.getElem?_set_self (List.getElem?_eq_some_iff.1 hsl).1)).1
              simp only [Region.wanted, hgd, yielded_of hd', h1, den, hwt]; rfl
            exact ⟨_, h, this.before E rfl fun C ρ t hF => hF.same hsl hb'⟩
          · rename_i hwt
            obtain ⟨S', hk, hg⟩ := go ⟨S.F.set d' (some (.bool false)), S.H⟩ h fun C ρ a hF => by
              have h1 := (hF.val d' (.bool false) (List.getElem?_set_self (List.getElem?_eq_some_iff.1 hsl).1)).1
              simp only [Region.wanted, hgd, yielded_of hd', h1, den]
              cases want <;> simp_all
            exact ⟨S', hk, hg.before E rfl fun C ρ t hF => hF.same hsl hb'⟩
      · cases hgo
    · rename_i hgo
      unfold guardOf at hgo
      split at hgo
      · rename_i d' hd'
        split at hgo
        · cases hgo
        · rename_i vs hsl
          refine ⟨_, h, skip_step E fun C ρ a hF => ?_⟩
          simp only [Region.wanted, hgd, yielded_of hd', (hF.val d' _ hsl).1, den]
          cases want <;> rfl
        · cases hgo
      · cases hgo
    · cases h

theorem opsL_sound (hE : EnvOk E) {callf : CallF α} (hcall : CallOk E.P callf) (ops : Array Oper) : ∀ (l : List Oper) (S : St) (K : St → Option α) (r : α), opsL E callf ops l S K = some r →
    ∃ S', K S' = some r ∧ S.H.length ≤ S'.H.length ∧ ∀ (C : Cx) (ρ : Nat → Tk) (a : Act) (w : World), FRel C ρ S.H.length S.F a.tmps → Rel C ρ S.H w → ∀ (Q : Exit → Act → World → Prop),
      (∀ ρ' a' w', (∀ t, t < S.H.length → ρ' t = ρ t) → a'.defers = a.defers → FRel C ρ' S'.H.length S'.F a'.tmps → Rel C ρ' S'.H w' → Q .normal a' w') → wpList E.P ops Q l a w
  | [], S, K, r, h => ⟨S, h, Nat.le_refl _, fun C ρ a w hF hR Q hn => hn ρ a w (fun _ _ => rfl) rfl hF hR⟩
  | o :: l, S, K, r, h => by
    simp only [opsL] at h
    obtain ⟨S1, h1, g1⟩ := op1_sound E hE hcall ops o S _ r h
    obtain ⟨S2, h2, l2, g2⟩ := opsL_sound hE hcall ops l S1 K r h1
    refine ⟨S2, h2, Nat.le_trans g1.len l2, fun C ρ a w hF hR Q hn => g1.wp C ρ a w hF hR l Q fun ρ' a' w' hr hd hF' hR' => ?_⟩
    refine g2 C ρ' a' w' hF' hR' Q fun ρ2 a2 w2 hr2 hd2 hF2 hR2 => hn ρ2 a2 w2 (fun t ht => ?_) (hd2.trans hd) hF2 hR2
    rw [hr2 t (Nat.lt_of_lt_of_le ht g1.len), hr t ht]

/-- What a piece of code does. -/
structure CodeGood (P : Program) (base : Nat) (c : Code) (S : St) (e : Ex) (S' : St) : Prop where
  len : base ≤ S'.H.length
  wp : ∀ (C : Cx) (ρ : Nat → Tk) (a : Act) (w : World), a.defers = [] → FRel C ρ S.H.length S.F a.tmps → Rel C ρ S.H w →
    c.wp P (fun ex a' w' => ex = e.exit' ∧ ∃ ρ', a'.defers = [] ∧ FRel C ρ' S'.H.length S'.F a'.tmps ∧ Rel C ρ' S'.H w' ∧ ∀ t, t < base → ρ' t = ρ t) a w

/-- The code that stands at a path of a function. -/
def Stands (P : Program) (fid : FuncId) (path : List Bool) (c : Code) : Prop := ∃ (fn : Func) (body : Code), P.funcs[fid]? = some fn ∧ fn.body = some body ∧ sub body path = some c
def RunOk (P : Program) (run : RunF α) : Prop :=
  ∀ fid path base c S K r, Stands P fid path c → base ≤ S.H.length → run fid path base c S K = some r → ∃ e S', K e S' = some r ∧ CodeGood P base c S e S'

def LookOk (P : Program) (look : LookF α) : Prop :=
  ∀ f c args H K r, look f = some c → c args H K = some r → ∃ v H', K v H' = some r ∧ Sound P f args H v H'

/-- The loops that are known: what each does, wherever it stands. -/
def LoopsOk (P : Program) (lps : LookL α) : Prop :=
  ∀ fid path base S l, lps fid path base S = some l → ∀ c, Stands P fid path (.loop c) →
    ∀ K r, base ≤ S.H.length → l K = some r → ∃ e S', K e S' = some r ∧ CodeGood P base (.loop c) S e S'

theorem resVals_spec {H : Hp} {F : Fr} {C : Cx} {ρ : Nat → Tk} {tmps : Array Value} {w : World} (hF : FRel C ρ H.length F tmps) (hR : Rel C ρ H w) : ∀ (l : List ResultVar) (vs : List SV), resVals E H F l = some vs →
    (l.mapM (m := Sem) fun
      | .tmp t => pure (tmps.getD t undef)
      | .cell a t => do loadVar t (← asAddr (tmps.getD a undef))).run E.P w = .ok (denL ρ vs) w ∧ SV.okL C.R C.w1 ρ H.length vs
  | [], vs, h => by simp only [resVals, Option.some.injEq] at h; subst h; simp [denL, SV.okL]
  | .tmp t :: l, vs, h => by
    simp only [resVals] at h
    split at h
    · rename_i a b ha hb
      cases h
      obtain ⟨h1, h2⟩ := resVals_spec hF hR l b hb
      have hs : F[t]? = some (some a) := by
        cases hq : F[t]? with
        | none => simp [hq] at ha
        | some y => cases y <;> simp_all
      obtain ⟨g1, g2⟩ := hF.val t a hs
      refine ⟨?_, ⟨g2, h2⟩⟩
      have hgd : tmps.getD t undef = den ρ a := by rw [Array.getD_eq_getD_getElem?, g1]; rfl
      simp only [List.mapM_cons, Sem.run_bind, Sem.run_pure, Result.andThen_ok, h1, denL, hgd]
    · cases h
  | .cell p T :: l, vs, h => by
    simp only [resVals] at h
    split at h
    · rename_i a b ha hb
      cases hv : loadAt E H T a with
      | none => simp [hv] at h
      | some v =>
        simp only [hv, Option.map_some, Option.some.injEq] at h
        subst h
        obtain ⟨h1, h2⟩ := resVals_spec hF hR l b hb
        have hs : F[p]? = some (some a) := by
          cases hq : F[p]? with
          | none => simp [hq] at ha
          | some y => cases y <;> simp_all
        obtain ⟨g1, g2⟩ := hF.val p a hs
        obtain ⟨ad, e1, e2, e3⟩ := loadAt_spec E hv hR g2
        refine ⟨?_, ⟨e3, h2⟩⟩
        have hgd : tmps.getD p undef = .pointer (some ad) := by rw [Array.getD_eq_getD_getElem?, g1]; exact e1
        have has : asAddr (.pointer (some ad)) = (pure ad : Sem Addr) := rfl
        simp only [List.mapM_cons, Sem.run_bind, Sem.run_pure, Result.andThen_ok, h1, denL, hgd, has, e2]
    · cases h
theorem resOf_spec {H : Hp} {F : Fr} {C : Cx} {ρ : Nat → Tk} {tmps : Array Value} {w : World} (hF : FRel C ρ H.length F tmps) (hR : Rel C ρ H w) {fn : Func} {v : SV} (h : resOf E H F fn.results = some v) :
    (results fn tmps).run E.P w = .ok (den ρ v) w ∧ v.ok C.R C.w1 ρ H.length := by
  unfold resOf at h
  obtain ⟨l, hl, h⟩ := bindO_some h
  obtain ⟨h1, h2⟩ := resVals_spec E hF hR _ _ hl
  have hrun : (fn.results.mapM (m := Sem) fun
      | .tmp t => pure (tmps.getD t undef)
      | .cell a t => do loadVar t (← asAddr (tmps.getD a undef))).run E.P w = .ok (denL ρ l).toArray w := by
    rw [Array.mapM_eq_mapM_toList, Sem.run_map, h1]; rfl
  have hres : (results fn tmps).run E.P w = .ok (if hh : (denL ρ l).toArray.size = 1 then (denL ρ l).toArray[0] else .tuple (denL ρ l).toArray) w := by
    unfold results
    refine (Sem.run_bind _ _ _ _).trans ?_
    exact (congrArg (fun x => Result.andThen x _) hrun).trans rfl
  rw [hres]
  split at h
  · rename_i x
    cases h
    simp only [SV.okL] at h2
    exact ⟨by simp [denL], h2.1⟩
  · rename_i hne
    cases h
    refine ⟨?_, by simpa [SV.ok] using h2⟩
    rw [dif_neg]
    · rfl
    · rw [List.size_toArray, denL_length]
      intro hc
      rcases l with _ | ⟨x, _ | ⟨y, l⟩⟩
      · simp at hc
      · exact hne _ rfl
      · simp at hc

theorem junked_rel {C : Cx} {ρ : Nat → Tk} {n : Nat} {tmps : Array Value} : ∀ (J : List Nat) (F : Fr), FRel C ρ n F tmps → FRel C ρ n (junked J F) tmps
  | [], F, h => h
  | d :: J, F, h => by
    refine junked_rel J (F.set d none) ⟨by simp [h.size], fun i v hv => h.val i v ?_⟩
    by_cases e : d = i
    · subst e
      by_cases hd : d < F.length
      · rw [List.getElem?_set_self hd] at hv; cases hv
      · rw [List.getElem?_eq_none (by simp; omega)] at hv; cases hv
    · rwa [List.getElem?_set_ne e] at hv

/-- A state that is worth as much as another one. -/
structure SameGood (base : Nat) (S S' : St) : Prop where
  len : base ≤ S'.H.length
  rel : ∀ (C : Cx) (ρ : Nat → Tk) (tmps : Array Value) (w : World), FRel C ρ S.H.length S.F tmps → Rel C ρ S.H w → ∃ ρ', (∀ t, t < base → ρ' t = ρ t) ∧ FRel C ρ' S'.H.length S'.F tmps ∧ Rel C ρ' S'.H w

theorem mem_frToks {t : Nat} {v : SV} : ∀ {F : Fr} {i : Nat}, F[i]? = some (some v) → t ∈ v.toks → t ∈ frToks F
  | [], i, h, _ => by simp at h
  | x :: F, 0, h, ht => by simp at h; subst h; simp [frToks, ht]
  | none :: F, i + 1, h, ht => by simp at h; simp only [frToks]; exact mem_frToks h ht
  | some u :: F, i + 1, h, ht => by simp at h; simp only [frToks, List.mem_append]; exact .inr (mem_frToks h ht)
theorem frRen_get (g : Nat → Nat) : ∀ {F : Fr} {i : Nat} {v : SV}, (frRen g F)[i]? = some (some v) → ∃ u, F[i]? = some (some u) ∧ v = u.ren g
  | [], i, v, h => by simp [frRen] at h
  | none :: F, 0, v, h => by simp [frRen] at h
  | some u :: F, 0, v, h => by simp [frRen] at h; exact ⟨u, rfl, h.symm⟩
  | none :: F, i + 1, v, h => by simp only [frRen, List.getElem?_cons_succ] at h; simpa using frRen_get g h
  | some u :: F, i + 1, v, h => by simp only [frRen, List.getElem?_cons_succ] at h; simpa using frRen_get g h
theorem frRen_length (g : Nat → Nat) : ∀ (F : Fr), (frRen g F).length = F.length
  | [] => rfl
  | none :: F => by simp [frRen, frRen_length g F]
  | some u :: F => by simp [frRen, frRen_length g F]

theorem gcSt_sound {base : Nat} {S : St} {K : St → Option α} {r : α} (h : gcSt base S K = some r) : ∃ S', K S' = some r ∧ SameGood base S S' := by
  unfold gcSt at h
  split at h
  · rename_i H hg
    obtain ⟨_, h2, h3⟩ := gc_spec hg
    refine ⟨_, h, h2, fun C ρ tmps w hF hR => ?_⟩
    obtain ⟨ρ', e1, e2, e3, _⟩ := h3 C ρ w hR
    obtain ⟨rfl, e4⟩ := e3 rfl
    exact ⟨ρ', e1, ⟨hF.size, fun i v hv => ⟨(hF.val i v hv).1, ok_of_toks v (fun t ht => e4 t (mem_frToks hv ht)) (hF.val i v hv).2⟩⟩, e2⟩
  · rename_i τ H hne hg
    obtain ⟨_, h2, h3⟩ := gc_spec hg
    refine ⟨_, h, h2, fun C ρ tmps w hF hR => ?_⟩
    obtain ⟨ρ', e1, e2, _, e3⟩ := h3 C ρ w hR
    have e3 := e3 (fun e => hne e)
    refine ⟨ρ', e1, ⟨by rw [frRen_length]; exact hF.size, fun i v hv => ?_⟩, e2⟩
    obtain ⟨u, g1, rfl⟩ := frRen_get _ hv
    obtain ⟨p1, p2⟩ := hF.val i u g1
    obtain ⟨q1, q2⟩ := ren_spec (ρ' := ρ') (n' := List.length H) u (fun t ht => e3 t (mem_frToks g1 ht)) p2
    exact ⟨by rw [q1]; exact p1, q2⟩
  · cases h

theorem killAt_get (τ : List Nat) : ∀ (H : Hp) (k i : Nat), (killAt τ k H)[i]? = (H[i]?).map fun o => if memN (k + i) τ then .dead else o
  | [], k, i => by simp [killAt]
  | o :: H, k, 0 => by simp [killAt]
  | o :: H, k, i + 1 => by
    simp only [killAt, List.getElem?_cons_succ]
    rw [killAt_get τ H (k + 1) i, show k + 1 + i = k + (i + 1) by omega]
theorem killAt_length (τ : List Nat) : ∀ (H : Hp) (k : Nat), (killAt τ k H).length = H.length
  | [], k => rfl
  | o :: H, k => by simp [killAt, killAt_length τ H (k + 1)]
theorem ltAll_spec {n : Nat} : ∀ {l : List Nat}, ltAll n l = true → ∀ t ∈ l, t < n
  | [], _, t, h => by simp at h
  | x :: l, h, t, ht => by
    simp only [ltAll, Bool.and_eq_true] at h
    rcases List.mem_cons.1 ht with rfl | ht
    · exact Nat.le_of_ble_eq_true h.1
    · exact ltAll_spec h.2 t ht
theorem fresh_spec {H : Hp} {τ : List Nat} {objs : Hp} (hobjs : pickAll H τ = some objs) (hnd : τ.Nodup) (hc1 : ∀ t ∈ hpToks H, t < H.length) (hc3 : ∀ t ∈ hpToks objs, t < H.length) :
    ∀ (C : Cx) (ρ : Nat → Tk) (w : World), Rel C ρ H w → ∃ ρ' : Nat → Tk, (∀ t, t < H.length → ρ' t = ρ t) ∧ Rel C ρ' ((killAt τ 0 H ++ objs).map (SObj.ren (frMap H.length τ))) w ∧
      (∀ t, t < H.length → ρ' (frMap H.length τ t) = ρ t ∧ frMap H.length τ t < H.length + τ.length) := by
  obtain ⟨hol, hog⟩ := pickAll_get hobjs
  let orig : Nat → Nat := fun i => if i < H.length then i else (τ[i - H.length]?).getD 0
  have hg : ∀ t, t < H.length → orig (frMap H.length τ t) = t ∧ frMap H.length τ t < H.length + τ.length := fun t ht => by
    unfold frMap
    by_cases hm : memN t τ = true
    · have hi := idxOf_spec (memN_iff.1 hm)
      have hil := (List.getElem?_eq_some_iff.1 hi).1
      rw [if_pos hm]
      refine ⟨?_, by omega⟩
      simp only [orig]
      rw [if_neg (by omega), show H.length + idxOf t τ - H.length = idxOf t τ by omega, hi]; rfl
    · rw [if_neg hm]
      exact ⟨by simp [orig, ht], by omega⟩
  have hlen : ((killAt τ 0 H ++ objs).map (SObj.ren (frMap H.length τ))).length = H.length + τ.length := by simp [hol, killAt_length]
  -- what stands at a place: nothing (dead), or what stood at its origin
  have hget : ∀ (i : Nat) (o' : SObj), ((killAt τ 0 H ++ objs).map (SObj.ren (frMap H.length τ)))[i]? = some o' →
      o' = .dead ∨ ((i < H.length → memN i τ = false) ∧ ∃ o, H[orig i]? = some o ∧ o' = o.ren (frMap H.length τ) ∧ (∀ t ∈ o.toks, t < H.length)) := fun i o' ho => by
    rw [List.getElem?_map] at ho
    cases hq : (killAt τ 0 H ++ objs)[i]? with
    | none => simp [hq] at ho
    | some o =>
      simp only [hq, Option.map_some, Option.some.injEq] at ho
      by_cases hi : i < H.length
      · have h1 : (killAt τ 0 H)[i]? = some o := by rw [← hq, List.getElem?_append_left (by rw [killAt_length]; exact hi)]
        rw [killAt_get, Nat.zero_add] at h1
        cases hH : H[i]? with
        | none => simp [hH] at h1
        | some o0 =>
          simp only [hH, Option.map_some, Option.some.injEq] at h1
          cases hm : memN i τ with
          | true => rw [hm, if_pos rfl] at h1; subst h1; exact .inl ho.symm
          | false =>
            rw [hm] at h1
            simp only [Bool.false_eq_true, if_false] at h1
            subst h1
            exact .inr ⟨fun _ => rfl, o0, by simp only [orig, if_pos hi]; exact hH, ho.symm, fun t ht => hc1 t (mem_hpToks hH ht)⟩
      · have h1 : objs[i - H.length]? = some o := by
          rw [← hq, List.getElem?_append_right (by rw [killAt_length]; omega), killAt_length]
        have hil : i - H.length < τ.length := by rw [← hol]; exact (List.getElem?_eq_some_iff.1 h1).1
        have h2 := hog (i - H.length) τ[i - H.length] (List.getElem?_eq_getElem hil)
        refine .inr ⟨fun h => absurd h hi, o, ?_, ho.symm, fun t ht => hc3 t (mem_hpToks h1 ht)⟩
        simp only [orig, if_neg hi]
        rw [List.getElem?_eq_getElem hil, Option.getD_some, ← h2.1]; exact h1
  intro C ρ w hR
  have hρ : ∀ t, t < H.length → (fun i => ρ (orig i)) (frMap H.length τ t) = ρ t ∧ frMap H.length τ t < H.length + τ.length := fun t ht => ⟨by simp only [(hg t ht).1], (hg t ht).2⟩
  refine ⟨fun i => ρ (orig i), fun t ht => by simp only [orig, if_pos ht], ?_, hρ⟩
  have hobjblk : ∀ (tk : Tk) (o : SObj), objBlk tk (o.ren (frMap H.length τ)) = objBlk tk o := fun tk o => by cases o <;> rfl
  have hblk : ∀ i b, blkOf (fun i => ρ (orig i)) ((killAt τ 0 H ++ objs).map (SObj.ren (frMap H.length τ))) i = some b → i < H.length + τ.length ∧ (i < H.length → memN i τ = false) ∧ blkOf ρ H (orig i) = some b := fun i b hb' => by
    have hl := blkOf_lt_len hb'
    rw [hlen] at hl
    obtain ⟨o', ho', h2⟩ := blkOf_get hb'
    rcases hget i o' ho' with rfl | ⟨g0, o, g1, g2, _⟩
    · simp [objBlk] at h2
    refine ⟨hl, g0, ?_⟩
    rw [blkOf_eq g1, ← hobjblk, ← g2]; exact h2
  have hτ : ∀ i, ¬ i < H.length → i < H.length + τ.length → orig i ∈ τ := fun i h1 h2 => by
    simp only [orig, if_neg h1]
    rw [List.getElem?_eq_getElem (show i - H.length < τ.length by omega), Option.getD_some]
    exact List.getElem_mem _
  refine ⟨fun i o' ho' => ?_, fun i j b h1 h2 => ?_, fun i b h1 => hR.own _ b (hblk i b h1).2.2, fun t => hR.hdr _, hR.keep, hR.size, hR.os, hR.tape, hR.output, fun i o' ho' => ?_, hR.fit⟩
  · rcases hget i o' ho' with rfl | ⟨_, o, g1, g2, g3⟩
    · trivial
    have hob := hR.obj _ o g1
    have hok := hR.ok _ o g1
    subst g2
    cases o with
    | cells l T =>
      have := renL_spec (R := C.R) (w := C.w1) (ρ := ρ) (ρ' := fun i => ρ (orig i)) l (fun t ht => hρ t (g3 t ht)) hok.1
      simp only [SObj.ren, ObjRel] at hob ⊢
      rw [this.2.2]; exact hob
    | seq κ xs E => exact hob
    | dead => trivial
  · obtain ⟨l1, m1, e1⟩ := hblk i b h1
    obtain ⟨l2, m2, e2⟩ := hblk j b h2
    have e := hR.sep _ _ b e1 e2
    by_cases hi : i < H.length <;> by_cases hj : j < H.length
    · simp only [orig, if_pos hi, if_pos hj] at e; exact e
    · exfalso
      have := hτ j hj l2
      rw [← e] at this
      simp only [orig, if_pos hi] at this
      have := memN_iff.2 this
      rw [m1 hi] at this; cases this
    · exfalso
      have := hτ i hi l1
      rw [e] at this
      simp only [orig, if_pos hj] at this
      have := memN_iff.2 this
      rw [m2 hj] at this; cases this
    · simp only [orig, if_neg hi, if_neg hj] at e
      rw [List.getElem?_eq_getElem (show i - H.length < τ.length by omega), List.getElem?_eq_getElem (show j - H.length < τ.length by omega), Option.getD_some, Option.getD_some] at e
      have := (List.getElem_inj hnd).1 e
      omega
  · rw [hlen]
    rcases hget i o' ho' with rfl | ⟨_, o, g1, g2, g3⟩
    · trivial
    have hok := hR.ok _ o g1
    subst g2
    cases o with
    | cells l T =>
      have := renL_spec (R := C.R) (w := C.w1) (ρ := ρ) (ρ' := fun i => ρ (orig i)) l (fun t ht => hρ t (g3 t ht)) hok.1
      exact ⟨this.2.1, by rw [ren_leaves]; exact hok.2⟩
    | seq κ xs E => trivial
    | dead => trivial
theorem freshSt_sound {b : Bool} {S : St} {K : St → Option α} {r : α} (h : freshSt b S K = some r) : ∃ S', K S' = some r ∧ SameGood S.H.length S S' := by
  unfold freshSt at h
  split at h
  · split at h
    · rename_i ts _
      split at h
      · rename_i objs hobjs
        split at h
        · rename_i hc
          simp only [Bool.and_eq_true] at hc
          obtain ⟨⟨⟨c1, c2⟩, c3⟩, c4⟩ := hc
          have hs := fresh_spec hobjs (nodupN_spec c1) (ltAll_spec c2) (ltAll_spec c3)
          refine ⟨_, h, by simp [killAt_length], fun C ρ tmps w hF hR => ?_⟩
          obtain ⟨ρ', e1, e2, e3⟩ := hs C ρ w hR
          have hlen : ((killAt (seqsIn S.H ts) 0 S.H ++ objs).map (SObj.ren (frMap S.H.length (seqsIn S.H ts)))).length = S.H.length + (seqsIn S.H ts).length := by simp [(pickAll_get hobjs).1, killAt_length]
          refine ⟨ρ', e1, ⟨by rw [frRen_length]; exact hF.size, fun i v hv => ?_⟩, e2⟩
          obtain ⟨u, g1, rfl⟩ := frRen_get _ hv
          obtain ⟨p1, p2⟩ := hF.val i u g1
          obtain ⟨q1, q2⟩ := ren_spec (ρ' := ρ') (n' := S.H.length + (seqsIn S.H ts).length) u (fun t ht => e3 t (ltAll_spec c4 t (mem_frToks g1 ht))) p2
          exact ⟨by rw [q1]; exact p1, by rw [hlen]; exact q2⟩
        · cases h
      · cases h
    · cases h
  · exact ⟨S, h, Nat.le_refl _, fun C ρ tmps w hF hR => ⟨ρ, fun _ _ => rfl, hF, hR⟩⟩

theorem cleanL_sound {fid : FuncId} {path : List Bool} {base : Nat} {S : St} {K : St → Option α} {r : α} (h : cleanL E fid path base S K = some r) : ∃ S', K S' = some r ∧ SameGood base S S' := by
  obtain ⟨S', h1, h2⟩ := gcSt_sound h
  exact ⟨S', h1, h2.len, fun C ρ tmps w hF hR => h2.rel C ρ tmps w (junked_rel _ _ hF) hR⟩

theorem cleanX_sound {fid : FuncId} {path : List Bool} {base : Nat} {S : St} {K : St → Option α} {r : α} (h : cleanX E fid path base S K = some r) : ∃ S', K S' = some r ∧ SameGood base S S' := by
  obtain ⟨S', h1, h2⟩ := gcSt_sound h
  exact ⟨S', h1, h2.len, fun C ρ tmps w hF hR => h2.rel C ρ tmps w (junked_rel _ _ hF) hR⟩

theorem callI_sound {look : LookF α} {run : RunF α} (hlook : LookOk E.P look) (hrun : RunOk E.P run) : CallOk E.P (callI E look run) := by
  intro f args H K r h
  unfold callI at h
  split at h
  · rename_i c hc
    exact hlook f c args H K r hc h
  · split at h
    · rename_i fn hfn
      split at h
      · rename_i c hc
        split at h
        · rename_i hle
          have hle' := Nat.le_of_ble_eq_true hle
          obtain ⟨S0, h, hg0⟩ := freshSt_sound h
          obtain ⟨e, S', h1, hg1⟩ := hrun f [] H.length c S0 _ r ⟨fn, c, hfn, hc, rfl⟩ hg0.len h
          have hg : CodeGood E.P H.length c ⟨enterF fn.ntmps args, H⟩ e S' := ⟨hg1.len, fun C ρ a w hd hF hR => by
            obtain ⟨ρ1, q1, q2, q3⟩ := hg0.rel C ρ a.tmps w hF hR
            refine wp_mono (hg1.wp C ρ1 a w hd q2 q3) fun ex a' w' hp => ?_
            obtain ⟨p1, ρ', p2, p3, p4, p5⟩ := hp
            exact ⟨p1, ρ', p2, p3, p4, fun t ht => by rw [p5 t ht, q1 t ht]⟩⟩
          have hex : (e = .normal ∨ e = .ret) ∧ (bindO (resOf E S'.H S'.F fn.results) fun v => gcRet H.length v S'.H K) = some r := by
            cases e with
            | normal => exact ⟨.inl rfl, h1⟩
            | ret => exact ⟨.inr rfl, h1⟩
            | exit id => cases h1
          obtain ⟨he, h2⟩ := hex
          obtain ⟨v, hv, h3⟩ := bindO_some h2
          -- the call itself
          have hcall : ∀ (C : Cx) (ρ : Nat → Tk) (w : World), Rel C ρ H w → SV.okL C.R C.w1 ρ H.length args →
              Calls E.P f (denL ρ args).toArray w fun en w' => ∃ ρ', (∀ t, t < H.length → ρ' t = ρ t) ∧ en = .returned (den ρ' v) ∧ Rel C ρ' S'.H w' ∧ v.ok C.R C.w1 ρ' S'.H.length := by
            intro C ρ w hR hargs
            refine calls_of_wp hfn hc ?_
            have hF : FRel C ρ H.length (enterF fn.ntmps args) ((denL ρ args).toArray ++ Array.replicate (fn.ntmps - (denL ρ args).toArray.size) undef) := by
              refine ⟨by simp [enterF, denL_length], fun i u hu => ?_⟩
              unfold enterF at hu
              by_cases hi : i < args.length
              · rw [List.getElem?_append_left (by simpa using hi), List.getElem?_map] at hu
                cases hq : args[i]? with
                | none => simp [hq] at hu
                | some u' =>
                  simp only [hq, Option.map_some, Option.some.injEq] at hu
                  subst hu
                  refine ⟨?_, okL_iff.1 hargs _ (List.mem_of_getElem? hq)⟩
                  rw [Array.getElem?_append_left (by simpa [denL_length] using hi), List.getElem?_toArray]
                  exact denL_get ρ args i _ hq
              · rw [List.getElem?_append_right (by simpa using hi), List.getElem?_replicate] at hu
                split at hu
                · rename_i hlt
                  cases hu
                  refine ⟨?_, by simp [SV.ok, undef]⟩
                  rw [Array.getElem?_append_right (by simpa [denL_length] using hi)]
                  simp only [List.length_map] at hlt
                  simp only [List.size_toArray, denL_length, den, Array.getElem?_replicate]
                  rw [if_pos hlt]
                · cases hu
            refine wp_mono (hg.wp C ρ { tmps := _, defers := [] } w rfl hF hR) fun ex a' w' hp => ?_
            obtain ⟨hex, ρ', d1, d2, d3, d4⟩ := hp
            obtain ⟨r1, r2⟩ := resOf_spec E d2 d3 hv
            rcases he with rfl | rfl <;> subst hex <;> exact ⟨d1, _, r1, ρ', d4, rfl, d3, r2⟩
          unfold gcRet at h3
          split at h3
          · rename_i H2 hgc
            obtain ⟨_, l2, g3⟩ := gc_spec hgc
            refine ⟨v, H2, h3, l2, fun C ρ w hR hargs => (hcall C ρ w hR hargs).mono fun en w' hq => ?_⟩
            obtain ⟨ρ', q1, q2, q3, q4⟩ := hq
            obtain ⟨ρ2, e1, e2, e3, _⟩ := g3 C ρ' w' q3
            obtain ⟨rfl, e4⟩ := e3 rfl
            exact ⟨ρ2, q1, q2, e2, ok_of_toks v e4 q4⟩
          · rename_i τ H2 hne hgc
            obtain ⟨_, l2, g3⟩ := gc_spec hgc
            refine ⟨_, H2, h3, l2, fun C ρ w hR hargs => (hcall C ρ w hR hargs).mono fun en w' hq => ?_⟩
            obtain ⟨ρ', q1, q2, q3, q4⟩ := hq
            obtain ⟨ρ2, e1, e2, _, e3⟩ := g3 C ρ' w' q3
            have e3 := e3 (fun e => hne e)
            obtain ⟨p1, p2⟩ := ren_spec (ρ' := ρ2) (n' := List.length H2) v e3 q4
            exact ⟨ρ2, fun t ht => by rw [e1 t ht, q1 t ht], by rw [p1]; exact q2, e2, p2⟩
          · cases h3
        · cases h
      · cases h
    · cases h

theorem iter_sound {base : Nat} {c : Code} {step : St → (Ex → St → Option α) → Option α}
    (hstep : ∀ S K r, base ≤ S.H.length → step S K = some r → ∃ e S1 S', K e S' = some r ∧ CodeGood E.P base c S e S1 ∧ SameGood base S1 S') : ∀ (L : Nat) (S : St) (K : Ex → St → Option α) (r : α), base ≤ S.H.length → iter step L S K = some r →
    ∃ e S', K e S' = some r ∧ base ≤ S'.H.length ∧ ∀ (C : Cx) (ρ : Nat → Tk) (a : Act) (w : World), a.defers = [] → FRel C ρ S.H.length S.F a.tmps → Rel C ρ S.H w → ∀ (b : Frame) (k : List Item) (cs : List Frame),
      ∃ ex a' w', (ex = e.exit' ∧ ∃ ρ', a'.defers = [] ∧ FRel C ρ' S'.H.length S'.F a'.tmps ∧ Rel C ρ' S'.H w' ∧ ∀ t, t < base → ρ' t = ρ t) ∧ Arrives E.P (lone (b.at a (.code c :: .inLoop c :: k)) cs w) b k cs ex a' w'
  | 0, S, K, r, _, h => by simp [iter] at h
  | L + 1, S, K, r, hb, h => by
    simp only [iter] at h
    obtain ⟨e, S1, S', h1, g1, g2⟩ := hstep S _ r hb h
    have leave : ∀ (x : Ex), x = e → x ≠ .normal → K e S' = some r → ∃ e S', K e S' = some r ∧ base ≤ S'.H.length ∧ ∀ (C : Cx) (ρ : Nat → Tk) (a : Act) (w : World), a.defers = [] → FRel C ρ S.H.length S.F a.tmps → Rel C ρ S.H w → ∀ (b : Frame) (k : List Item) (cs : List Frame),
      ∃ ex a' w', (ex = e.exit' ∧ ∃ ρ', a'.defers = [] ∧ FRel C ρ' S'.H.length S'.F a'.tmps ∧ Rel C ρ' S'.H w' ∧ ∀ t, t < base → ρ' t = ρ t) ∧ Arrives E.P (lone (b.at a (.code c :: .inLoop c :: k)) cs w) b k cs ex a' w' := by
      intro x hx hne hk
      refine ⟨e, S', hk, g2.len, fun C ρ a w hd hF hR b k cs => ?_⟩
      obtain ⟨ex, a', w', ⟨p1, ρ', p2, p3, p4, p5⟩, harr⟩ := g1.wp C ρ a w hd hF hR b (.inLoop c :: k) cs
      obtain ⟨ρ2, q1, q2, q3⟩ := g2.rel C ρ' a'.tmps w' p3 p4
      refine ⟨ex, a', w', ⟨p1, ρ2, p2, q2, q3, fun t ht => by rw [q1 t ht, p5 t ht]⟩, ?_⟩
      refine .pass (x := .inLoop c) rfl (fun _ _ => .inl ?_) harr
      rw [p1, ← hx]
      cases x <;> simp [Ex.exit'] at hne ⊢
    cases e with
    | exit id => exact leave (.exit id) rfl (by simp) h1
    | ret => exact leave .ret rfl (by simp) h1
    | normal =>
      obtain ⟨e2, S2, h2, l2, g3⟩ := iter_sound hstep L S' K r g2.len h1
      refine ⟨e2, S2, h2, l2, fun C ρ a w hd hF hR b k cs => ?_⟩
      obtain ⟨ex, a', w', ⟨p1, ρ', p2, p3, p4, p5⟩, harr⟩ := g1.wp C ρ a w hd hF hR b (.inLoop c :: k) cs
      obtain ⟨ρ2, q1, q2, q3⟩ := g2.rel C ρ' a'.tmps w' p3 p4
      obtain ⟨ex2, a2, w2, ⟨s1, ρ3, s2, s3, s4, s5⟩, harr2⟩ := g3 C ρ2 a' w' p2 q2 q3 b k cs
      subst p1
      refine ⟨ex2, a2, w2, ⟨s1, ρ3, s2, s3, s4, fun t ht => by rw [s5 t ht, q1 t ht, p5 t ht]⟩, ?_⟩
      have hst : Steps E.P (lone (b.at a (.code c :: .inLoop c :: k)) cs w) (lone (b.at a' (.inLoop c :: k)) cs w') := harr
      exact .of_steps (hst.trans (.one step_inLoop)) harr2

theorem CodeGood.after {P : Program} {base : Nat} {c : Code} {S S1 : St} {e : Ex} {S' : St} (h0 : SameGood base S S1) (h : CodeGood P base c S1 e S') : CodeGood P base c S e S' :=
  ⟨h.len, fun C ρ a w hd hF hR => by
    obtain ⟨ρ1, q1, q2, q3⟩ := h0.rel C ρ a.tmps w hF hR
    refine wp_mono (h.wp C ρ1 a w hd q2 q3) fun ex a' w' hp => ?_
    obtain ⟨p1, ρ', p2, p3, p4, p5⟩ := hp
    exact ⟨p1, ρ', p2, p3, p4, fun t ht => by rw [p5 t ht, q1 t ht]⟩⟩

theorem sub_step {P : Program} {fid : FuncId} {path : List Bool} {c d : Code} {b : Bool} (h : Stands P fid path c) (hd : ∀ root, sub root path = some c → sub root (b :: path) = some d) : Stands P fid (b :: path) d := by
  obtain ⟨fn, body, h1, h2, h3⟩ := h
  exact ⟨fn, body, h1, h2, hd body h3⟩

end
end Go.Proofs.Ytkjellhkamfciaa.Sx
