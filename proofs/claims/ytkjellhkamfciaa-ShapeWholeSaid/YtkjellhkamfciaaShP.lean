/- shape, plainly: short directions; tidy cores; the order of points; weights. -/
import Derived.Test.YtkjellhkamfciaaShH
namespace Go.Proofs.Ytkjellhkamfciaa.Sx
open Go
set_option linter.unusedVariables false
set_option linter.unusedSimpArgs false
def negT (p : P3) : P3 := (-p.1, -p.2.1, -p.2.2)
theorem gcd3_neg (p : P3) : gcd3 (negT p) = gcd3 p := by simp [gcd3, negT]
theorem divP_neg (p : P3) (n : Int) : divP (negT p) n = negT (divP p n) := by simp [divP, negT, Int.neg_tdiv]
theorem bareP_neg (p : P3) : bareP (negT p) = negT (bareP p) := by unfold bareP; rw [gcd3_neg, divP_neg]
theorem bigP_neg (p : P3) (n : Int) : bigP (negT p) n = bigP p n := by
  obtain ⟨x, y, z⟩ := p
  show (decide (n < -x) || decide (-x < -n) || decide (n < -y) || decide (-y < -n) || decide (n < -z) || decide (-z < -n)) = (decide (n < x) || decide (x < -n) || decide (n < y) || decide (y < -n) || decide (n < z) || decide (z < -n))
  rw [Bool.eq_iff_iff]; simp only [Bool.or_eq_true, decide_eq_true_eq]; omega
theorem shrinkP_neg : ∀ (n : Nat) (p : P3), shrinkP n (negT p) = negT (shrinkP n p)
  | 0, p => rfl
  | n + 1, p => by
    simp only [shrinkP, bigP_neg]
    split
    · rw [divP_neg, shrinkP_neg n]
    · rfl
theorem shortP_neg (p : P3) : shortP (negT p) = negT (shortP p) := by
  unfold shortP
  rw [bigP_neg]
  split
  · rfl
  · rw [bareP_neg, shrinkP_neg, bareP_neg]
theorem gcd3_bare {p : P3} (h : p ≠ (0, 0, 0)) : gcd3 (bareP p) = 1 := by
  have hp := gcd3_pos h
  have d1 : gcd3 p ∣ p.1.natAbs := Nat.dvd_trans (Nat.gcd_dvd_left _ _) (Nat.gcd_dvd_left _ _)
  have d2 : gcd3 p ∣ p.2.1.natAbs := Nat.dvd_trans (Nat.gcd_dvd_left _ _) (Nat.gcd_dvd_right _ _)
  have d3 : gcd3 p ∣ p.2.2.natAbs := Nat.gcd_dvd_right _ _
  have e : ∀ x : Int, (x.tdiv (gcd3 p : Int)).natAbs = x.natAbs / gcd3 p := fun x => by rw [Int.natAbs_tdiv]; rfl
  have h1 : gcd3 (bareP p) = Nat.gcd (Nat.gcd (p.1.natAbs / gcd3 p) (p.2.1.natAbs / gcd3 p)) (p.2.2.natAbs / gcd3 p) := by
    show Nat.gcd (Nat.gcd (p.1.tdiv (gcd3 p : Int)).natAbs (p.2.1.tdiv (gcd3 p : Int)).natAbs) (p.2.2.tdiv (gcd3 p : Int)).natAbs = _
    rw [e, e, e]
  rw [h1, Nat.gcd_div d1 d2, Nat.gcd_div (Nat.dvd_gcd d1 d2) d3]
  exact Nat.div_self hp
theorem bareP_one {p : P3} (h : gcd3 p = 1) : bareP p = p := by
  unfold bareP divP
  rw [h]
  simp
theorem bareP_zero : bareP (0, 0, 0) = (0, 0, 0) := by decide
theorem shortP_zero : shortP (0, 0, 0) = (0, 0, 0) := by decide +kernel
/-- What is short is bare and not great, or noughts. -/
theorem shortP_form (p : P3) : shortP p = (0, 0, 0) ∨ (gcd3 (shortP p) = 1 ∧ bigP (shortP p) 1048576 = false ∧ p ≠ (0, 0, 0) ∧ bigP p 4398046511104 = false) := by
  unfold shortP
  split
  · exact .inl rfl
  · rename_i h
    have h' : bigP p 4398046511104 = false := by simpa using h
    by_cases h0 : p = (0, 0, 0)
    · subst h0
      exact .inl shortP_zero
    · have h1 := divP_ne h0
      have h2 := shrink_ne 64 _ h1
      refine .inr ⟨gcd3_bare h2, bigP_div _ ?_, h0, h'⟩
      refine shrink_small 64 64 _ ?_ (Nat.le_refl _)
      have h3 := bigP_false (bigP_div (gcd3 p) h')
      apply bigP_eq_false
      have e := lim_64
      unfold bareP
      omega
theorem big_mono {p : P3} {m n : Int} (h : bigP p m = false) (hmn : m ≤ n) : bigP p n = false := by
  have := bigP_false h
  apply bigP_eq_false; omega
theorem shortP_stay {p : P3} (h1 : gcd3 p = 1) (h2 : bigP p 1048576 = false) : shortP p = p := by
  unfold shortP
  rw [if_neg (by rw [big_mono h2 (by omega)]; decide), bareP_one h1, shrink_stop 64 h2, bareP_one h1]
theorem shortP_idem (p : P3) : shortP (shortP p) = shortP p := by
  rcases shortP_form p with h | ⟨h1, h2, _⟩
  · rw [h, shortP_zero]
  · exact shortP_stay h1 h2
theorem shortP_small (p : P3) : bigP (shortP p) 1048576 = false := by
  rcases shortP_form p with h | ⟨_, h2, _⟩
  · rw [h]; decide
  · exact h2
theorem cEq_self (a : Int) : cEq a a = true := by rw [cEq_eq]; simp
/-! What stays through all triples of a hull. -/
theorem kF_ind (Q : St2 → Prop) (l : List P3) (i j : Nat) (h : ∀ k st, j < k → k < l.length → Q st → Q (trip l i j k st)) : ∀ (m k : Nat) (st : St2), j < k → k + m ≤ l.length → Q st → Q (kF l i j m k st)
  | 0, k, st, _, _, hq => hq
  | m + 1, k, st, hk, hm, hq => kF_ind Q l i j h m (k + 1) _ (by omega) (by omega) (h k st hk (by omega) hq)
theorem jF_ind (Q : St2 → Prop) (l : List P3) (i : Nat) (h : ∀ j k st, i < j → j < k → k < l.length → Q st → Q (trip l i j k st)) : ∀ (m j : Nat) (st : St2), i < j → j + m ≤ l.length → Q st → Q (jF l i m j st)
  | 0, j, st, _, _, hq => hq
  | m + 1, j, st, hj, hm, hq => jF_ind Q l i h m (j + 1) _ (by omega) (by omega) (kF_ind Q l i j (fun k st hk hl hq => h j k st hj hk hl hq) _ _ _ (by omega) (by omega) hq)
theorem iF_ind (Q : St2 → Prop) (l : List P3) (h : ∀ i j k st, i < j → j < k → k < l.length → Q st → Q (trip l i j k st)) : ∀ (m i : Nat) (st : St2), i + m ≤ l.length → Q st → Q (iF l m i st)
  | 0, i, st, _, hq => hq
  | m + 1, i, st, hm, hq => iF_ind Q l h m (i + 1) _ (by omega) (jF_ind Q l i (fun j k st hj hk hl hq => h i j k st hj hk hl hq) _ _ _ (by omega) (by omega) hq)
theorem facesP_ind (Q : St2 → Prop) (l : List P3) (h : ∀ i j k st, i < j → j < k → k < l.length → Q st → Q (trip l i j k st)) (h0 : Q ([], [])) : Q (facesP l) :=
  iF_ind Q l h _ _ _ (by omega) h0
/-- Which triples bear an axis. -/
def Sup (l : List P3) (i j k : Nat) : Prop := triN l i j k ≠ (0, 0, 0) ∧ triS l i j k ≠ 0
theorem trip_mem (l : List P3) (i j k : Nat) (st : St2) (a : P3) : a ∈ (trip l i j k st).1 ↔ a ∈ st.1 ∨ (Sup l i j k ∧ a = triA l i j k) := by
  unfold trip Sup
  by_cases h1 : triN l i j k = (0, 0, 0)
  · simp [h1]
  · by_cases h2 : triS l i j k = 0
    · simp [h1, h2]
    · simp only [h1, h2, if_false, not_false_eq_true, ne_eq, and_self, true_and]
      split
      · constructor
        · exact .inl
        · rintro (h | rfl)
          · exact h
          · assumption
      · simp
theorem kF_mem (l : List P3) (i j : Nat) (a : P3) : ∀ (m k : Nat) (st : St2), a ∈ (kF l i j m k st).1 ↔ a ∈ st.1 ∨ ∃ k', k ≤ k' ∧ k' < k + m ∧ Sup l i j k' ∧ a = triA l i j k'
  | 0, k, st => by
    simp only [kF]
    constructor
    · exact .inl
    · rintro (h | ⟨k', h1, h2, _⟩)
      · exact h
      · omega
  | m + 1, k, st => by
    simp only [kF]
    rw [kF_mem l i j a m (k + 1), trip_mem]
    constructor
    · rintro ((h | ⟨h1, h2⟩) | ⟨k', h1, h2, h3⟩)
      · exact .inl h
      · exact .inr ⟨k, Nat.le_refl _, by omega, h1, h2⟩
      · exact .inr ⟨k', by omega, by omega, h3⟩
    · rintro (h | ⟨k', h1, h2, h3⟩)
      · exact .inl (.inl h)
      · by_cases e : k' = k
        · subst e; exact .inl (.inr h3)
        · exact .inr ⟨k', by omega, by omega, h3⟩
theorem jF_mem (l : List P3) (i : Nat) (a : P3) : ∀ (m j : Nat) (st : St2), a ∈ (jF l i m j st).1 ↔ a ∈ st.1 ∨ ∃ j' k', j ≤ j' ∧ j' < j + m ∧ j' < k' ∧ k' < l.length ∧ Sup l i j' k' ∧ a = triA l i j' k'
  | 0, j, st => by
    simp only [jF]
    constructor
    · exact .inl
    · rintro (h | ⟨j', k', h1, h2, _⟩)
      · exact h
      · omega
  | m + 1, j, st => by
    simp only [jF]
    rw [jF_mem l i a m (j + 1), kF_mem]
    constructor
    · rintro ((h | ⟨k', h1, h2, h3⟩) | ⟨j', k', h1, h2, h3⟩)
      · exact .inl h
      · exact .inr ⟨j, k', Nat.le_refl _, by omega, by omega, by omega, h3⟩
      · exact .inr ⟨j', k', by omega, by omega, h3⟩
    · rintro (h | ⟨j', k', h1, h2, h3, h4, h5⟩)
      · exact .inl (.inl h)
      · by_cases e : j' = j
        · subst e; exact .inl (.inr ⟨k', by omega, by omega, h5⟩)
        · exact .inr ⟨j', k', by omega, by omega, h3, h4, h5⟩
theorem iF_mem (l : List P3) (a : P3) : ∀ (m i : Nat) (st : St2), a ∈ (iF l m i st).1 ↔ a ∈ st.1 ∨ ∃ i' j' k', i ≤ i' ∧ i' < i + m ∧ i' < j' ∧ j' < k' ∧ k' < l.length ∧ Sup l i' j' k' ∧ a = triA l i' j' k'
  | 0, i, st => by
    simp only [iF]
    constructor
    · exact .inl
    · rintro (h | ⟨i', j', k', h1, h2, _⟩)
      · exact h
      · omega
  | m + 1, i, st => by
    simp only [iF]
    rw [iF_mem l a m (i + 1), jF_mem]
    constructor
    · rintro ((h | ⟨j', k', h1, h2, h3⟩) | ⟨i', j', k', h1, h2, h3⟩)
      · exact .inl h
      · exact .inr ⟨i, j', k', Nat.le_refl _, by omega, by omega, h3⟩
      · exact .inr ⟨i', j', k', by omega, by omega, h3⟩
    · rintro (h | ⟨i', j', k', h1, h2, h3, h4, h5⟩)
      · exact .inl (.inl h)
      · by_cases e : i' = i
        · subst e; exact .inl (.inr ⟨j', k', by omega, by omega, h4, h5⟩)
        · exact .inr ⟨i', j', k', by omega, by omega, h3, h4, h5⟩
theorem facesP_mem (l : List P3) (a : P3) : a ∈ (facesP l).1 ↔ ∃ i j k, i < j ∧ j < k ∧ k < l.length ∧ Sup l i j k ∧ a = triA l i j k := by
  unfold facesP
  rw [iF_mem]
  constructor
  · rintro (h | ⟨i, j, k, h1, h2, h3⟩)
    · simp at h
    · exact ⟨i, j, k, h3⟩
  · rintro ⟨i, j, k, h1, h2, h3, h4⟩
    exact .inr ⟨i, j, k, by omega, by omega, h1, h2, h3, h4⟩
/-! Neat directions. -/
def Neat (p : P3) : Prop := p ≠ (0, 0, 0) ∧ shortP p = p ∧ bigP p 1048576 = false
theorem short_neat {p : P3} (h0 : p ≠ (0, 0, 0)) (hb : bigP p 4398046511104 = false) : Neat (shortP p) := by
  refine ⟨?_, shortP_idem p, shortP_small p⟩
  unfold shortP
  rw [if_neg (by rw [hb]; decide)]
  exact divP_ne (shrink_ne 64 _ (divP_ne h0))
theorem Sm.big {p : P3} {n m : Int} (h : Sm p n) (hnm : n ≤ m) : bigP p m = false := by
  unfold Sm at h; exact bigP_eq_false (by omega)
theorem Sm.mono {p : P3} {n m : Int} (h : Sm p n) (hnm : n ≤ m) : Sm p m := by unfold Sm at *; omega
theorem sub3_ne {a b : P3} (h : a ≠ b) : sub3 a b ≠ (0, 0, 0) := by
  intro e
  apply h
  simp only [zero3, sub3] at e
  obtain ⟨a1, a2, a3⟩ := a
  obtain ⟨b1, b2, b3⟩ := b
  simp only at e
  rw [show a1 = b1 by omega, show a2 = b2 by omega, show a3 = b3 by omega]
structure Pts (l : List P3) : Prop where
  sm : ∀ p ∈ l, Sm p 65536
  nd : l.Nodup
theorem pts_of {l : List P3} (h : V.apartP l = true) : Pts l := by
  simp only [V.apartP, decide_eq_true_eq] at h
  exact ⟨fun p hp => sm_of (h.1 p hp), h.2⟩
theorem Pts.ne {l : List P3} (h : Pts l) {i j : Nat} (hij : i < j) (hj : j < l.length) : pt l j ≠ pt l i := by
  rw [pt_eq l i (by omega), pt_eq l j hj]
  intro e
  have := (List.getElem_inj h.nd).1 e
  omega
theorem Pts.at {l : List P3} (h : Pts l) {i : Nat} (hi : i < l.length) : Sm (pt l i) 65536 := h.sm _ (pt_mem l i hi)
theorem Pts.sub {l : List P3} (h : Pts l) {i j : Nat} (hi : i < l.length) (hj : j < l.length) : V.pSub (pt l j) (pt l i) = sub3 (pt l j) (pt l i) ∧ Sm (sub3 (pt l j) (pt l i)) 131072 := sub_sm (h.at hj) (h.at hi)
theorem Pts.triN {l : List P3} (h : Pts l) {i j k : Nat} (hi : i < l.length) (hj : j < l.length) (hk : k < l.length) :
    triN l i j k = cr3 (sub3 (pt l j) (pt l i)) (sub3 (pt l k) (pt l i)) ∧ Sm (cr3 (sub3 (pt l j) (pt l i)) (sub3 (pt l k) (pt l i))) 34359738368 := by
  obtain ⟨e1, s1⟩ := h.sub hi hj
  obtain ⟨e2, s2⟩ := h.sub hi hk
  unfold Sx.triN
  rw [e1, e2]
  exact cr_sm s1 s2
theorem negP_eq {p : P3} (h : bigP p 1048576 = false) : negP p = negT p := by
  have := bigP_false h
  unfold negP V.pSub negT
  simp only
  rw [IntWalk.i64_in _ (by omega), IntWalk.i64_in _ (by omega), IntWalk.i64_in _ (by omega)]
  simp
theorem sideP_cases (l : List P3) (n a : P3) : V.sideP l n a = 1 ∨ V.sideP l n a = -1 ∨ V.sideP l n a = 0 := by
  unfold V.sideP
  split
  · exact .inl rfl
  · split
    · exact .inr (.inl rfl)
    · exact .inr (.inr rfl)
theorem mulP_one {n : P3} (h : Sm n 34359738368) : mulP 1 n = n := by
  unfold Sm at h; unfold mulP
  simp only [Int.one_mul]
  rw [IntWalk.i64_in _ (by omega), IntWalk.i64_in _ (by omega), IntWalk.i64_in _ (by omega)]
theorem mulP_neg {n : P3} (h : Sm n 34359738368) : mulP (-1) n = negT n := by
  unfold Sm at h; unfold mulP negT
  simp only [Int.neg_mul, Int.one_mul]
  rw [IntWalk.i64_in _ (by omega), IntWalk.i64_in _ (by omega), IntWalk.i64_in _ (by omega)]
theorem Sm.neg {p : P3} {n : Int} (h : Sm p n) : Sm (negT p) n := by
  unfold Sm at *; simp only [negT]; omega
theorem negT_ne {p : P3} (h : p ≠ (0, 0, 0)) : negT p ≠ (0, 0, 0) := by
  intro e; apply h
  rw [zero3] at e ⊢
  simp only [negT] at e
  omega
/-- An axis is neat. -/
theorem triA_neat {l : List P3} (h : Pts l) {i j k : Nat} (hi : i < l.length) (hj : j < l.length) (hk : k < l.length) (hs : Sup l i j k) : Neat (triA l i j k) := by
  obtain ⟨e, s⟩ := h.triN hi hj hk
  unfold triA
  rw [short_eq']
  rcases sideP_cases l (triN l i j k) (pt l i) with hc | hc | hc
  · rw [show triS l i j k = 1 from hc, mulP_one (by rw [e]; exact s)]
    exact short_neat hs.1 (by rw [e]; exact s.big (by omega))
  · rw [show triS l i j k = -1 from hc, mulP_neg (by rw [e]; exact s)]
    exact short_neat (negT_ne hs.1) (by rw [e]; exact s.neg.big (by omega))
  · exact absurd hc hs.2
theorem triE_neat {l : List P3} (h : Pts l) {i j k : Nat} (hij : i < j) (hjk : j < k) (hk : k < l.length) : ∀ e ∈ triE l i j k, Neat (V.pShort e) := by
  have key : ∀ a b, a < b → b < l.length → Neat (V.pShort (V.pSub (pt l b) (pt l a))) := by
    intro a b hab hb
    obtain ⟨e1, s1⟩ := h.sub (i := a) (j := b) (by omega) hb
    rw [short_eq', e1]
    exact short_neat (sub3_ne (h.ne hab hb)) (s1.big (by omega))
  intro e he
  simp only [triE, List.mem_cons, List.not_mem_nil, or_false] at he
  rcases he with rfl | rfl | rfl
  · exact key i j hij (by omega)
  · exact key i k (by omega) hk
  · exact key j k hjk hk
theorem negT_negT (p : P3) : negT (negT p) = p := by simp [negT]
theorem negT_self {p : P3} (h : p ≠ (0, 0, 0)) : p ≠ negT p := by
  intro e
  apply h
  have := congrArg (fun q : P3 => q.1) e
  have h2 := congrArg (fun q : P3 => q.2.1) e
  have h3 := congrArg (fun q : P3 => q.2.2) e
  simp only [negT] at this h2 h3
  exact zero3.2 (by omega)
/-- Lists of edges: neat, none twice, none the other way round. -/
structure EOk (es : List P3) : Prop where
  neat : ∀ e ∈ es, Neat e
  nd : es.Nodup
  neg : ∀ e ∈ es, negT e ∉ es
theorem EOk.add {es : List P3} (h : EOk es) {e : P3} (he : Neat (V.pShort e)) : EOk (addE es e) := by
  unfold addE
  split
  · exact h
  · rename_i hc
    rw [not_or, negP_eq he.2.2] at hc
    generalize V.pShort e = d at *
    refine ⟨?_, ?_, ?_⟩
    · intro x hx
      rcases List.mem_append.1 hx with hx | hx
      · exact h.neat x hx
      · rw [List.mem_singleton.1 hx]; exact he
    · rw [List.nodup_append]
      exact ⟨h.nd, by simp, fun a ha b hb => by rw [List.mem_singleton.1 hb]; rintro rfl; exact hc.1 ha⟩
    · intro x hx hn
      rcases List.mem_append.1 hx with hx | hx <;> rcases List.mem_append.1 hn with hn | hn
      · exact h.neg x hx hn
      · have e1 := List.mem_singleton.1 hn
        apply hc.2
        rw [← e1, negT_negT]; exact hx
      · rw [List.mem_singleton.1 hx] at hn; exact hc.2 hn
      · rw [List.mem_singleton.1 hx] at hn
        exact negT_self he.1 (List.mem_singleton.1 hn).symm
theorem EOk.adds : ∀ {l es : List P3}, EOk es → (∀ e ∈ l, Neat (V.pShort e)) → EOk (l.foldl addE es)
  | [], es, h, _ => h
  | e :: l, es, h, hl => EOk.adds (l := l) (es := addE es e) (h.add (hl e (by simp))) (fun x hx => hl x (by simp [hx]))
theorem faces_tidy {l : List P3} (h : Pts l) : (facesP l).1.Nodup ∧ (∀ a ∈ (facesP l).1, Neat a) ∧ EOk (facesP l).2 := by
  refine facesP_ind (fun st => st.1.Nodup ∧ (∀ a ∈ st.1, Neat a) ∧ EOk st.2) l ?_ ⟨by simp, by simp, ⟨by simp, by simp, by simp⟩⟩
  rintro i j k st hij hjk hk ⟨h1, h2, h3⟩
  by_cases c1 : triN l i j k = (0, 0, 0)
  · have e : trip l i j k st = st := by unfold trip; rw [if_pos c1]
    rw [e]; exact ⟨h1, h2, h3⟩
  by_cases c2 : triS l i j k = 0
  · have e : trip l i j k st = st := by unfold trip; rw [if_neg c1, if_pos c2]
    rw [e]; exact ⟨h1, h2, h3⟩
  have e : trip l i j k st = (if triA l i j k ∈ st.1 then st.1 else st.1 ++ [triA l i j k], (triE l i j k).foldl addE st.2) := by unfold trip; rw [if_neg c1, if_neg c2]
  rw [e]
  have hn := triA_neat h (by omega) (by omega) hk ⟨c1, c2⟩
  refine ⟨?_, ?_, h3.adds (triE_neat h hij hjk hk)⟩
  · simp only
    split
    · exact h1
    · rename_i hc
      rw [List.nodup_append]
      exact ⟨h1, by simp, fun a ha b hb => by rw [List.mem_singleton.1 hb]; rintro rfl; exact hc ha⟩
  · simp only
    split
    · exact h2
    · intro a ha
      rcases List.mem_append.1 ha with ha | ha
      · exact h2 a ha
      · rw [List.mem_singleton.1 ha]; exact hn
/-! Cores that may be are tidy. -/
theorem one_neat : Neat (1, 0, 0) ∧ Neat (0, 1, 0) ∧ Neat (0, 0, 1) := by
  refine ⟨⟨by decide, by decide +kernel, by decide⟩, ⟨by decide, by decide +kernel, by decide⟩, ⟨by decide, by decide +kernel, by decide⟩⟩
theorem three_ok : EOk [(1, 0, 0), (0, 1, 0), (0, 0, 1)] := by
  obtain ⟨h1, h2, h3⟩ := one_neat
  refine ⟨?_, by decide, by decide⟩
  intro e he
  simp only [List.mem_cons, List.not_mem_nil, or_false] at he
  rcases he with rfl | rfl | rfl <;> assumption
theorem core_tidy {k r hx hy hz : Int} {l : List P3} (hc : chkP k r hx hy hz l = 0) :
    (corAP k l).Nodup ∧ (∀ a ∈ corAP k l, Neat a) ∧ EOk (corEP k l) := by
  unfold corAP corEP
  rcases chk_range hc with ⟨rfl, _⟩ | ⟨rfl, _⟩ | ⟨rfl, _⟩ | ⟨rfl, _, _, h3, _⟩
  · simp only [Int.reduceEq, if_false]
    exact ⟨by simp, by simp, ⟨by simp, by simp, by simp⟩⟩
  · simp only [Int.reduceEq, if_false, if_true]
    refine ⟨by simp, by simp, ⟨?_, by simp, by decide⟩⟩
    intro e he
    rw [List.mem_singleton.1 he]; exact one_neat.1
  · simp only [Int.reduceEq, if_false, if_true]
    exact ⟨three_ok.nd, three_ok.neat, three_ok⟩
  · simp only [Int.reduceEq, if_false, if_true]
    exact faces_tidy (pts_of h3)
/-! The order of a hull's points bears on nothing. -/
theorem wid_mem {f : P3 → Int} {l t : List P3} (hl : 0 < l.length) (ht : 0 < t.length) (h : ∀ p, p ∈ l ↔ p ∈ t) : wid f l = wid f t := by
  have key : ∀ {l t : List P3}, 0 < l.length → (∀ p, p ∈ l ↔ p ∈ t) → loF f t (f (pt t 0)) ≤ loF f l (f (pt l 0)) ∧ hiF f l (f (pt l 0)) ≤ hiF f t (f (pt t 0)) := by
    intro l t hl h
    have a := loF_spec f l (f (pt l 0))
    have b := loF_spec f t (f (pt t 0))
    have c := hiF_spec f l (f (pt l 0))
    have d := hiF_spec f t (f (pt t 0))
    constructor
    · rcases a.2.2 with e | ⟨p, hp, e⟩
      · rw [e]; exact b.2.1 _ ((h _).1 (pt_mem l 0 hl))
      · rw [e]; exact b.2.1 _ ((h _).1 hp)
    · rcases c.2.2 with e | ⟨p, hp, e⟩
      · rw [e]; exact d.2.1 _ ((h _).1 (pt_mem l 0 hl))
      · rw [e]; exact d.2.1 _ ((h _).1 hp)
  have h1 := key hl h
  have h2 := key ht (fun p => (h p).symm)
  unfold wid; omega
theorem copl_mem {l t : List P3} (h : ∀ p, p ∈ l ↔ p ∈ t) : Copl l ↔ Copl t := by
  unfold Copl
  constructor
  · intro hl a ha b hb c hc d hd
    exact hl a ((h a).2 ha) b ((h b).2 hb) c ((h c).2 hc) d ((h d).2 hd)
  · intro hl a ha b hb c hc d hd
    exact hl a ((h a).1 ha) b ((h b).1 hb) c ((h c).1 hc) d ((h d).1 hd)
theorem flatP_mem {l t : List P3} (h : ∀ p, p ∈ l ↔ p ∈ t) : V.flatP l = V.flatP t := by
  rw [Bool.eq_iff_iff, flatP_iff, flatP_iff]; exact copl_mem h
theorem chk_perm {k r hx hy hz : Int} {l t : List P3} (h : l.Perm t) : chkP k r hx hy hz l = chkP k r hx hy hz t := by
  have h1 : l.length = t.length := h.length_eq
  have h2 : V.flatP l = V.flatP t := flatP_mem fun p => h.mem_iff
  have h3 : V.apartP l = V.apartP t := by
    unfold V.apartP
    rw [Bool.eq_iff_iff, decide_eq_true_eq, decide_eq_true_eq, h.nodup_iff]
    constructor
    · rintro ⟨a, b⟩; exact ⟨fun p hp => a p (h.mem_iff.2 hp), b⟩
    · rintro ⟨a, b⟩; exact ⟨fun p hp => a p (h.mem_iff.1 hp), b⟩
  unfold chkP
  rw [h1, h2, h3]
theorem mass_perm {r hx hy hz m : Int} {l t : List P3} (hl : 0 < l.length) (h : l.Perm t) : massP 4 r hx hy hz l m = massP 4 r hx hy hz t m := by
  have ht : 0 < t.length := by rw [← h.length_eq]; exact hl
  have hw : ∀ f : P3 → Int, halfP f l r = halfP f t r := fun f => by unfold halfP; rw [wid_mem hl ht fun p => h.mem_iff]
  unfold massP corPP
  simp only [Int.reduceEq, if_false]
  rw [hw, hw, hw]
/-! A heavier or wider body has no less inertia. -/
theorem sq_mono {m n a b : Int} (hm : 0 ≤ m) (hmn : m ≤ n) (ha : 0 ≤ a) (hab : a ≤ b) : sqP m a ≤ sqP n b ∧ 0 ≤ sqP m a := by
  have h1 : a * a ≤ b * b := Int.mul_le_mul hab hab ha (by omega)
  have h0 : 0 ≤ a * a := Int.mul_nonneg ha ha
  have h2 : a * a / 4294967296 ≤ b * b / 4294967296 := by omega
  have h3 : 0 ≤ a * a / 4294967296 := by omega
  unfold sqP
  generalize a * a / 4294967296 = p at *
  generalize b * b / 4294967296 = q at *
  have h4 : m * p ≤ n * q := Int.mul_le_mul hmn h2 h3 (by omega)
  have h5 : 0 ≤ m * p := Int.mul_nonneg hm h3
  omega
theorem atl_mono {a b : Int} (h : a ≤ b) : atl a ≤ atl b := by unfold atl; split <;> split <;> omega
theorem half_mono {f : P3 → Int} {l : List P3} {r s : Int} (hr : 0 ≤ r) (h : r ≤ s) : halfP f l r ≤ halfP f l s ∧ 0 ≤ halfP f l r := by
  have := wid_nonneg f l
  unfold halfP; omega
def LeP (a b : P3) : Prop := a.1 ≤ b.1 ∧ a.2.1 ≤ b.2.1 ∧ a.2.2 ≤ b.2.2
theorem mass_mono {k r s hx hy hz m n : Int} {l : List P3} (hr : 0 ≤ r) (hrs : r ≤ s) (hm : 0 ≤ m) (hmn : m ≤ n) : LeP (massP k r hx hy hz l m) (massP k s hx hy hz l n) := by
  unfold massP
  split
  · have := sq_mono (a := r * 1048576) (b := s * 1048576) hm hmn (by omega) (by omega)
    have h := atl_mono (a := sqP m (r * 1048576) * 2 / 5) (b := sqP n (s * 1048576) * 2 / 5) (by omega)
    exact ⟨h, h, h⟩
  · have hf : ∀ f : P3 → Int, sqP m (halfP f (corPP k hx hy hz l) r) ≤ sqP n (halfP f (corPP k hx hy hz l) s) ∧ 0 ≤ sqP m (halfP f (corPP k hx hy hz l) r) := fun f => by
      have := half_mono (f := f) (l := corPP k hx hy hz l) hr hrs
      exact sq_mono hm hmn this.2 this.1
    unfold massQ LeP
    have a := hf (fun p => p.1)
    have b := hf (fun p => p.2.1)
    have c := hf (fun p => p.2.2)
    exact ⟨atl_mono (by omega), atl_mono (by omega), atl_mono (by omega)⟩
theorem atl_ge (n : Int) : 4096 ≤ atl n := by unfold atl; split <;> omega
theorem mass_ge (k r hx hy hz : Int) (l : List P3) (m : Int) : 4096 ≤ (massP k r hx hy hz l m).1 ∧ 4096 ≤ (massP k r hx hy hz l m).2.1 ∧ 4096 ≤ (massP k r hx hy hz l m).2.2 := by
  unfold massP massQ
  split <;> exact ⟨atl_ge _, atl_ge _, atl_ge _⟩
end Go.Proofs.Ytkjellhkamfciaa.Sx
