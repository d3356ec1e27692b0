/- shape, plainly: the axes of a hull. -/
import Derived.Test.YtkjellhkamfciaaShP
namespace Go.Proofs.Ytkjellhkamfciaa.Sx
open Go
set_option linter.unusedVariables false
set_option linter.unusedSimpArgs false
/-! The axes of a hull, whatever the order of its points. -/
def nrm (A B C : P3) : P3 := cr3 (sub3 B A) (sub3 C A)
def AxOf (l : List P3) (A B C a : P3) : Prop := nrm A B C ≠ (0, 0, 0) ∧ V.sideP l (nrm A B C) A ≠ 0 ∧ a = shortP (mulP (V.sideP l (nrm A B C) A) (nrm A B C))
theorem nrm_sm {A B C : P3} (ha : Sm A 65536) (hb : Sm B 65536) (hc : Sm C 65536) : Sm (nrm A B C) 34359738368 := (cr_sm (sub_sm hb ha).2 (sub_sm hc ha).2).2
theorem ahead_eq {n a p : P3} (hn : Sm n 34359738368) (ha : Sm a 65536) (hp : Sm p 65536) : ahead n a p = dt3 n (sub3 p a) := by
  unfold ahead
  rw [(sub_sm hp ha).1]
  exact dt_sm hn (sub_sm hp ha).2
/-- Points not in one plane. -/
theorem not_all {l : List P3} (hs : ∀ p ∈ l, Sm p 65536) (hn : ¬ Copl l) {n a : P3} (h0 : n ≠ (0, 0, 0)) (h : ∀ p ∈ l, dt3 n (sub3 p a) = 0) : False := by
  apply hn
  have h' : ∀ p ∈ l, ∀ r ∈ l, dt3 n (sub3 p r) = 0 := by
    intro p hp r hr
    rw [sub_sub p r a, dt_sub, h p hp, h r hr]; rfl
  intro x hx y hy z hz w hw
  exact det_perp h0 (h' y hy x hx) (h' z hz x hx) (h' w hw x hx)
theorem dt_neg (n v : P3) : dt3 (negT n) v = - dt3 n v := by unfold dt3 negT; simp only; grind
theorem side_one {l : List P3} (hs : ∀ p ∈ l, Sm p 65536) {n a : P3} (hn : Sm n 34359738368) (ha : a ∈ l) : V.sideP l n a = if ∀ p ∈ l, dt3 n (sub3 p a) ≤ 0 then 1 else if ∀ p ∈ l, 0 ≤ dt3 n (sub3 p a) then -1 else 0 := by
  have e1 : (∀ p ∈ l, ahead n a p ≤ 0) ↔ ∀ p ∈ l, dt3 n (sub3 p a) ≤ 0 := by
    constructor <;> intro h p hp
    · rw [← ahead_eq hn (hs a ha) (hs p hp)]; exact h p hp
    · rw [ahead_eq hn (hs a ha) (hs p hp)]; exact h p hp
  have e2 : (∀ p ∈ l, 0 ≤ ahead n a p) ↔ ∀ p ∈ l, 0 ≤ dt3 n (sub3 p a) := by
    constructor <;> intro h p hp
    · rw [← ahead_eq hn (hs a ha) (hs p hp)]; exact h p hp
    · rw [ahead_eq hn (hs a ha) (hs p hp)]; exact h p hp
  unfold V.sideP
  simp only [e1, e2]
theorem side_neg {l : List P3} (hs : ∀ p ∈ l, Sm p 65536) (hc : ¬ Copl l) {n a b : P3} (hn : Sm n 34359738368) (h0 : n ≠ (0, 0, 0)) (ha : a ∈ l) (hb : b ∈ l) (hab : dt3 n (sub3 b a) = 0) :
    V.sideP l (negT n) b = - V.sideP l n a := by
  have e : ∀ p, dt3 (negT n) (sub3 p b) = - dt3 n (sub3 p a) := by
    intro p
    rw [dt_neg, sub_sub p b a, dt_sub, hab, Int.sub_zero]
  rw [side_one hs hn ha, side_one hs hn.neg hb]
  simp only [e]
  by_cases h1 : ∀ p ∈ l, dt3 n (sub3 p a) ≤ 0
  · by_cases h2 : ∀ p ∈ l, 0 ≤ dt3 n (sub3 p a)
    · exact (not_all hs hc h0 (a := a) fun p hp => by have := h1 p hp; have := h2 p hp; omega).elim
    · rw [if_pos h1, if_neg (fun h => h2 fun p hp => by have := h p hp; omega), if_pos (fun p hp => by have := h1 p hp; omega)]
  · by_cases h2 : ∀ p ∈ l, 0 ≤ dt3 n (sub3 p a)
    · rw [if_neg h1, if_pos h2, if_pos (fun p hp => by have := h2 p hp; omega)]; rfl
    · rw [if_neg h1, if_neg h2, if_neg (fun h => h2 fun p hp => by have := h p hp; omega), if_neg (fun h => h1 fun p hp => by have := h p hp; omega)]; rfl
theorem mulP_negneg {s : Int} {n : P3} (hs : s = 1 ∨ s = -1 ∨ s = 0) (h0 : s ≠ 0) (hn : Sm n 34359738368) : mulP (-s) (negT n) = mulP s n := by
  rcases hs with rfl | rfl | rfl
  · rw [mulP_one hn, mulP_neg hn.neg, negT_negT]
  · rw [show -(-1 : Int) = 1 by decide, mulP_one hn.neg, mulP_neg hn]
  · exact absurd rfl h0
theorem nrm_swap23 (A B C : P3) : nrm A C B = negT (nrm A B C) := by
  unfold nrm cr3 negT; ext <;> simp only <;> grind
theorem nrm_swap12 (A B C : P3) : nrm B A C = negT (nrm A B C) := by
  unfold nrm cr3 negT sub3; ext <;> simp only <;> grind
theorem nrm_dt (A B C : P3) : dt3 (nrm A B C) (sub3 B A) = 0 := by
  unfold nrm cr3 dt3; simp only; grind
theorem AxOf.swap {l : List P3} (hs : ∀ p ∈ l, Sm p 65536) (hc : ¬ Copl l) {A B C A' B' C' a : P3} (ha : A ∈ l) (hb : B ∈ l) (hcm : C ∈ l) (ha' : A' ∈ l) (he : nrm A' B' C' = negT (nrm A B C)) (hd : dt3 (nrm A B C) (sub3 A' A) = 0) (h : AxOf l A B C a) : AxOf l A' B' C' a := by
  obtain ⟨h1, h2, h3⟩ := h
  have hn := nrm_sm (hs A ha) (hs B hb) (hs C hcm)
  have hsd := side_neg hs hc hn h1 ha ha' hd
  unfold AxOf
  rw [he, hsd]
  refine ⟨negT_ne h1, by omega, ?_⟩
  rw [mulP_negneg (sideP_cases _ _ _) h2 hn]
  exact h3
theorem AxOf.swap23 {l : List P3} (hs : ∀ p ∈ l, Sm p 65536) (hc : ¬ Copl l) {A B C a : P3} (ha : A ∈ l) (hb : B ∈ l) (hcm : C ∈ l) (h : AxOf l A B C a) : AxOf l A C B a :=
  AxOf.swap hs hc ha hb hcm ha (nrm_swap23 A B C) (by unfold dt3 sub3; simp) h
theorem AxOf.swap12 {l : List P3} (hs : ∀ p ∈ l, Sm p 65536) (hc : ¬ Copl l) {A B C a : P3} (ha : A ∈ l) (hb : B ∈ l) (hcm : C ∈ l) (h : AxOf l A B C a) : AxOf l B A C a :=
  AxOf.swap hs hc ha hb hcm hb (nrm_swap12 A B C) (nrm_dt A B C) h
theorem axOf_tri {l : List P3} (h : Pts l) {i j k : Nat} (hi : i < l.length) (hj : j < l.length) (hk : k < l.length) (a : P3) : AxOf l (pt l i) (pt l j) (pt l k) a ↔ Sup l i j k ∧ a = triA l i j k := by
  obtain ⟨e, s⟩ := h.triN hi hj hk
  have e' : triN l i j k = nrm (pt l i) (pt l j) (pt l k) := e
  unfold AxOf Sup triA triS
  rw [e', short_eq', and_assoc]
theorem pt_of_mem {l : List P3} {p : P3} (h : p ∈ l) : ∃ i, i < l.length ∧ pt l i = p := by
  obtain ⟨i, hi, rfl⟩ := List.mem_iff_getElem.1 h
  exact ⟨i, hi, pt_eq l i hi⟩
theorem nrm_ne12 {A B C : P3} (h : nrm A B C ≠ (0, 0, 0)) : A ≠ B ∧ A ≠ C ∧ B ≠ C := by
  refine ⟨?_, ?_, ?_⟩ <;> rintro rfl <;> apply h <;> (unfold nrm cr3 sub3; ext <;> simp only <;> grind)
theorem faces_ax {l : List P3} (h : Pts l) (hc : ¬ Copl l) (a : P3) : a ∈ (facesP l).1 ↔ ∃ A ∈ l, ∃ B ∈ l, ∃ C ∈ l, AxOf l A B C a := by
  rw [facesP_mem]
  constructor
  · rintro ⟨i, j, k, hij, hjk, hk, h1⟩
    exact ⟨_, pt_mem l i (by omega), _, pt_mem l j (by omega), _, pt_mem l k hk, (axOf_tri h (by omega) (by omega) hk a).2 h1⟩
  · rintro ⟨A, hA, B, hB, C, hC, hx⟩
    obtain ⟨n1, n2, n3⟩ := nrm_ne12 hx.1
    obtain ⟨i, hi, rfl⟩ := pt_of_mem hA
    obtain ⟨j, hj, rfl⟩ := pt_of_mem hB
    obtain ⟨k, hk, rfl⟩ := pt_of_mem hC
    have m1 : i ≠ j := fun e => n1 (by rw [e])
    have m2 : i ≠ k := fun e => n2 (by rw [e])
    have m3 : j ≠ k := fun e => n3 (by rw [e])
    have fin : ∀ i j k, i < j → j < k → k < l.length → AxOf l (pt l i) (pt l j) (pt l k) a → ∃ i j k, i < j ∧ j < k ∧ k < l.length ∧ Sup l i j k ∧ a = triA l i j k := by
      intro i j k h1 h2 h3 h4
      exact ⟨i, j, k, h1, h2, h3, (axOf_tri h (by omega) (by omega) h3 a).1 h4⟩
    rcases Nat.lt_or_gt_of_ne m1 with c1 | c1 <;> rcases Nat.lt_or_gt_of_ne m2 with c2 | c2 <;> rcases Nat.lt_or_gt_of_ne m3 with c3 | c3
    · exact fin i j k c1 c3 hk hx
    · exact fin i k j c2 c3 hj (hx.swap23 h.sm hc hA hB hC)
    · omega
    · exact fin k i j c2 c1 hj ((hx.swap23 h.sm hc hA hB hC).swap12 h.sm hc hA hC hB)
    · exact fin j i k c1 c2 hk (hx.swap12 h.sm hc hA hB hC)
    · omega
    · exact fin j k i c3 c2 hi ((hx.swap12 h.sm hc hA hB hC).swap23 h.sm hc hB hA hC)
    · exact fin k j i c3 c1 hi (((hx.swap12 h.sm hc hA hB hC).swap23 h.sm hc hB hA hC).swap12 h.sm hc hB hC hA)
theorem axOf_mem {l t : List P3} (h : ∀ p, p ∈ l ↔ p ∈ t) (A B C a : P3) : AxOf l A B C a ↔ AxOf t A B C a := by
  have e : ∀ n b, V.sideP l n b = V.sideP t n b := by
    intro n b
    unfold V.sideP
    simp only [h]
  unfold AxOf
  simp only [e]
theorem faces_mem {l t : List P3} (hl : Pts l) (ht : Pts t) (h : ∀ p, p ∈ l ↔ p ∈ t) (hc : ¬ Copl l) (a : P3) : a ∈ (facesP l).1 ↔ a ∈ (facesP t).1 := by
  have hc' : ¬ Copl t := fun h' => hc ((copl_mem h).2 h')
  rw [faces_ax hl hc, faces_ax ht hc']
  simp only [h, axOf_mem h]
/-! A hull has faces to all sides. -/
theorem least_ratio : ∀ (L : List (Int × Int)), L ≠ [] → (∀ x ∈ L, 0 ≤ x.1 ∧ 0 < x.2) → ∃ x ∈ L, ∀ y ∈ L, x.1 * y.2 ≤ y.1 * x.2
  | [], h, _ => absurd rfl h
  | [x], _, _ => ⟨x, by simp, by simp⟩
  | x :: y :: L, _, hp => by
    obtain ⟨z, hz, hm⟩ := least_ratio (y :: L) (by simp) (fun u hu => hp u (by simp only [List.mem_cons] at hu ⊢; exact .inr hu))
    have px := hp x (by simp)
    have pz := hp z (by simp only [List.mem_cons] at hz ⊢; exact .inr hz)
    by_cases h : x.1 * z.2 ≤ z.1 * x.2
    · refine ⟨x, by simp, fun u hu => ?_⟩
      rcases List.mem_cons.1 hu with rfl | hu
      · exact Int.le_refl _
      · have h1 := hm u hu
        have pu := hp u (by simp only [List.mem_cons] at hu ⊢; exact .inr hu)
        -- x1 u2 ≤ u1 x2
        have a1 : x.1 * z.2 * u.2 ≤ z.1 * x.2 * u.2 := Int.mul_le_mul_of_nonneg_right h (by omega)
        have a2 : z.1 * u.2 * x.2 ≤ u.1 * z.2 * x.2 := Int.mul_le_mul_of_nonneg_right h1 (by omega)
        have a3 : (x.1 * u.2) * z.2 ≤ (u.1 * x.2) * z.2 := by
          have e1 : (x.1 * u.2) * z.2 = x.1 * z.2 * u.2 := by grind
          have e2 : (u.1 * x.2) * z.2 = u.1 * z.2 * x.2 := by grind
          have e3 : z.1 * x.2 * u.2 = z.1 * u.2 * x.2 := by grind
          omega
        exact Int.le_of_mul_le_mul_right a3 pz.2
    · refine ⟨z, by simp only [List.mem_cons] at hz ⊢; exact .inr hz, fun u hu => ?_⟩
      rcases List.mem_cons.1 hu with rfl | hu
      · omega
      · exact hm u hu
def lin (a : Int) (m : P3) (b : Int) (h : P3) : P3 := (a * m.1 - b * h.1, a * m.2.1 - b * h.2.1, a * m.2.2 - b * h.2.2)
theorem dt_lin (a b : Int) (m h v : P3) : dt3 (lin a m b h) v = a * dt3 m v - b * dt3 h v := by unfold lin dt3; simp only; grind
/-- Turns a plane until it touches one more. -/
theorem rotate {l : List P3} {A m h : P3} (hm : ∀ p ∈ l, dt3 m (sub3 p A) ≤ 0) (hh : ∃ p ∈ l, 0 < dt3 h (sub3 p A)) :
    ∃ B ∈ l, 0 < dt3 h (sub3 B A) ∧ ∃ m', (∀ p ∈ l, dt3 m' (sub3 p A) ≤ 0) ∧ dt3 m' (sub3 B A) = 0 ∧ ∀ u, dt3 h u = 0 → dt3 m' u = dt3 h (sub3 B A) * dt3 m u := by
  let L := (l.filter fun p => decide (0 < dt3 h (sub3 p A))).map fun p => (- dt3 m (sub3 p A), dt3 h (sub3 p A))
  have hL : L ≠ [] := by
    obtain ⟨p, hp, h1⟩ := hh
    intro e
    have : (- dt3 m (sub3 p A), dt3 h (sub3 p A)) ∈ L := List.mem_map.2 ⟨p, List.mem_filter.2 ⟨hp, by simpa using h1⟩, rfl⟩
    rw [e] at this; simp at this
  have hpos : ∀ x ∈ L, 0 ≤ x.1 ∧ 0 < x.2 := by
    intro x hx
    obtain ⟨p, hp, rfl⟩ := List.mem_map.1 hx
    obtain ⟨hp1, hp2⟩ := List.mem_filter.1 hp
    have := hm p hp1
    exact ⟨by simp only; omega, by simpa using hp2⟩
  obtain ⟨x, hx, hmin⟩ := least_ratio L hL hpos
  obtain ⟨B, hB, rfl⟩ := List.mem_map.1 hx
  obtain ⟨hB1, hB2⟩ := List.mem_filter.1 hB
  have hb : 0 < dt3 h (sub3 B A) := by simpa using hB2
  refine ⟨B, hB1, hb, lin (dt3 h (sub3 B A)) m (dt3 m (sub3 B A)) h, ?_, ?_, ?_⟩
  · intro p hp
    rw [dt_lin]
    have h1 := hm p hp
    have h2 := hm B hB1
    by_cases hc : 0 < dt3 h (sub3 p A)
    · have := hmin _ (List.mem_map.2 ⟨p, List.mem_filter.2 ⟨hp, by simpa using hc⟩, rfl⟩)
      simp only at this
      have e1 : - dt3 m (sub3 B A) * dt3 h (sub3 p A) = -(dt3 m (sub3 B A) * dt3 h (sub3 p A)) := Int.neg_mul _ _
      have e2 : - dt3 m (sub3 p A) * dt3 h (sub3 B A) = -(dt3 h (sub3 B A) * dt3 m (sub3 p A)) := by rw [Int.neg_mul, Int.mul_comm]
      omega
    · have a1 : 0 ≤ dt3 h (sub3 B A) * -dt3 m (sub3 p A) := Int.mul_nonneg (by omega) (by omega)
      have a2 : 0 ≤ (-dt3 m (sub3 B A)) * (-dt3 h (sub3 p A)) := Int.mul_nonneg (by omega) (by omega)
      rw [Int.mul_neg] at a1
      rw [Int.neg_mul_neg] at a2
      omega
  · rw [dt_lin, Int.mul_comm (dt3 m (sub3 B A))]; omega
  · intro u hu
    rw [dt_lin, hu, Int.mul_zero, Int.sub_zero]
theorem cr_dt (v d u : P3) : dt3 (cr3 v d) u = - dt3 (cr3 v u) d := by unfold cr3 dt3; simp only; grind
theorem dt_self (v d : P3) : dt3 (cr3 v d) v = 0 ∧ dt3 (cr3 v d) d = 0 := by unfold cr3 dt3; simp only; grind
/-- To each of six sides. -/
theorem facet {l : List P3} (hp : Pts l) (hc : ¬ Copl l) (hl : 0 < l.length) (d h1 : P3) (hd : dt3 d d = 1) (h10 : h1 ≠ (0, 0, 0)) (h1d : dt3 h1 d = 0) :
    ∃ M, M ≠ (0, 0, 0) ∧ Sm M 34359738368 ∧ dt3 M d < 0 ∧ shortP M ∈ (facesP l).1 := by
  -- the point farthest back
  obtain ⟨x, hx, hmin⟩ : ∃ A ∈ l, ∀ p ∈ l, dt3 d A ≤ dt3 d p := by
    have : ∀ (l : List P3), 0 < l.length → ∃ A ∈ l, ∀ p ∈ l, dt3 d A ≤ dt3 d p := by
      intro l
      induction l with
      | nil => intro h; simp at h
      | cons q l ih =>
        intro _
        cases l with
        | nil => exact ⟨q, by simp, by simp⟩
        | cons r l =>
          obtain ⟨A, hA, hm⟩ := ih (by simp)
          by_cases c : dt3 d q ≤ dt3 d A
          · refine ⟨q, by simp, fun p hp => ?_⟩
            rcases List.mem_cons.1 hp with rfl | hp
            · exact Int.le_refl _
            · exact Int.le_trans c (hm p hp)
          · refine ⟨A, by simp only [List.mem_cons] at hA ⊢; exact .inr hA, fun p hp => ?_⟩
            rcases List.mem_cons.1 hp with rfl | hp
            · omega
            · exact hm p hp
    exact this l hl
  have hm0 : ∀ p ∈ l, dt3 (negT d) (sub3 p x) ≤ 0 := by
    intro p hp
    have := hmin p hp
    rw [dt_neg, dt_sub]; omega
  -- one of two opposite ways has somebody ahead
  have pos : ∀ h : P3, h ≠ (0, 0, 0) → ∃ g : P3, (g = h ∨ g = negT h) ∧ ∃ p ∈ l, 0 < dt3 g (sub3 p x) := by
    intro h h0
    by_cases c : ∃ p ∈ l, 0 < dt3 h (sub3 p x)
    · exact ⟨h, .inl rfl, c⟩
    · by_cases c2 : ∃ p ∈ l, 0 < dt3 (negT h) (sub3 p x)
      · exact ⟨negT h, .inr rfl, c2⟩
      · refine (not_all hp.sm hc h0 (a := x) fun p hp => ?_).elim
        have q1 : ¬ 0 < dt3 h (sub3 p x) := fun q => c ⟨p, hp, q⟩
        have q2 : ¬ 0 < dt3 (negT h) (sub3 p x) := fun q => c2 ⟨p, hp, q⟩
        rw [dt_neg] at q2
        omega
  have perp : ∀ {g h u : P3}, (g = h ∨ g = negT h) → dt3 h u = 0 → dt3 g u = 0 := by
    rintro g h u (rfl | rfl) hu
    · exact hu
    · rw [dt_neg, hu]; rfl
  obtain ⟨g1, hg1, hq1⟩ := pos h1 h10
  obtain ⟨B, hB, hb, m1, a1, a2, a3⟩ := rotate hm0 hq1
  have hd1 : dt3 m1 d < 0 := by
    rw [a3 d (perp hg1 h1d), dt_neg, hd]
    omega
  have hBx : sub3 B x ≠ (0, 0, 0) := by
    intro e
    rw [e] at hb
    simp [dt3] at hb
  have h20 : cr3 (sub3 B x) d ≠ (0, 0, 0) := by
    intro e
    -- then d is along B - x, and m1 would not see d
    have e1 : ∀ c : P3, cr3 (sub3 B x) d = (0, 0, 0) → dt3 m1 d * (sub3 B x).1 = dt3 m1 (sub3 B x) * d.1 ∧ dt3 m1 d * (sub3 B x).2.1 = dt3 m1 (sub3 B x) * d.2.1 ∧ dt3 m1 d * (sub3 B x).2.2 = dt3 m1 (sub3 B x) * d.2.2 := by
      intro _ e
      generalize sub3 B x = v at *
      rw [zero3] at e
      simp only [cr3] at e
      obtain ⟨f1, f2, f3⟩ := e
      unfold dt3
      refine ⟨?_, ?_, ?_⟩ <;> grind
    obtain ⟨f1, f2, f3⟩ := e1 d e
    rw [a2, Int.zero_mul] at f1 f2 f3
    apply hBx
    rw [zero3]
    refine ⟨(Int.mul_eq_zero.1 f1).resolve_left (by omega), (Int.mul_eq_zero.1 f2).resolve_left (by omega), (Int.mul_eq_zero.1 f3).resolve_left (by omega)⟩
  obtain ⟨g2, hg2, hq2⟩ := pos _ h20
  obtain ⟨C, hC, hcc, m2, b1, b2, b3⟩ := rotate a1 hq2
  have hd2 : dt3 m2 d < 0 := by
    rw [b3 d (perp hg2 (dt_self _ _).2)]
    exact Int.mul_neg_of_pos_of_neg hcc hd1
  have hB2 : dt3 m2 (sub3 B x) = 0 := by
    rw [b3 _ (perp hg2 (dt_self _ _).1), a2, Int.mul_zero]
  have hN : nrm x B C ≠ (0, 0, 0) := by
    intro e
    have e0 : dt3 (cr3 (sub3 B x) d) (sub3 C x) = 0 := by
      rw [cr_dt, show cr3 (sub3 B x) (sub3 C x) = (0, 0, 0) from e]
      simp [dt3]
    have := perp hg2 e0
    omega
  -- m2 is along the triangle's way
  have along : ∀ v : P3, dt3 m2 d * dt3 (nrm x B C) v = dt3 (nrm x B C) d * dt3 m2 v := by
    intro v
    unfold nrm
    generalize sub3 B x = p at *
    generalize sub3 C x = q at *
    unfold dt3 cr3 at *
    simp only at *
    grind
  have hsm := nrm_sm (hp.sm x hx) (hp.sm B hB) (hp.sm C hC)
  have hNd : dt3 (nrm x B C) d ≠ 0 := by
    intro e
    apply hN
    have key : ∀ v, dt3 (nrm x B C) v = 0 := by
      intro v
      have := along v
      rw [e, Int.zero_mul] at this
      exact (Int.mul_eq_zero.1 this).resolve_left (by omega)
    have k1 := key (1, 0, 0)
    have k2 := key (0, 1, 0)
    have k3 := key (0, 0, 1)
    simp only [dt3, Int.mul_one, Int.mul_zero, Int.add_zero, Int.zero_add] at k1 k2 k3
    exact zero3.2 ⟨k1, k2, k3⟩
  rcases Int.lt_or_gt_of_ne hNd with hlt | hgt
  · -- outward as it stands
    have hside : V.sideP l (nrm x B C) x = 1 := by
      rw [side_one hp.sm hsm hx, if_pos]
      intro p hpm
      have h1 := along (sub3 p x)
      have h2 := b1 p hpm
      have h3 : 0 ≤ dt3 (nrm x B C) d * dt3 m2 (sub3 p x) := by
        have := Int.mul_nonneg (a := -dt3 (nrm x B C) d) (b := -dt3 m2 (sub3 p x)) (by omega) (by omega)
        rwa [Int.neg_mul_neg] at this
      rw [← h1] at h3
      apply Classical.byContradiction
      intro hn
      have := Int.mul_neg_of_neg_of_pos hd2 (show 0 < dt3 (nrm x B C) (sub3 p x) by omega)
      omega
    refine ⟨nrm x B C, hN, hsm, hlt, ?_⟩
    rw [faces_ax hp hc]
    refine ⟨x, hx, B, hB, C, hC, hN, by rw [hside]; decide, ?_⟩
    rw [hside, mulP_one hsm]
  · have hall : ∀ p ∈ l, 0 ≤ dt3 (nrm x B C) (sub3 p x) := by
      intro p hpm
      have h1 := along (sub3 p x)
      have h2 := b1 p hpm
      have h3 : 0 ≤ dt3 (nrm x B C) d * -dt3 m2 (sub3 p x) := Int.mul_nonneg (by omega) (by omega)
      rw [Int.mul_neg, ← h1] at h3
      apply Classical.byContradiction
      intro hn
      have := Int.mul_pos_of_neg_of_neg hd2 (show dt3 (nrm x B C) (sub3 p x) < 0 by omega)
      omega
    have hside : V.sideP l (nrm x B C) x = -1 := by
      rw [side_one hp.sm hsm hx, if_neg, if_pos hall]
      intro h
      exact not_all hp.sm hc hN (a := x) fun p hp => by have := h p hp; have := hall p hp; omega
    refine ⟨negT (nrm x B C), negT_ne hN, hsm.neg, by rw [dt_neg]; omega, ?_⟩
    rw [faces_ax hp hc]
    refine ⟨x, hx, B, hB, C, hC, hN, by rw [hside]; decide, ?_⟩
    rw [hside, mulP_neg hsm]
def SgnLe (p q : P3) : Prop := ((p.1 ≤ 0 → q.1 ≤ 0) ∧ (0 ≤ p.1 → 0 ≤ q.1)) ∧ ((p.2.1 ≤ 0 → q.2.1 ≤ 0) ∧ (0 ≤ p.2.1 → 0 ≤ q.2.1)) ∧ ((p.2.2 ≤ 0 → q.2.2 ≤ 0) ∧ (0 ≤ p.2.2 → 0 ≤ q.2.2))
theorem SgnLe.trans {p q r : P3} (h1 : SgnLe p q) (h2 : SgnLe q r) : SgnLe p r := by
  obtain ⟨⟨a1, a2⟩, ⟨a3, a4⟩, a5, a6⟩ := h1
  obtain ⟨⟨b1, b2⟩, ⟨b3, b4⟩, b5, b6⟩ := h2
  exact ⟨⟨fun h => b1 (a1 h), fun h => b2 (a2 h)⟩, ⟨fun h => b3 (a3 h), fun h => b4 (a4 h)⟩, fun h => b5 (a5 h), fun h => b6 (a6 h)⟩
theorem SgnLe.refl (p : P3) : SgnLe p p := ⟨⟨id, id⟩, ⟨id, id⟩, id, id⟩
theorem tdiv_sgn (x : Int) {n : Int} (hn : 0 ≤ n) : (x ≤ 0 → x.tdiv n ≤ 0) ∧ (0 ≤ x → 0 ≤ x.tdiv n) := by
  refine ⟨fun h => ?_, fun h => Int.tdiv_nonneg h hn⟩
  have h1 := Int.tdiv_nonneg (a := -x) (b := n) (by omega) hn
  rw [Int.neg_tdiv] at h1
  omega
theorem divP_sgn (p : P3) {n : Int} (hn : 0 ≤ n) : SgnLe p (divP p n) := ⟨tdiv_sgn _ hn, tdiv_sgn _ hn, tdiv_sgn _ hn⟩
theorem shrink_sgn : ∀ (n : Nat) (p : P3), SgnLe p (shrinkP n p)
  | 0, p => SgnLe.refl p
  | n + 1, p => by
    simp only [shrinkP]
    split
    · exact (divP_sgn p (by omega)).trans (shrink_sgn n _)
    · exact SgnLe.refl p
theorem short_sgn (p : P3) : SgnLe p (shortP p) := by
  unfold shortP
  split
  · exact ⟨⟨fun _ => Int.le_refl _, fun _ => Int.le_refl _⟩, ⟨fun _ => Int.le_refl _, fun _ => Int.le_refl _⟩, fun _ => Int.le_refl _, fun _ => Int.le_refl _⟩
  · exact ((divP_sgn p (Int.natCast_nonneg _)).trans (shrink_sgn 64 _)).trans (divP_sgn _ (Int.natCast_nonneg _))
theorem two_axes {l : List P3} (hp : Pts l) (hc : ¬ Copl l) (hl : 0 < l.length) : 2 ≤ (facesP l).1.length := by
  obtain ⟨M1, _, _, d1, f1⟩ := facet hp hc hl (1, 0, 0) (0, 1, 0) (by decide) (by decide) (by decide)
  obtain ⟨M2, _, _, d2, f2⟩ := facet hp hc hl (-1, 0, 0) (0, 1, 0) (by decide) (by decide) (by decide)
  obtain ⟨M3, _, _, d3, f3⟩ := facet hp hc hl (0, 1, 0) (0, 0, 1) (by decide) (by decide) (by decide)
  obtain ⟨M4, _, _, d4, f4⟩ := facet hp hc hl (0, -1, 0) (0, 0, 1) (by decide) (by decide) (by decide)
  obtain ⟨M5, _, _, d5, f5⟩ := facet hp hc hl (0, 0, 1) (1, 0, 0) (by decide) (by decide) (by decide)
  obtain ⟨M6, _, _, d6, f6⟩ := facet hp hc hl (0, 0, -1) (1, 0, 0) (by decide) (by decide) (by decide)
  apply Classical.byContradiction
  intro hlen
  obtain ⟨a, ha⟩ : ∃ a, (facesP l).1 = [a] := by
    match h : (facesP l).1 with
    | [] => rw [h] at f1; simp at f1
    | [a] => exact ⟨a, rfl⟩
    | _ :: _ :: _ => rw [h] at hlen; simp at hlen
  have hne := ((faces_tidy hp).2.1 a (by rw [ha]; simp)).1
  rw [ha] at f1 f2 f3 f4 f5 f6
  simp only [List.mem_singleton] at f1 f2 f3 f4 f5 f6
  have s1 := (short_sgn M1).1.1
  have s2 := (short_sgn M2).1.2
  have s3 := (short_sgn M3).2.1.1
  have s4 := (short_sgn M4).2.1.2
  have s5 := (short_sgn M5).2.2.1
  have s6 := (short_sgn M6).2.2.2
  rw [f1] at s1; rw [f2] at s2; rw [f3] at s3; rw [f4] at s4; rw [f5] at s5; rw [f6] at s6
  simp only [dt3, Int.mul_one, Int.mul_zero, Int.add_zero, Int.zero_add, Int.mul_neg] at d1 d2 d3 d4 d5 d6
  apply hne
  rw [zero3]
  exact ⟨by have := s1 (by omega); have := s2 (by omega); omega, by have := s3 (by omega); have := s4 (by omega); omega, by have := s5 (by omega); have := s6 (by omega); omega⟩
end Go.Proofs.Ytkjellhkamfciaa.Sx
