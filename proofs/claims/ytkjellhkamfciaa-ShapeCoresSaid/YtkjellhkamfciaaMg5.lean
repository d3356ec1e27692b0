/- Texts of the walk, merged. -/
import Derived.Test.YtkjellhkamfciaaMg4
section
/- shape: points that are apart; points of one plane. -/
namespace Go.Proofs.Ytkjellhkamfciaa.Sx
open Go
set_option maxRecDepth 20000
set_option linter.unusedVariables false
set_option linter.unusedSimpArgs false
/-! Plain words. -/
def apF : List P3 → List P3 → Bool
  | _, [] => true
  | pre, p :: l => !bigP p 65536 && !decide (p ∈ pre) && apF (pre ++ [p]) l
theorem apF_eq : ∀ (l pre : List P3), apF pre l = decide ((∀ p ∈ l, bigP p 65536 = false) ∧ l.Nodup ∧ ∀ p ∈ l, p ∉ pre)
  | [], pre => by simp [apF]
  | p :: l, pre => by
    unfold apF
    rw [apF_eq l, Bool.eq_iff_iff]
    simp only [Bool.and_eq_true, Bool.not_eq_true', decide_eq_false_iff_not, decide_eq_true_eq, List.mem_cons, forall_eq_or_imp, List.nodup_cons, List.mem_append, List.mem_singleton, not_or]
    constructor
    · rintro ⟨⟨h1, h2⟩, h3, h4, h5⟩
      exact ⟨⟨h1, h3⟩, ⟨fun hp => (h5 p hp).2.1 rfl, h4⟩, h2, fun q hq => (h5 q hq).1⟩
    · rintro ⟨⟨h1, h2⟩, ⟨h3, h4⟩, h5, h6⟩
      exact ⟨⟨h1, h5⟩, h2, h4, fun q hq => ⟨h6 q hq, (fun e => h3 (e ▸ hq)), by simp⟩⟩
def sub3 (a b : P3) : P3 := (a.1 - b.1, a.2.1 - b.2.1, a.2.2 - b.2.2)
def cr3 (a b : P3) : P3 := (a.2.1 * b.2.2 - a.2.2 * b.2.1, a.2.2 * b.1 - a.1 * b.2.2, a.1 * b.2.1 - a.2.1 * b.1)
def dt3 (a b : P3) : Int := a.1 * b.1 + a.2.1 * b.2.1 + a.2.2 * b.2.2
def det (a b c d : P3) : Int := dt3 (cr3 (sub3 b a) (sub3 c a)) (sub3 d a)
def Copl (l : List P3) : Prop := ∀ a ∈ l, ∀ b ∈ l, ∀ c ∈ l, ∀ d ∈ l, det a b c d = 0
noncomputable def _root_.Go.Proofs.Ytkjellhkamfciaa.V.flatP (l : List P3) : Bool := open Classical in hid (decide (Copl l))
theorem flatP_iff (l : List P3) : V.flatP l = true ↔ Copl l := by unfold V.flatP; rw [hid_eq]; simp
/-- parts at most so great -/
def Sm (p : P3) (n : Int) : Prop := (-n ≤ p.1 ∧ p.1 ≤ n) ∧ (-n ≤ p.2.1 ∧ p.2.1 ≤ n) ∧ (-n ≤ p.2.2 ∧ p.2.2 ≤ n)
theorem sub_sm {a b : P3} (ha : Sm a 65536) (hb : Sm b 65536) : V.pSub a b = sub3 a b ∧ Sm (sub3 a b) 131072 := by
  unfold V.pSub sub3 Sm at *
  simp only
  rw [IntWalk.i64_in _ (by omega), IntWalk.i64_in _ (by omega), IntWalk.i64_in _ (by omega)]
  exact ⟨rfl, by omega⟩
theorem mul_sm {x y n m : Int} (hx : -n ≤ x ∧ x ≤ n) (hy : -m ≤ y ∧ y ≤ m) : -(n * m) ≤ x * y ∧ x * y ≤ n * m := by
  have h : (x * y).natAbs ≤ (n * m).natAbs := by
    rw [Int.natAbs_mul, Int.natAbs_mul]; exact Nat.mul_le_mul (by omega) (by omega)
  have : 0 ≤ n * m := Int.mul_nonneg (by omega) (by omega)
  omega
theorem cr_sm {a b : P3} (ha : Sm a 131072) (hb : Sm b 131072) : V.pCross a b = cr3 a b ∧ Sm (cr3 a b) 34359738368 := by
  obtain ⟨a1, a2, a3⟩ := ha
  obtain ⟨b1, b2, b3⟩ := hb
  have h1 := mul_sm a2 b3
  have h2 := mul_sm a3 b2
  have h3 := mul_sm a3 b1
  have h4 := mul_sm a1 b3
  have h5 := mul_sm a1 b2
  have h6 := mul_sm a2 b1
  unfold V.pCross cr3 Sm
  simp only
  generalize a.2.1 * b.2.2 = p1 at *
  generalize a.2.2 * b.2.1 = p2 at *
  generalize a.2.2 * b.1 = p3 at *
  generalize a.1 * b.2.2 = p4 at *
  generalize a.1 * b.2.1 = p5 at *
  generalize a.2.1 * b.1 = p6 at *
  rw [IntWalk.i64_in p1 (by omega), IntWalk.i64_in p2 (by omega), IntWalk.i64_in p3 (by omega), IntWalk.i64_in p4 (by omega), IntWalk.i64_in p5 (by omega), IntWalk.i64_in p6 (by omega)]
  rw [IntWalk.i64_in _ (by omega), IntWalk.i64_in _ (by omega), IntWalk.i64_in _ (by omega)]
  exact ⟨rfl, by omega⟩
theorem dt_sm {a b : P3} (ha : Sm a 34359738368) (hb : Sm b 131072) : V.pDot a b = dt3 a b := by
  obtain ⟨a1, a2, a3⟩ := ha
  obtain ⟨b1, b2, b3⟩ := hb
  have h1 := mul_sm a1 b1
  have h2 := mul_sm a2 b2
  have h3 := mul_sm a3 b3
  unfold V.pDot dt3
  generalize a.1 * b.1 = p1 at *
  generalize a.2.1 * b.2.1 = p2 at *
  generalize a.2.2 * b.2.2 = p3 at *
  rw [IntWalk.i64_in p1 (by omega), IntWalk.i64_in p2 (by omega), IntWalk.i64_in p3 (by omega)]
  rw [IntWalk.i64_in (p1 + p2) (by omega), IntWalk.i64_in _ (by omega)]
theorem zero3 {p : P3} : p = (0, 0, 0) ↔ p.1 = 0 ∧ p.2.1 = 0 ∧ p.2.2 = 0 := by
  obtain ⟨x, y, z⟩ := p; simp
/-- Three ways across one that isn't noughts lie in a plane. -/
theorem det_perp {n u v w : P3} (hn : n ≠ (0, 0, 0)) (hu : dt3 n u = 0) (hv : dt3 n v = 0) (hw : dt3 n w = 0) : dt3 (cr3 u v) w = 0 := by
  unfold dt3 cr3 at *
  simp only at *
  have e1 : (dt3 (cr3 u v) w) * n.1 = 0 := by unfold dt3 cr3; grind
  have e2 : (dt3 (cr3 u v) w) * n.2.1 = 0 := by unfold dt3 cr3; grind
  have e3 : (dt3 (cr3 u v) w) * n.2.2 = 0 := by unfold dt3 cr3; grind
  rcases Int.mul_eq_zero.1 e1 with h | h1
  · exact h
  rcases Int.mul_eq_zero.1 e2 with h | h2
  · exact h
  rcases Int.mul_eq_zero.1 e3 with h | h3
  · exact h
  exact absurd (zero3.2 ⟨h1, h2, h3⟩) hn
/-- Two ways along a third one, that isn't noughts, are along each other. -/
theorem cr_along {n u v : P3} (hn : n ≠ (0, 0, 0)) (hu : cr3 n u = (0, 0, 0)) (hv : cr3 n v = (0, 0, 0)) : cr3 u v = (0, 0, 0) := by
  simp only [zero3, cr3] at hu hv ⊢
  obtain ⟨u1, u2, u3⟩ := hu
  obtain ⟨v1, v2, v3⟩ := hv
  have key : ∀ k, k = n.1 ∨ k = n.2.1 ∨ k = n.2.2 → (u.2.1 * v.2.2 - u.2.2 * v.2.1) * k = 0 ∧ (u.2.2 * v.1 - u.1 * v.2.2) * k = 0 ∧ (u.1 * v.2.1 - u.2.1 * v.1) * k = 0 := by
    rintro k (rfl | rfl | rfl) <;> refine ⟨?_, ?_, ?_⟩ <;> grind
  have fin : ∀ k, k ≠ 0 → (k = n.1 ∨ k = n.2.1 ∨ k = n.2.2) → u.2.1 * v.2.2 - u.2.2 * v.2.1 = 0 ∧ u.2.2 * v.1 - u.1 * v.2.2 = 0 ∧ u.1 * v.2.1 - u.2.1 * v.1 = 0 := by
    intro k hk h
    obtain ⟨a, b, c⟩ := key k h
    exact ⟨(Int.mul_eq_zero.1 a).resolve_right hk, (Int.mul_eq_zero.1 b).resolve_right hk, (Int.mul_eq_zero.1 c).resolve_right hk⟩
  by_cases h1 : n.1 = 0
  · by_cases h2 : n.2.1 = 0
    · by_cases h3 : n.2.2 = 0
      · exact absurd (zero3.2 ⟨h1, h2, h3⟩) hn
      · exact fin _ h3 (.inr (.inr rfl))
    · exact fin _ h2 (.inr (.inl rfl))
  · exact fin _ h1 (.inl rfl)
theorem sub_sub (a b c : P3) : sub3 a b = sub3 (sub3 a c) (sub3 b c) := by
  unfold sub3; simp only; ext <;> simp only <;> omega
theorem dt_sub (n a b : P3) : dt3 n (sub3 a b) = dt3 n a - dt3 n b := by
  unfold dt3 sub3; simp only; grind
theorem cr_sub (n a b : P3) : cr3 n (sub3 a b) = sub3 (cr3 n a) (cr3 n b) := by
  unfold cr3 sub3; simp only; ext <;> simp only <;> grind
/-- The first way across, that isn't noughts. -/
def firstN (ln p0 : P3) : List P3 → P3 → P3
  | [], n => n
  | p :: l, n => firstN ln p0 l (if n = (0, 0, 0) then V.pCross ln (V.pSub p p0) else n)
theorem firstN_cons (ln p0 p : P3) (l : List P3) (n : P3) : firstN ln p0 (p :: l) n = firstN ln p0 l (if n = (0, 0, 0) then V.pCross ln (V.pSub p p0) else n) := rfl
theorem firstN_stay (ln p0 : P3) : ∀ (l : List P3) (n : P3), n ≠ (0, 0, 0) → firstN ln p0 l n = n
  | [], n, h => rfl
  | p :: l, n, h => by rw [firstN_cons, if_neg h, firstN_stay ln p0 l n h]
theorem firstN_spec (ln p0 : P3) : ∀ (l : List P3), (firstN ln p0 l (0, 0, 0) = (0, 0, 0) ∧ ∀ p ∈ l, V.pCross ln (V.pSub p p0) = (0, 0, 0)) ∨ (firstN ln p0 l (0, 0, 0) ≠ (0, 0, 0) ∧ ∃ p ∈ l, firstN ln p0 l (0, 0, 0) = V.pCross ln (V.pSub p p0))
  | [] => .inl ⟨rfl, by simp⟩
  | p :: l => by
    rw [firstN_cons, if_pos rfl]
    by_cases h : V.pCross ln (V.pSub p p0) = (0, 0, 0)
    · rw [h]
      rcases firstN_spec ln p0 l with ⟨h1, h2⟩ | ⟨h1, q, h2, h3⟩
      · exact .inl ⟨h1, by simp only [List.mem_cons, forall_eq_or_imp]; exact ⟨h, h2⟩⟩
      · exact .inr ⟨h1, q, by simp [h2], h3⟩
    · rw [firstN_stay _ _ _ _ h]
      exact .inr ⟨h, p, by simp, rfl⟩
theorem sm_of {p : P3} {n : Int} (h : bigP p n = false) : Sm p n := bigP_false h
theorem flat_plain (a b : P3) (l : List P3) (hs : ∀ p ∈ a :: b :: l, bigP p 65536 = false) (hab : a ≠ b) :
    (∀ p ∈ a :: b :: l, V.pDot (firstN (V.pSub b a) a l (0, 0, 0)) (V.pSub p a) = 0) ↔ Copl (a :: b :: l) := by
  have sa := sm_of (hs a (by simp))
  have sb := sm_of (hs b (by simp))
  obtain ⟨e1, s1⟩ := sub_sm sb sa
  have hln : sub3 b a ≠ (0, 0, 0) := by
    intro h
    apply hab
    simp only [zero3, sub3] at h
    obtain ⟨a1, a2, a3⟩ := a
    obtain ⟨b1, b2, b3⟩ := b
    simp only at h
    rw [show a1 = b1 by omega, show a2 = b2 by omega, show a3 = b3 by omega]
  have hn : ∀ p ∈ a :: b :: l, V.pCross (V.pSub b a) (V.pSub p a) = cr3 (sub3 b a) (sub3 p a) ∧ Sm (cr3 (sub3 b a) (sub3 p a)) 34359738368 := by
    intro p hp
    obtain ⟨e2, s2⟩ := sub_sm (sm_of (hs p hp)) sa
    rw [e1, e2]
    exact cr_sm s1 s2
  rcases firstN_spec (V.pSub b a) a l with ⟨h1, h2⟩ | ⟨h1, q, hq, h3⟩
  · -- all in one line
    rw [h1]
    constructor
    · intro _ x hx y hy z hz w hw
      have al : ∀ p ∈ a :: b :: l, cr3 (sub3 b a) (sub3 p a) = (0, 0, 0) := by
        intro p hp
        rcases List.mem_cons.1 hp with rfl | hp'
        · simp only [zero3, cr3, sub3]; grind
        · rcases List.mem_cons.1 hp' with rfl | hp''
          · simp only [zero3, cr3, sub3]; grind
          · rw [← (hn p hp).1]; exact h2 p hp''
      have al2 : ∀ p ∈ a :: b :: l, ∀ q ∈ a :: b :: l, cr3 (sub3 b a) (sub3 p q) = (0, 0, 0) := by
        intro p hp q hq
        rw [sub_sub p q a, cr_sub, al p hp, al q hq]; rfl
      unfold det
      rw [cr_along hln (al2 y hy x hx) (al2 z hz x hx)]
      simp [dt3]
    · intro _ p _
      simp [V.pDot]
      decide
  · have hq' : q ∈ a :: b :: l := by simp [hq]
    obtain ⟨e3, s3⟩ := hn q hq'
    rw [h3] at h1 ⊢
    rw [e3] at h1 ⊢
    have hd : ∀ p ∈ a :: b :: l, V.pDot (cr3 (sub3 b a) (sub3 q a)) (V.pSub p a) = dt3 (cr3 (sub3 b a) (sub3 q a)) (sub3 p a) := by
      intro p hp
      obtain ⟨e2, s2⟩ := sub_sm (sm_of (hs p hp)) sa
      rw [e2]; exact dt_sm s3 s2
    constructor
    · intro h x hx y hy z hz w hw
      have h' : ∀ p ∈ a :: b :: l, ∀ r ∈ a :: b :: l, dt3 (cr3 (sub3 b a) (sub3 q a)) (sub3 p r) = 0 := by
        intro p hp r hr
        have g1 := h p hp
        have g2 := h r hr
        rw [hd p hp] at g1
        rw [hd r hr] at g2
        rw [sub_sub p r a, dt_sub, g1, g2]; rfl
      exact det_perp h1 (h' y hy x hx) (h' z hz x hx) (h' w hw x hx)
    · intro h p hp
      rw [hd p hp]
      exact h a (by simp) b (by simp) q hq' p hp
noncomputable def _root_.Go.Proofs.Ytkjellhkamfciaa.M.apart_l0_step {α : Type} (x8 : L3) (x10 : L3) (x11 : Int) (kn : Int → Option α) (k0 : Option α) (k2 : Option α) (x12 : Int) : Option α :=
  if cLt x12 x11 = true then
  if (0 : Int) ≤ x12 ∧ x12 < (↑(List.length x10) : Int) then
    if V.shbeyond_r0 (Prod.fst (List.getD x10 (Int.toNat x12) ((0 : Int), (0 : Int), (0 : Int)))) (Prod.fst (Prod.snd (List.getD x10 (Int.toNat x12) ((0 : Int), (0 : Int), (0 : Int))))) (Prod.snd (Prod.snd (List.getD x10 (Int.toNat x12) ((0 : Int), (0 : Int), (0 : Int))))) (65536 : Int) = true then k0
    else if (0 : Int) ≤ (0 : Int) ∧ (0 : Int) ≤ x12 ∧ x12 ≤ (↑(List.length x8) : Int) then if V.lenB (List.length (List.take (Int.toNat (x12 - (0 : Int))) (List.drop (0 : Nat) x8))) = true then if V.hasP (List.take (Int.toNat (x12 - (0 : Int))) (List.drop (0 : Nat) x8)) (List.getD x10 (Int.toNat x12) ((0 : Int), (0 : Int), (0 : Int))) = true then k0 else kn (IntKind.wrap .i64 (x12 + (1 : Int))) else none else none
  else none
else k2
noncomputable def _root_.Go.Proofs.Ytkjellhkamfciaa.M.apart_l0 {α : Type} (x8 : L3) (x10 : L3) (x11 : Int) (k0 : Option α) (k2 : Option α) : Nat → Int → Option α
  | 0, _ => none
  | n + 1, x12 => M.apart_l0_step x8 x10 x11 (M.apart_l0 x8 x10 x11 k0 k2 n) k0 k2 x12
theorem apart_l0_step_eq {α : Type} (x7 : Value) (x8 : L3) (x9 : Value) (x10 : L3) (x11 : Int) (x12 : Int) (Q : Ex → St → Option α) : (loopStep E (exec E look_side noLps 400) 25 [false, true, false, true] 0 (codeAt E.P 25 [false, true, false, true])) (St.mk (some (SV.ros x7 kP x8) :: nn 4 (some (SV.ros x9 kP x10) :: some (SV.int .i64 x11) :: some (SV.int .i64 x12) :: nn 14 ([]))) []) Q = M.apart_l0_step x8 x10 x11 (fun (x13 : Int) => Q .normal (St.mk (some (SV.ros x7 kP x8) :: nn 4 (some (SV.ros x9 kP x10) :: some (SV.int .i64 x11) :: some (SV.int .i64 x13) :: nn 14 ([]))) [])) (Q .ret (St.mk (none :: none :: some (SV.bool false) :: nn 19 ([])) [])) (Q (.exit 0) (St.mk (nn 22 ([])) [])) x12 := by kernel_rfl
theorem apart_l0_iter {α : Type} (x7 : Value) (x8 : L3) (x9 : Value) (x10 : L3) (x11 : Int) (Q : Ex → St → Option α) : ∀ (n : Nat) (x12 : Int), iter (loopStep E (exec E look_side noLps 400) 25 [false, true, false, true] 0 (codeAt E.P 25 [false, true, false, true])) n (St.mk (some (SV.ros x7 kP x8) :: nn 4 (some (SV.ros x9 kP x10) :: some (SV.int .i64 x11) :: some (SV.int .i64 x12) :: nn 14 ([]))) []) Q = M.apart_l0 x8 x10 x11 (Q .ret (St.mk (none :: none :: some (SV.bool false) :: nn 19 ([])) [])) (Q (.exit 0) (St.mk (nn 22 ([])) [])) n x12
  | 0, _ => rfl
  | n + 1, x12 => (apart_l0_step_eq x7 x8 x9 x10 x11 x12 (iterK (loopStep E (exec E look_side noLps 400) 25 [false, true, false, true] 0 (codeAt E.P 25 [false, true, false, true])) n Q)).trans (congrArg (fun kn => M.apart_l0_step x8 x10 x11 kn (Q .ret (St.mk (none :: none :: some (SV.bool false) :: nn 19 ([])) [])) (Q (.exit 0) (St.mk (nn 22 ([])) [])) x12) (funext fun x12 => apart_l0_iter x7 x8 x9 x10 x11 Q n x12))
noncomputable def apart_l0_go {α : Type} (ds : List D) (Q : Ex → St → Option α) : Option α :=
  dV ds fun x7 ds => dL kP ds fun x8 ds => dV ds fun x9 ds => dL kP ds fun x10 ds => dI ds fun x11 ds => dI ds fun x12 ds => dE ds (M.apart_l0 x8 x10 x11 (Q .ret (St.mk (none :: none :: some (SV.bool false) :: nn 19 ([])) [])) (Q (.exit 0) (St.mk (nn 22 ([])) [])) (100 + x8.length + x10.length) x12)
theorem apart_l0_ok {α : Type} : LoopOk E.P 25 [false, true, false, true] 0 (lEnt (α := α) (St.mk (some (SV.ros undef kP []) :: nn 4 (some (SV.ros undef kP []) :: some (SV.int .i64 (0 : Int)) :: some (SV.int .i64 (0 : Int)) :: nn 14 ([]))) []) apart_l0_go) :=
  lEnt_ok E (exec_sound E E_ok (look_side_ok) (noLps_ok _) 400) fun ds Q r h S hS => by
    unfold apart_l0_go at h
    obtain ⟨x7, ds, rfl, h1⟩ := dV_inv h
    obtain ⟨x8, ds, rfl, h2⟩ := dL_inv h1
    obtain ⟨x9, ds, rfl, h3⟩ := dV_inv h2
    obtain ⟨x10, ds, rfl, h4⟩ := dL_inv h3
    obtain ⟨x11, ds, rfl, h5⟩ := dI_inv h4
    obtain ⟨x12, ds, rfl, h6⟩ := dI_inv h5
    obtain ⟨rfl, hE⟩ := dE_inv h6
    have e : fillS (St.mk (some (SV.ros undef kP []) :: nn 4 (some (SV.ros undef kP []) :: some (SV.int .i64 (0 : Int)) :: some (SV.int .i64 (0 : Int)) :: nn 14 ([]))) []) [.v x7, .l kP x8, .v x9, .l kP x10, .i x11, .i x12] = some (St.mk (some (SV.ros x7 kP x8) :: nn 4 (some (SV.ros x9 kP x10) :: some (SV.int .i64 x11) :: some (SV.int .i64 x12) :: nn 14 ([]))) []) := by kernel_rfl
    rw [e] at hS
    cases hS
    exact ⟨_, (apart_l0_iter x7 x8 x9 x10 x11 Q _ x12).trans hE⟩
noncomputable def apart_l0_lps {α : Type} : LookL α := addLp 25 [false, true, false, true] 0 (lEnt (St.mk (some (SV.ros undef kP []) :: nn 4 (some (SV.ros undef kP []) :: some (SV.int .i64 (0 : Int)) :: some (SV.int .i64 (0 : Int)) :: nn 14 ([]))) []) apart_l0_go) noLps
theorem apart_l0_lps_ok {α : Type} : LoopsOk E.P (apart_l0_lps (α := α)) := addLp_ok apart_l0_ok (noLps_ok _)

noncomputable def _root_.Go.Proofs.Ytkjellhkamfciaa.M.apart {α : Type} (l : L3) (k0 : Bool → Option α) : Option α :=
  M.apart_l0 l l (↑(List.length l) : Int) (k0 false) (k0 true) ((100 : Nat) + List.length l + List.length l) (0 : Int)
theorem apart_eq {α : Type} (l : L3) (v14 : Value) (Q : SV → Hp → Option α) : callI E look_side (exec E look_side apart_l0_lps 400) 25 ([SV.ros v14 kP l]) ([]) Q = M.apart l (fun (x15 : Bool) => Q (SV.bool x15) ([])) := by kernel_rfl
def apart_sp : List AS := [.ro (.st (.i .i64) [.i .i64, .i .i64])]
theorem apart_l0_val {α : Type} (l : List P3) (hl : l.length < 1099511627776) (k0 k2 : Option α) : ∀ (fuel i : Nat), i ≤ l.length → l.length - i < fuel →
    M.apart_l0 l l (l.length : Int) k0 k2 fuel (i : Int) = if apF (l.take i) (l.drop i) = true then k2 else k0
  | 0, i, h1, h2 => by omega
  | f + 1, i, h1, h2 => by
    unfold M.apart_l0 M.apart_l0_step
    rw [cLt_nat]
    by_cases hx : i < l.length
    · rw [w_next (by omega), apart_l0_val l hl k0 k2 f (i + 1) (by omega) (by omega)]
      have hb := beyond_eq (pt l i) 65536 (by omega)
      unfold pt at hb
      have hc : (0 : Int) ≤ (0 : Int) ∧ (0 : Int) ≤ (i : Int) ∧ (i : Int) ≤ (l.length : Int) := by omega
      have ht : List.take (Int.toNat ((i : Int) - 0)) (List.drop 0 l) = l.take i := by rw [Int.sub_zero, toNat_nat, List.drop_zero]
      simp only [hx, decide_true, if_true, inB hx, toNat_nat, hb, if_pos hc, ht]
      rw [if_pos (lenB_of (by rw [List.length_take]; omega)), drop_pt l i hx]
      have e : apF (l.take i) (pt l i :: l.drop (i + 1)) = (!bigP (pt l i) 65536 && !decide (pt l i ∈ l.take i) && apF (l.take i ++ [pt l i]) (l.drop (i + 1))) := rfl
      have e2 : l.take (i + 1) = l.take i ++ [pt l i] := by rw [pt_eq l i hx, List.take_add_one, List.getElem?_eq_getElem hx]; rfl
      rw [e, e2]
      unfold V.hasP
      show (if bigP (pt l i) 65536 = true then k0 else if decide (pt l i ∈ l.take i) = true then k0 else _) = _
      cases bigP (pt l i) 65536 with
      | true => simp
      | false =>
        cases decide (pt l i ∈ l.take i) with
        | true => simp
        | false => simp
    · have : i = l.length := by omega
      subst this
      simp [apF]
theorem apart_v {α : Type} (l : List P3) (hg : V.lenB l.length = true) (k0 : Bool → Option α) : M.apart l k0 = k0 (V.apartP l) := by
  unfold M.apart V.apartP
  refine (apart_l0_val l (lenB_lt hg) (k0 false) (k0 true) (100 + l.length + l.length) 0 (by omega) (by omega)).trans ?_
  rw [List.take_zero, List.drop_zero, apF_eq]
  simp only [List.not_mem_nil, not_false_eq_true, implies_true, and_true]
  cases decide ((∀ p ∈ l, bigP p 65536 = false) ∧ l.Nodup) <;> rfl
noncomputable def apart_h {α : Type} (ds : List D) (Q : SV → Hp → Option α) : Option α :=
  dL kP ds fun l ds => dE ds (if V.lenB l.length = true then Q (.bool (V.apartP l)) ([]) else none)
theorem apart_h_ok {α : Type} : FnOk E.P 25 (fEnt (α := α) apart_sp apart_h) :=
  fEntR_ok E (look_side_ok) (exec_sound E E_ok (look_side_ok) (apart_l0_lps_ok) 400) fun ds Q r h => by
    unfold apart_h at h
    obtain ⟨l, ds, rfl, h1⟩ := dL_inv h
    obtain ⟨rfl, hE⟩ := dE_inv h1
    split at hE
    · rename_i hg
      exact ⟨_, _, hE, fun vs => ⟨_, _, by kernel_rfl, (apart_eq l (vs.headD undef) _).trans (apart_v l hg _)⟩⟩
    · cases hE
noncomputable def look_apart {α : Type} : LookF α := addFn 25 (fEnt apart_sp apart_h) look_side
theorem look_apart_ok {α : Type} : LookOk E.P (look_apart (α := α)) := addFn_ok apart_h_ok (look_side_ok)
noncomputable def _root_.Go.Proofs.Ytkjellhkamfciaa.M.flat_l0_step {α : Type} (x30 : L3) (x31 : Int) (x34 : L3) (x35 : Int) (x36 : Int) (x37 : Int) (kn : Int → Int → Int → Int → Option α) (k1 : Int → Int → Int → Option α) (x32 : Int) (x38 : Int) (x39 : Int) (x40 : Int) : Option α :=
  if cLt x32 x31 = true then
  if (0 : Int) ≤ x32 ∧ x32 < (↑(List.length x30) : Int) then
    if (cEq x38 (0 : Int) && (cEq x39 (0 : Int) && (cEq x40 (0 : Int) && true))) = true then
      if (0 : Int) ≤ (0 : Int) ∧ (0 : Int) < (↑(List.length x34) : Int) then
        kn (IntKind.wrap .i64 (x32 + (1 : Int))) (Prod.fst (V.pCross (x35, x36, x37) (V.pSub (List.getD x30 (Int.toNat x32) ((0 : Int), (0 : Int), (0 : Int))) (List.getD x34 (0 : Nat) ((0 : Int), (0 : Int), (0 : Int)))))) (Prod.fst (Prod.snd (V.pCross (x35, x36, x37) (V.pSub (List.getD x30 (Int.toNat x32) ((0 : Int), (0 : Int), (0 : Int))) (List.getD x34 (0 : Nat) ((0 : Int), (0 : Int), (0 : Int)))))))
          (Prod.snd (Prod.snd (V.pCross (x35, x36, x37) (V.pSub (List.getD x30 (Int.toNat x32) ((0 : Int), (0 : Int), (0 : Int))) (List.getD x34 (0 : Nat) ((0 : Int), (0 : Int), (0 : Int)))))))
      else none
    else kn (IntKind.wrap .i64 (x32 + (1 : Int))) x38 x39 x40
  else none
else k1 x38 x39 x40
noncomputable def _root_.Go.Proofs.Ytkjellhkamfciaa.M.flat_l0 {α : Type} (x30 : L3) (x31 : Int) (x34 : L3) (x35 : Int) (x36 : Int) (x37 : Int) (k1 : Int → Int → Int → Option α) : Nat → Int → Int → Int → Int → Option α
  | 0, _, _, _, _ => none
  | n + 1, x32, x38, x39, x40 => M.flat_l0_step x30 x31 x34 x35 x36 x37 (M.flat_l0 x30 x31 x34 x35 x36 x37 k1 n) k1 x32 x38 x39 x40
theorem flat_l0_step_eq {α : Type} (x29 : Value) (x30 : L3) (x31 : Int) (x32 : Int) (x33 : Value) (x34 : L3) (x35 : Int) (x36 : Int) (x37 : Int) (x38 : Int) (x39 : Int) (x40 : Int) (Q : Ex → St → Option α) : (loopStep E (exec E look_apart noLps 400) 26 [false, true, false, true, true, true] 0 (codeAt E.P 26 [false, true, false, true, true, true])) (St.mk (none :: some (SV.ptr (nat_lit 0) (nat_lit 0)) :: none :: some (SV.ptr (nat_lit 1) (nat_lit 0)) :: some (SV.ptr (nat_lit 2) (nat_lit 0)) :: nn 10 (some (SV.ros x29 kP x30) :: some (SV.int .i64 x31) :: some (SV.int .i64 x32) :: nn 18 ([])))
  [.cells [SV.ros x33 kP x34] (nat_lit 24), .cells [SV.int .i64 x35, SV.int .i64 x36, SV.int .i64 x37] (nat_lit 23), .cells [SV.int .i64 x38, SV.int .i64 x39, SV.int .i64 x40] (nat_lit 23)]) Q = M.flat_l0_step x30 x31 x34 x35 x36 x37 (fun (x44 : Int) (x45 : Int) (x46 : Int) (x47 : Int) => Q .normal (St.mk (none :: some (SV.ptr (nat_lit 0) (nat_lit 0)) :: none :: some (SV.ptr (nat_lit 1) (nat_lit 0)) :: some (SV.ptr (nat_lit 2) (nat_lit 0)) :: nn 10 (some (SV.ros x29 kP x30) :: some (SV.int .i64 x31) :: some (SV.int .i64 x44) :: nn 18 ([])))
  [.cells [SV.ros x33 kP x34] (nat_lit 24), .cells [SV.int .i64 x35, SV.int .i64 x36, SV.int .i64 x37] (nat_lit 23), .cells [SV.int .i64 x45, SV.int .i64 x46, SV.int .i64 x47] (nat_lit 23)])) (fun (x41 : Int) (x42 : Int) (x43 : Int) => Q (.exit 0) (St.mk (none :: some (SV.ptr (nat_lit 0) (nat_lit 0)) :: none :: none :: some (SV.ptr (nat_lit 1) (nat_lit 0)) :: nn 31 ([])) [.cells [SV.ros x33 kP x34] (nat_lit 24), .cells [SV.int .i64 x41, SV.int .i64 x42, SV.int .i64 x43] (nat_lit 23)])) x32 x38 x39 x40 := by kernel_rfl
theorem flat_l0_iter {α : Type} (x29 : Value) (x30 : L3) (x31 : Int) (x33 : Value) (x34 : L3) (x35 : Int) (x36 : Int) (x37 : Int) (Q : Ex → St → Option α) : ∀ (n : Nat) (x32 : Int) (x38 : Int) (x39 : Int) (x40 : Int), iter (loopStep E (exec E look_apart noLps 400) 26 [false, true, false, true, true, true] 0 (codeAt E.P 26 [false, true, false, true, true, true])) n (St.mk (none :: some (SV.ptr (nat_lit 0) (nat_lit 0)) :: none :: some (SV.ptr (nat_lit 1) (nat_lit 0)) :: some (SV.ptr (nat_lit 2) (nat_lit 0)) :: nn 10 (some (SV.ros x29 kP x30) :: some (SV.int .i64 x31) :: some (SV.int .i64 x32) :: nn 18 ([])))
  [.cells [SV.ros x33 kP x34] (nat_lit 24), .cells [SV.int .i64 x35, SV.int .i64 x36, SV.int .i64 x37] (nat_lit 23), .cells [SV.int .i64 x38, SV.int .i64 x39, SV.int .i64 x40] (nat_lit 23)]) Q = M.flat_l0 x30 x31 x34 x35 x36 x37 (fun (x41 : Int) (x42 : Int) (x43 : Int) => Q (.exit 0) (St.mk (none :: some (SV.ptr (nat_lit 0) (nat_lit 0)) :: none :: none :: some (SV.ptr (nat_lit 1) (nat_lit 0)) :: nn 31 ([])) [.cells [SV.ros x33 kP x34] (nat_lit 24), .cells [SV.int .i64 x41, SV.int .i64 x42, SV.int .i64 x43] (nat_lit 23)])) n x32 x38 x39 x40
  | 0, _, _, _, _ => rfl
  | n + 1, x32, x38, x39, x40 => (flat_l0_step_eq x29 x30 x31 x32 x33 x34 x35 x36 x37 x38 x39 x40 (iterK (loopStep E (exec E look_apart noLps 400) 26 [false, true, false, true, true, true] 0 (codeAt E.P 26 [false, true, false, true, true, true])) n Q)).trans (congrArg (fun kn => M.flat_l0_step x30 x31 x34 x35 x36 x37 kn (fun (x41 : Int) (x42 : Int) (x43 : Int) => Q (.exit 0) (St.mk (none :: some (SV.ptr (nat_lit 0) (nat_lit 0)) :: none :: none :: some (SV.ptr (nat_lit 1) (nat_lit 0)) :: nn 31 ([])) [.cells [SV.ros x33 kP x34] (nat_lit 24), .cells [SV.int .i64 x41, SV.int .i64 x42, SV.int .i64 x43] (nat_lit 23)])) x32 x38 x39 x40) (funext fun x32 => funext fun x38 => funext fun x39 => funext fun x40 => flat_l0_iter x29 x30 x31 x33 x34 x35 x36 x37 Q n x32 x38 x39 x40))
noncomputable def flat_l0_go {α : Type} (ds : List D) (Q : Ex → St → Option α) : Option α :=
  dV ds fun x29 ds => dL kP ds fun x30 ds => dI ds fun x31 ds => dI ds fun x32 ds => dV ds fun x33 ds => dL kP ds fun x34 ds => dI ds fun x35 ds => dI ds fun x36 ds => dI ds fun x37 ds => dI ds fun x38 ds => dI ds fun x39 ds => dI ds fun x40 ds => dE ds (M.flat_l0 x30 x31 x34 x35 x36 x37 (fun (x41 : Int) (x42 : Int) (x43 : Int) => Q (.exit 0) (St.mk (none :: some (SV.ptr (nat_lit 0) (nat_lit 0)) :: none :: none :: some (SV.ptr (nat_lit 1) (nat_lit 0)) :: nn 31 ([])) [.cells [SV.ros x33 kP x34] (nat_lit 24), .cells [SV.int .i64 x41, SV.int .i64 x42, SV.int .i64 x43] (nat_lit 23)])) (100 + x30.length + x34.length) x32 x38 x39 x40)
theorem flat_l0_ok {α : Type} : LoopOk E.P 26 [false, true, false, true, true, true] 0 (lEnt (α := α) (St.mk (none :: some (SV.ptr (nat_lit 0) (nat_lit 0)) :: none :: some (SV.ptr (nat_lit 1) (nat_lit 0)) :: some (SV.ptr (nat_lit 2) (nat_lit 0)) :: nn 10 (some (SV.ros undef kP []) :: some (SV.int .i64 (0 : Int)) :: some (SV.int .i64 (0 : Int)) :: nn 18 ([])))
  [.cells [SV.ros undef kP []] (nat_lit 24), .cells [SV.int .i64 (0 : Int), SV.int .i64 (0 : Int), SV.int .i64 (0 : Int)] (nat_lit 23), .cells [SV.int .i64 (0 : Int), SV.int .i64 (0 : Int), SV.int .i64 (0 : Int)] (nat_lit 23)]) flat_l0_go) :=
  lEnt_ok E (exec_sound E E_ok (look_apart_ok) (noLps_ok _) 400) fun ds Q r h S hS => by
    unfold flat_l0_go at h
    obtain ⟨x29, ds, rfl, h1⟩ := dV_inv h
    obtain ⟨x30, ds, rfl, h2⟩ := dL_inv h1
    obtain ⟨x31, ds, rfl, h3⟩ := dI_inv h2
    obtain ⟨x32, ds, rfl, h4⟩ := dI_inv h3
    obtain ⟨x33, ds, rfl, h5⟩ := dV_inv h4
    obtain ⟨x34, ds, rfl, h6⟩ := dL_inv h5
    obtain ⟨x35, ds, rfl, h7⟩ := dI_inv h6
    obtain ⟨x36, ds, rfl, h8⟩ := dI_inv h7
    obtain ⟨x37, ds, rfl, h9⟩ := dI_inv h8
    obtain ⟨x38, ds, rfl, h10⟩ := dI_inv h9
    obtain ⟨x39, ds, rfl, h11⟩ := dI_inv h10
    obtain ⟨x40, ds, rfl, h12⟩ := dI_inv h11
    obtain ⟨rfl, hE⟩ := dE_inv h12
    have e : fillS (St.mk (none :: some (SV.ptr (nat_lit 0) (nat_lit 0)) :: none :: some (SV.ptr (nat_lit 1) (nat_lit 0)) :: some (SV.ptr (nat_lit 2) (nat_lit 0)) :: nn 10 (some (SV.ros undef kP []) :: some (SV.int .i64 (0 : Int)) :: some (SV.int .i64 (0 : Int)) :: nn 18 ([])))
  [.cells [SV.ros undef kP []] (nat_lit 24), .cells [SV.int .i64 (0 : Int), SV.int .i64 (0 : Int), SV.int .i64 (0 : Int)] (nat_lit 23), .cells [SV.int .i64 (0 : Int), SV.int .i64 (0 : Int), SV.int .i64 (0 : Int)] (nat_lit 23)]) [.v x29, .l kP x30, .i x31, .i x32, .v x33, .l kP x34, .i x35, .i x36, .i x37, .i x38, .i x39, .i x40] = some (St.mk (none :: some (SV.ptr (nat_lit 0) (nat_lit 0)) :: none :: some (SV.ptr (nat_lit 1) (nat_lit 0)) :: some (SV.ptr (nat_lit 2) (nat_lit 0)) :: nn 10 (some (SV.ros x29 kP x30) :: some (SV.int .i64 x31) :: some (SV.int .i64 x32) :: nn 18 ([])))
  [.cells [SV.ros x33 kP x34] (nat_lit 24), .cells [SV.int .i64 x35, SV.int .i64 x36, SV.int .i64 x37] (nat_lit 23), .cells [SV.int .i64 x38, SV.int .i64 x39, SV.int .i64 x40] (nat_lit 23)]) := by kernel_rfl
    rw [e] at hS
    cases hS
    exact ⟨_, (flat_l0_iter x29 x30 x31 x33 x34 x35 x36 x37 Q _ x32 x38 x39 x40).trans hE⟩
noncomputable def flat_l0_lps {α : Type} : LookL α := addLp 26 [false, true, false, true, true, true] 0 (lEnt (St.mk (none :: some (SV.ptr (nat_lit 0) (nat_lit 0)) :: none :: some (SV.ptr (nat_lit 1) (nat_lit 0)) :: some (SV.ptr (nat_lit 2) (nat_lit 0)) :: nn 10 (some (SV.ros undef kP []) :: some (SV.int .i64 (0 : Int)) :: some (SV.int .i64 (0 : Int)) :: nn 18 ([])))
  [.cells [SV.ros undef kP []] (nat_lit 24), .cells [SV.int .i64 (0 : Int), SV.int .i64 (0 : Int), SV.int .i64 (0 : Int)] (nat_lit 23), .cells [SV.int .i64 (0 : Int), SV.int .i64 (0 : Int), SV.int .i64 (0 : Int)] (nat_lit 23)]) flat_l0_go) noLps
theorem flat_l0_lps_ok {α : Type} : LoopsOk E.P (flat_l0_lps (α := α)) := addLp_ok flat_l0_ok (noLps_ok _)

noncomputable def _root_.Go.Proofs.Ytkjellhkamfciaa.M.flat_l1_step {α : Type} (x62 : L3) (x63 : Int) (x66 : L3) (x67 : Int) (x68 : Int) (x69 : Int) (kn : Int → Option α) (k0 : Int → Option α) (k2 : Option α) (x64 : Int) : Option α :=
  if cLt x64 x63 = true then if (0 : Int) ≤ x64 ∧ x64 < (↑(List.length x62) : Int) then if (0 : Int) ≤ (0 : Int) ∧ (0 : Int) < (↑(List.length x66) : Int) then if (!cEq (V.pDot (x67, x68, x69) (V.pSub (List.getD x62 (Int.toNat x64) ((0 : Int), (0 : Int), (0 : Int))) (List.getD x66 (0 : Nat) ((0 : Int), (0 : Int), (0 : Int))))) (0 : Int)) = true then k0 x64 else kn (IntKind.wrap .i64 (x64 + (1 : Int))) else none else none else k2
noncomputable def _root_.Go.Proofs.Ytkjellhkamfciaa.M.flat_l1 {α : Type} (x62 : L3) (x63 : Int) (x66 : L3) (x67 : Int) (x68 : Int) (x69 : Int) (k0 : Int → Option α) (k2 : Option α) : Nat → Int → Option α
  | 0, _ => none
  | n + 1, x64 => M.flat_l1_step x62 x63 x66 x67 x68 x69 (M.flat_l1 x62 x63 x66 x67 x68 x69 k0 k2 n) k0 k2 x64
theorem flat_l1_step_eq {α : Type} (x61 : Value) (x62 : L3) (x63 : Int) (x64 : Int) (x65 : Value) (x66 : L3) (x67 : Int) (x68 : Int) (x69 : Int) (Q : Ex → St → Option α) : (loopStep E (exec E look_apart flat_l0_lps 400) 78 [false, true, false, true] 2 (codeAt E.P 78 [false, true, false, true])) (St.mk (some (SV.ros x61 kP x62) :: some (SV.fn (nat_lit 54) [] [SV.ptr (nat_lit 1) (nat_lit 0), SV.ptr (nat_lit 0) (nat_lit 0)]) :: nn 5 (some (SV.int .i64 x63) :: some (SV.int .i64 x64) :: nn 10 ([])))
  [.cells [SV.ros x65 kP x66] (nat_lit 24), .cells [SV.int .i64 x67, SV.int .i64 x68, SV.int .i64 x69] (nat_lit 23)]) Q = M.flat_l1_step x62 x63 x66 x67 x68 x69 (fun (x71 : Int) => Q .normal (St.mk (some (SV.ros x61 kP x62) :: some (SV.fn (nat_lit 54) [] [SV.ptr (nat_lit 1) (nat_lit 0), SV.ptr (nat_lit 0) (nat_lit 0)]) :: nn 5 (some (SV.int .i64 x63) :: some (SV.int .i64 x71) :: nn 10 ([])))
  [.cells [SV.ros x65 kP x66] (nat_lit 24), .cells [SV.int .i64 x67, SV.int .i64 x68, SV.int .i64 x69] (nat_lit 23)])) (fun (x70 : Int) => Q .ret (St.mk (nn 4 (some (SV.int .i64 x70) :: nn 14 ([]))) [.cells [SV.ros x65 kP x66] (nat_lit 24), .cells [SV.int .i64 x67, SV.int .i64 x68, SV.int .i64 x69] (nat_lit 23)])) (Q (.exit 0) (St.mk (nn 19 ([])) [.cells [SV.ros x65 kP x66] (nat_lit 24), .cells [SV.int .i64 x67, SV.int .i64 x68, SV.int .i64 x69] (nat_lit 23)])) x64 := by kernel_rfl
theorem flat_l1_iter {α : Type} (x61 : Value) (x62 : L3) (x63 : Int) (x65 : Value) (x66 : L3) (x67 : Int) (x68 : Int) (x69 : Int) (Q : Ex → St → Option α) : ∀ (n : Nat) (x64 : Int), iter (loopStep E (exec E look_apart flat_l0_lps 400) 78 [false, true, false, true] 2 (codeAt E.P 78 [false, true, false, true])) n (St.mk (some (SV.ros x61 kP x62) :: some (SV.fn (nat_lit 54) [] [SV.ptr (nat_lit 1) (nat_lit 0), SV.ptr (nat_lit 0) (nat_lit 0)]) :: nn 5 (some (SV.int .i64 x63) :: some (SV.int .i64 x64) :: nn 10 ([])))
  [.cells [SV.ros x65 kP x66] (nat_lit 24), .cells [SV.int .i64 x67, SV.int .i64 x68, SV.int .i64 x69] (nat_lit 23)]) Q = M.flat_l1 x62 x63 x66 x67 x68 x69 (fun (x70 : Int) => Q .ret (St.mk (nn 4 (some (SV.int .i64 x70) :: nn 14 ([]))) [.cells [SV.ros x65 kP x66] (nat_lit 24), .cells [SV.int .i64 x67, SV.int .i64 x68, SV.int .i64 x69] (nat_lit 23)])) (Q (.exit 0) (St.mk (nn 19 ([])) [.cells [SV.ros x65 kP x66] (nat_lit 24), .cells [SV.int .i64 x67, SV.int .i64 x68, SV.int .i64 x69] (nat_lit 23)])) n x64
  | 0, _ => rfl
  | n + 1, x64 => (flat_l1_step_eq x61 x62 x63 x64 x65 x66 x67 x68 x69 (iterK (loopStep E (exec E look_apart flat_l0_lps 400) 78 [false, true, false, true] 2 (codeAt E.P 78 [false, true, false, true])) n Q)).trans (congrArg (fun kn => M.flat_l1_step x62 x63 x66 x67 x68 x69 kn (fun (x70 : Int) => Q .ret (St.mk (nn 4 (some (SV.int .i64 x70) :: nn 14 ([]))) [.cells [SV.ros x65 kP x66] (nat_lit 24), .cells [SV.int .i64 x67, SV.int .i64 x68, SV.int .i64 x69] (nat_lit 23)])) (Q (.exit 0) (St.mk (nn 19 ([])) [.cells [SV.ros x65 kP x66] (nat_lit 24), .cells [SV.int .i64 x67, SV.int .i64 x68, SV.int .i64 x69] (nat_lit 23)])) x64) (funext fun x64 => flat_l1_iter x61 x62 x63 x65 x66 x67 x68 x69 Q n x64))
noncomputable def flat_l1_go {α : Type} (ds : List D) (Q : Ex → St → Option α) : Option α :=
  dV ds fun x61 ds => dL kP ds fun x62 ds => dI ds fun x63 ds => dI ds fun x64 ds => dV ds fun x65 ds => dL kP ds fun x66 ds => dI ds fun x67 ds => dI ds fun x68 ds => dI ds fun x69 ds => dE ds (M.flat_l1 x62 x63 x66 x67 x68 x69 (fun (x70 : Int) => Q .ret (St.mk (nn 4 (some (SV.int .i64 x70) :: nn 14 ([]))) [.cells [SV.ros x65 kP x66] (nat_lit 24), .cells [SV.int .i64 x67, SV.int .i64 x68, SV.int .i64 x69] (nat_lit 23)])) (Q (.exit 0) (St.mk (nn 19 ([])) [.cells [SV.ros x65 kP x66] (nat_lit 24), .cells [SV.int .i64 x67, SV.int .i64 x68, SV.int .i64 x69] (nat_lit 23)])) (100 + x62.length + x66.length) x64)
theorem flat_l1_ok {α : Type} : LoopOk E.P 78 [false, true, false, true] 2 (lEnt (α := α) (St.mk (some (SV.ros undef kP []) :: some (SV.fn (nat_lit 54) [] [SV.ptr (nat_lit 1) (nat_lit 0), SV.ptr (nat_lit 0) (nat_lit 0)]) :: nn 5 (some (SV.int .i64 (0 : Int)) :: some (SV.int .i64 (0 : Int)) :: nn 10 ([])))
  [.cells [SV.ros undef kP []] (nat_lit 24), .cells [SV.int .i64 (0 : Int), SV.int .i64 (0 : Int), SV.int .i64 (0 : Int)] (nat_lit 23)]) flat_l1_go) :=
  lEnt_ok E (exec_sound E E_ok (look_apart_ok) (flat_l0_lps_ok) 400) fun ds Q r h S hS => by
    unfold flat_l1_go at h
    obtain ⟨x61, ds, rfl, h1⟩ := dV_inv h
    obtain ⟨x62, ds, rfl, h2⟩ := dL_inv h1
    obtain ⟨x63, ds, rfl, h3⟩ := dI_inv h2
    obtain ⟨x64, ds, rfl, h4⟩ := dI_inv h3
    obtain ⟨x65, ds, rfl, h5⟩ := dV_inv h4
    obtain ⟨x66, ds, rfl, h6⟩ := dL_inv h5
    obtain ⟨x67, ds, rfl, h7⟩ := dI_inv h6
    obtain ⟨x68, ds, rfl, h8⟩ := dI_inv h7
    obtain ⟨x69, ds, rfl, h9⟩ := dI_inv h8
    obtain ⟨rfl, hE⟩ := dE_inv h9
    have e : fillS (St.mk (some (SV.ros undef kP []) :: some (SV.fn (nat_lit 54) [] [SV.ptr (nat_lit 1) (nat_lit 0), SV.ptr (nat_lit 0) (nat_lit 0)]) :: nn 5 (some (SV.int .i64 (0 : Int)) :: some (SV.int .i64 (0 : Int)) :: nn 10 ([])))
  [.cells [SV.ros undef kP []] (nat_lit 24), .cells [SV.int .i64 (0 : Int), SV.int .i64 (0 : Int), SV.int .i64 (0 : Int)] (nat_lit 23)]) [.v x61, .l kP x62, .i x63, .i x64, .v x65, .l kP x66, .i x67, .i x68, .i x69] = some (St.mk (some (SV.ros x61 kP x62) :: some (SV.fn (nat_lit 54) [] [SV.ptr (nat_lit 1) (nat_lit 0), SV.ptr (nat_lit 0) (nat_lit 0)]) :: nn 5 (some (SV.int .i64 x63) :: some (SV.int .i64 x64) :: nn 10 ([])))
  [.cells [SV.ros x65 kP x66] (nat_lit 24), .cells [SV.int .i64 x67, SV.int .i64 x68, SV.int .i64 x69] (nat_lit 23)]) := by kernel_rfl
    rw [e] at hS
    cases hS
    exact ⟨_, (flat_l1_iter x61 x62 x63 x65 x66 x67 x68 x69 Q _ x64).trans hE⟩
noncomputable def flat_l1_lps {α : Type} : LookL α := addLp 78 [false, true, false, true] 2 (lEnt (St.mk (some (SV.ros undef kP []) :: some (SV.fn (nat_lit 54) [] [SV.ptr (nat_lit 1) (nat_lit 0), SV.ptr (nat_lit 0) (nat_lit 0)]) :: nn 5 (some (SV.int .i64 (0 : Int)) :: some (SV.int .i64 (0 : Int)) :: nn 10 ([])))
  [.cells [SV.ros undef kP []] (nat_lit 24), .cells [SV.int .i64 (0 : Int), SV.int .i64 (0 : Int), SV.int .i64 (0 : Int)] (nat_lit 23)]) flat_l1_go) flat_l0_lps
theorem flat_l1_lps_ok {α : Type} : LoopsOk E.P (flat_l1_lps (α := α)) := addLp_ok flat_l1_ok (flat_l0_lps_ok)

noncomputable def _root_.Go.Proofs.Ytkjellhkamfciaa.M.flat {α : Type} (l : L3) (k0 : Bool → Option α) : Option α :=
  if (0 : Int) ≤ (1 : Int) ∧ (1 : Int) < (↑(List.length l) : Int) then
  if (0 : Int) ≤ (0 : Int) ∧ (0 : Int) < (↑(List.length l) : Int) then
    if (0 : Int) ≤ (2 : Int) ∧ (2 : Int) ≤ (↑(List.length l) : Int) ∧ (↑(List.length l) : Int) ≤ (↑(List.length l) : Int) then
      M.flat_l0 (List.take (Int.toNat ((↑(List.length l) : Int) - (2 : Int))) (List.drop (2 : Nat) l)) (↑(List.length (List.take (Int.toNat ((↑(List.length l) : Int) - (2 : Int))) (List.drop (2 : Nat) l))) : Int) l (Prod.fst (V.pSub (List.getD l (1 : Nat) ((0 : Int), (0 : Int), (0 : Int))) (List.getD l (0 : Nat) ((0 : Int), (0 : Int), (0 : Int))))) (Prod.fst (Prod.snd (V.pSub (List.getD l (1 : Nat) ((0 : Int), (0 : Int), (0 : Int))) (List.getD l (0 : Nat) ((0 : Int), (0 : Int), (0 : Int))))))
        (Prod.snd (Prod.snd (V.pSub (List.getD l (1 : Nat) ((0 : Int), (0 : Int), (0 : Int))) (List.getD l (0 : Nat) ((0 : Int), (0 : Int), (0 : Int)))))) (fun (x73 x74 x75 : Int) ↦ M.flat_l1 l (↑(List.length l) : Int) l x73 x74 x75 (fun (x76 : Int) ↦ k0 !cLe (0 : Int) x76) (k0 !cLe (0 : Int) (-1 : Int)) ((100 : Nat) + List.length l + List.length l) (0 : Int)) ((100 : Nat) + List.length (List.take (Int.toNat ((↑(List.length l) : Int) - (2 : Int))) (List.drop (2 : Nat) l)) + List.length l)
        (0 : Int) (0 : Int) (0 : Int) (0 : Int)
    else none
  else none
else none
theorem flat_eq {α : Type} (l : L3) (v72 : Value) (Q : SV → Hp → Option α) : callI E look_apart (exec E look_apart flat_l1_lps 400) 26 ([SV.ros v72 kP l]) ([]) Q = M.flat l (fun (x77 : Bool) => Q (SV.bool x77) ([])) := by kernel_rfl
def flat_sp : List AS := [.ro (.st (.i .i64) [.i .i64, .i .i64])]
theorem flat_l0_val {α : Type} (m l : List P3) (hm : m.length < 1099511627776) (h0 : 0 < l.length) (ln : P3) (k1 : Int → Int → Int → Option α) : ∀ (fuel i : Nat) (n : P3), i ≤ m.length → m.length - i < fuel →
    M.flat_l0 m (m.length : Int) l ln.1 ln.2.1 ln.2.2 k1 fuel (i : Int) n.1 n.2.1 n.2.2 = k1 (firstN ln (pt l 0) (m.drop i) n).1 (firstN ln (pt l 0) (m.drop i) n).2.1 (firstN ln (pt l 0) (m.drop i) n).2.2
  | 0, i, n, h1, h2 => by omega
  | f + 1, i, n, h1, h2 => by
    unfold M.flat_l0 M.flat_l0_step
    rw [cLt_nat]
    by_cases hx : i < m.length
    · rw [w_next (by omega)]
      have hc : (0 : Int) ≤ (0 : Int) ∧ (0 : Int) < (l.length : Int) := by omega
      have he : (cEq n.1 (0 : Int) && (cEq n.2.1 (0 : Int) && (cEq n.2.2 (0 : Int) && true))) = decide (n = (0, 0, 0)) := eq3 n.1 n.2.1 n.2.2 (0, 0, 0)
      simp only [hx, decide_true, if_true, inB hx, toNat_nat, if_pos hc, he, decide_eq_true_eq]
      rw [drop_pt m i hx, firstN_cons]
      split
      · rw [← flat_l0_val m l hm h0 ln k1 f (i + 1) (V.pCross ln (V.pSub (pt m i) (pt l 0))) (by omega) (by omega)]
        rfl
      · rw [← flat_l0_val m l hm h0 ln k1 f (i + 1) n (by omega) (by omega)]
    · have : i = m.length := by omega
      subst this
      simp [firstN]
theorem flat_l1_val {α : Type} (l : List P3) (hl : l.length < 1099511627776) (h0 : 0 < l.length) (n : P3) (k0 : Int → Option α) (k2 : Option α) : ∀ (fuel i : Nat), i ≤ l.length → l.length - i < fuel →
    ∃ j : Int, 0 ≤ j ∧ M.flat_l1 l (l.length : Int) l n.1 n.2.1 n.2.2 k0 k2 fuel (i : Int) = if (l.drop i).all (fun p => V.pDot n (V.pSub p (pt l 0)) == 0) = true then k2 else k0 j
  | 0, i, h1, h2 => by omega
  | f + 1, i, h1, h2 => by
    unfold M.flat_l1 M.flat_l1_step
    rw [cLt_nat]
    by_cases hx : i < l.length
    · obtain ⟨j, hj, ih⟩ := flat_l1_val l hl h0 n k0 k2 f (i + 1) (by omega) (by omega)
      rw [w_next (by omega), ih]
      have hc : (0 : Int) ≤ (0 : Int) ∧ (0 : Int) < (l.length : Int) := by omega
      simp only [hx, decide_true, if_true, inB hx, toNat_nat, if_pos hc, cEq_eq]
      rw [drop_pt l i hx, List.all_cons]
      show ∃ j', 0 ≤ j' ∧ (if (!(V.pDot n (V.pSub (pt l i) (pt l 0)) == 0)) = true then k0 (i : Int) else _) = _
      cases (V.pDot n (V.pSub (pt l i) (pt l 0)) == 0) with
      | true => exact ⟨j, hj, by simp only [Bool.not_true, Bool.false_eq_true, if_false, Bool.true_and]⟩
      | false => exact ⟨i, by omega, by simp⟩
    · have : i = l.length := by omega
      subst this
      exact ⟨0, by omega, by simp⟩
/-- What is asked of points ahead of the question whether they are flat. (By choice.) -/
noncomputable def _root_.Go.Proofs.Ytkjellhkamfciaa.V.ptsB (l : List P3) : Bool := hid (V.apartP l && decide (2 ≤ l.length) && decide (l.length < 1099511627776))
theorem ptsB_of {l : List P3} (h1 : V.apartP l = true) (h2 : 2 ≤ l.length) (h3 : l.length < 1099511627776) : V.ptsB l = true := by
  unfold V.ptsB; rw [hid_eq]; simp [h1, h2, h3]
theorem ptsB_iff {l : List P3} (h : V.ptsB l = true) : (∀ p ∈ l, bigP p 65536 = false) ∧ l.Nodup ∧ 2 ≤ l.length ∧ l.length < 1099511627776 := by
  unfold V.ptsB at h; rw [hid_eq] at h
  simp only [Bool.and_eq_true, V.apartP, decide_eq_true_eq] at h
  exact ⟨h.1.1.1, h.1.1.2, h.1.2, h.2⟩
theorem flat_v {α : Type} (l : List P3) (hg : V.ptsB l = true) (k0 : Bool → Option α) : M.flat l k0 = k0 (V.flatP l) := by
  obtain ⟨g1, g2, g3, g4⟩ := ptsB_iff hg
  unfold M.flat
  rw [if_pos (by omega : (0 : Int) ≤ 1 ∧ (1 : Int) < (l.length : Int)), if_pos (by omega : (0 : Int) ≤ 0 ∧ (0 : Int) < (l.length : Int)), if_pos (by omega : (0 : Int) ≤ 2 ∧ (2 : Int) ≤ (l.length : Int) ∧ (l.length : Int) ≤ (l.length : Int))]
  have ht : List.take (Int.toNat ((l.length : Int) - 2)) (List.drop 2 l) = l.drop 2 := List.take_of_length_le (by rw [List.length_drop]; omega)
  rw [ht]
  have h1 := flat_l0_val (l.drop 2) l (by rw [List.length_drop]; omega) (by omega) (V.pSub (pt l 1) (pt l 0)) (fun (x113 x114 x115 : Int) => M.flat_l1 l (l.length : Int) l x113 x114 x115 (fun (x116 : Int) => k0 !cLe (0 : Int) x116) (k0 !cLe (0 : Int) (-1 : Int)) ((100 : Nat) + l.length + l.length) (0 : Int)) (100 + (l.drop 2).length + l.length) 0 (0, 0, 0) (by omega) (by omega)
  refine Eq.trans h1 ?_
  rw [List.drop_zero]
  obtain ⟨j, hj, h2⟩ := flat_l1_val l g4 (by omega) (firstN (V.pSub (pt l 1) (pt l 0)) (pt l 0) (l.drop 2) (0, 0, 0)) (fun (x116 : Int) => k0 !cLe (0 : Int) x116) (k0 !cLe (0 : Int) (-1 : Int)) (100 + l.length + l.length) 0 (by omega) (by omega)
  refine Eq.trans h2 ?_
  rw [List.drop_zero]
  match l, g1, g2, g3 with
  | a :: b :: m, g1, g2, g3 =>
    have hab : a ≠ b := by intro e; subst e; simp at g2
    have hp := flat_plain a b m g1 hab
    have hf := flatP_iff (a :: b :: m)
    have e : (a :: b :: m).all (fun p => V.pDot (firstN (V.pSub (pt (a :: b :: m) 1) (pt (a :: b :: m) 0)) (pt (a :: b :: m) 0) ((a :: b :: m).drop 2) (0, 0, 0)) (V.pSub p (pt (a :: b :: m) 0)) == 0) = V.flatP (a :: b :: m) := by
      rw [Bool.eq_iff_iff, hf, ← hp, List.all_eq_true]
      simp only [beq_iff_eq]
      rfl
    rw [e]
    simp only [cLe_eq]
    cases V.flatP (a :: b :: m) with
    | true => rfl
    | false => simp [hj]
noncomputable def flat_h {α : Type} (ds : List D) (Q : SV → Hp → Option α) : Option α :=
  dL kP ds fun l ds => dE ds (if V.ptsB l = true then Q (.bool (V.flatP l)) ([]) else none)
theorem flat_h_ok {α : Type} : FnOk E.P 26 (fEnt (α := α) flat_sp flat_h) :=
  fEntR_ok E (look_apart_ok) (exec_sound E E_ok (look_apart_ok) (flat_l1_lps_ok) 400) fun ds Q r h => by
    unfold flat_h at h
    obtain ⟨l, ds, rfl, h1⟩ := dL_inv h
    obtain ⟨rfl, hE⟩ := dE_inv h1
    split at hE
    · rename_i hg
      exact ⟨_, _, hE, fun vs => ⟨_, _, by kernel_rfl, (flat_eq l (vs.headD undef) _).trans (flat_v l hg _)⟩⟩
    · cases hE
noncomputable def look_flat {α : Type} : LookF α := addFn 26 (fEnt flat_sp flat_h) look_apart
theorem look_flat_ok {α : Type} : LookOk E.P (look_flat (α := α)) := addFn_ok flat_h_ok (look_apart_ok)
end Go.Proofs.Ytkjellhkamfciaa.Sx
end

section
/- shape: whether shapes may be; their cores. -/
namespace Go.Proofs.Ytkjellhkamfciaa.Sx
open Go
set_option maxRecDepth 20000
set_option linter.unusedVariables false
set_option linter.unusedSimpArgs false
def inZ (n lo hi : Int) : Bool := decide (lo ≤ n) && decide (n ≤ hi)
theorem within_eq (n lo hi : Int) : V.shwithin_r0 n lo hi = inZ n lo hi := by
  unfold V.shwithin_r0 inZ
  simp only [cLe_eq]
  cases decide (lo ≤ n) <;> simp
/-- What the check of a shape tells. -/
noncomputable def chkP (k r hx hy hz : Int) (l : List P3) : Int :=
  if k = 1 then (if inZ r 1 16384 then 0 else 50)
  else if k = 2 then (if inZ hx 1 65536 && inZ r 1 16384 then 0 else 50)
  else if k = 3 then (if inZ hx 1 65536 && inZ hy 1 65536 && inZ hz 1 65536 && inZ r 0 16384 then 0 else 50)
  else if k = 4 then (if inZ (l.length : Int) 4 12 && V.apartP l && inZ r 0 16384 then (if V.flatP l then 51 else 0) else 50)
  else 50
noncomputable def _root_.Go.Proofs.Ytkjellhkamfciaa.V.chk (k r hx hy hz : Int) (l : List P3) : Int := hid (chkP k r hx hy hz l)
theorem brick_eq (hx hy hz : Int) : (decide (0 < (if hz < if hy < hx then hy else hx then hz else if hy < hx then hy else hx)) && !bigP (hx, hy, hz) 65536) = (inZ hx 1 65536 && inZ hy 1 65536 && inZ hz 1 65536) := by
  obtain ⟨a, e1, h1⟩ := min_spec hx hy
  obtain ⟨b, e2, h2⟩ := min_spec a hz
  rw [e1, e2, Bool.eq_iff_iff]
  simp only [inZ, bigP, Bool.and_eq_true, decide_eq_true_eq, Bool.not_eq_true', Bool.or_eq_false_iff, decide_eq_false_iff_not]
  omega
noncomputable def _root_.Go.Proofs.Ytkjellhkamfciaa.M.check {α : Type} (k : Int) (r : Int) (hx : Int) (hy : Int) (hz : Int) (l : L3) (k0 : Int → Option α) : Option α :=
  if cEq k (1 : Int) = true then if (!V.shwithin_r0 r (1 : Int) (16384 : Int)) = true then k0 (50 : Int) else if cEq k (4 : Int) = true then if V.ptsB l = true then if V.flatP l = true then k0 (51 : Int) else k0 (0 : Int) else none else k0 (0 : Int)
else
  if cEq k (2 : Int) = true then if (!V.shwithin_r0 hx (1 : Int) (65536 : Int)) = true then k0 (50 : Int) else if (!V.shwithin_r0 r (1 : Int) (16384 : Int)) = true then k0 (50 : Int) else if cEq k (4 : Int) = true then if V.ptsB l = true then if V.flatP l = true then k0 (51 : Int) else k0 (0 : Int) else none else k0 (0 : Int)
  else
    if cEq k (3 : Int) = true then if cLt (0 : Int) (if hz < if hy < hx then hy else hx then hz else if hy < hx then hy else hx) = true then if (!!V.shbeyond_r0 hx hy hz (65536 : Int)) = true then k0 (50 : Int) else if (!V.shwithin_r0 r (0 : Int) (16384 : Int)) = true then k0 (50 : Int) else if cEq k (4 : Int) = true then if V.ptsB l = true then if V.flatP l = true then k0 (51 : Int) else k0 (0 : Int) else none else k0 (0 : Int) else k0 (50 : Int)
    else if cEq k (4 : Int) = true then if V.shwithin_r0 (↑(List.length l) : Int) (4 : Int) (12 : Int) = true then if V.lenB (List.length l) = true then if (!V.apartP l) = true then k0 (50 : Int) else if (!V.shwithin_r0 r (0 : Int) (16384 : Int)) = true then k0 (50 : Int) else if cEq k (4 : Int) = true then if V.ptsB l = true then if V.flatP l = true then k0 (51 : Int) else k0 (0 : Int) else none else k0 (0 : Int) else none else k0 (50 : Int) else k0 (50 : Int)
theorem check_eq {α : Type} (k : Int) (r : Int) (hx : Int) (hy : Int) (hz : Int) (l : L3) (v0 : Value) (Q : SV → Hp → Option α) : callI E look_flat (exec E look_flat noLps 400) 11 ([SV.agg [SV.int .i64 k, SV.int .i64 r, SV.int .i64 hx, SV.int .i64 hy, SV.int .i64 hz, SV.ros v0 kP l]]) ([]) Q = M.check k r hx hy hz l (fun (x1 : Int) => Q (SV.int .i64 x1) ([])) := by kernel_rfl
def check_sp : List AS := [.st [.leaf (.int .i64 0), .leaf (.int .i64 0), .leaf (.int .i64 0), .leaf (.int .i64 0), .leaf (.int .i64 0), .ro (.st (.i .i64) [.i .i64, .i .i64])]]
theorem check_v {α : Type} (k r hx hy hz : Int) (l : List P3) (k0 : Int → Option α) : M.check k r hx hy hz l k0 = k0 (V.chk k r hx hy hz l) := by
  unfold M.check V.chk
  rw [hid_eq]
  unfold chkP
  have hb := beyond_eq (hx, hy, hz) 65536 (by omega)
  have hbr := brick_eq hx hy hz
  simp only at hb
  simp only [cEq_eq, beq_iff_eq, within_eq, cLt_eq, hb]
  by_cases k1 : k = 1
  · subst k1
    simp only [if_true, Int.reduceEq, if_false]
    cases inZ r 1 16384 <;> simp
  simp only [if_neg k1]
  by_cases k2 : k = 2
  · subst k2
    simp only [if_true, Int.reduceEq, if_false]
    cases inZ hx 1 65536 <;> cases inZ r 1 16384 <;> simp
  simp only [if_neg k2]
  by_cases k3 : k = 3
  · subst k3
    simp only [if_true, Int.reduceEq, if_false]
    rw [← hbr]
    cases decide (0 < (if hz < if hy < hx then hy else hx then hz else if hy < hx then hy else hx)) <;> cases bigP (hx, hy, hz) 65536 <;> cases inZ r 0 16384 <;> simp
  simp only [if_neg k3]
  by_cases k4 : k = 4
  · subst k4
    simp only [if_true]
    cases h1 : inZ (l.length : Int) 4 12 with
    | false => simp
    | true =>
      have hl : 4 ≤ l.length ∧ l.length ≤ 12 := by simp [inZ] at h1; omega
      rw [if_pos (lenB_of (by omega))]
      cases h2 : V.apartP l with
      | false => simp
      | true =>
        cases inZ r 0 16384 with
        | false => simp
        | true =>
          rw [if_pos (ptsB_of h2 (by omega) (by omega))]
          cases V.flatP l <;> simp
  simp [k4]
noncomputable def check_h {α : Type} (ds : List D) (Q : SV → Hp → Option α) : Option α :=
  dI ds fun k ds => dI ds fun r ds => dI ds fun hx ds => dI ds fun hy ds => dI ds fun hz ds => dL kP ds fun l ds => dE ds (Q (.int .i64 (V.chk k r hx hy hz l)) ([]))
theorem check_h_ok {α : Type} : FnOk E.P 11 (fEnt (α := α) check_sp check_h) :=
  fEntR_ok E (look_flat_ok) (exec_sound E E_ok (look_flat_ok) (noLps_ok _) 400) fun ds Q r h => by
    unfold check_h at h
    obtain ⟨k, ds, rfl, h1⟩ := dI_inv h
    obtain ⟨r, ds, rfl, h2⟩ := dI_inv h1
    obtain ⟨hx, ds, rfl, h3⟩ := dI_inv h2
    obtain ⟨hy, ds, rfl, h4⟩ := dI_inv h3
    obtain ⟨hz, ds, rfl, h5⟩ := dI_inv h4
    obtain ⟨l, ds, rfl, h6⟩ := dL_inv h5
    obtain ⟨rfl, hE⟩ := dE_inv h6
    exact ⟨_, _, hE, fun vs => ⟨_, _, by kernel_rfl, (check_eq k r hx hy hz l ((cellsV (vs.headD undef)).tail.tail.tail.tail.tail.headD undef) _).trans (check_v k r hx hy hz l _)⟩⟩
noncomputable def look_check {α : Type} : LookF α := addFn 11 (fEnt check_sp check_h) look_flat
theorem look_check_ok {α : Type} : LookOk E.P (look_check (α := α)) := addFn_ok check_h_ok (look_flat_ok)
end Go.Proofs.Ytkjellhkamfciaa.Sx
end

section
/- shape: cores. -/
namespace Go.Proofs.Ytkjellhkamfciaa.Sx
open Go
set_option maxRecDepth 20000
set_option linter.unusedVariables false
set_option linter.unusedSimpArgs false
noncomputable abbrev core_S1 (y1 y2 y3 y4 y5 y6 y7 y8 y9 y10 : Int) (y11 : Value) (y12 : L3) (y13 : Int) (y14 y15 y16 : L3) (y17 : Int) (y18 y19 y20 : L3) (y21 y22 : List Int) : St := St.mk (none :: some (SV.ptr (nat_lit 0) (nat_lit 0)) :: some (SV.ptr (nat_lit 1) (nat_lit 0)) :: none :: none :: some (SV.ptr (nat_lit 5) (nat_lit 0)) :: none :: some (SV.int .i64 y1) :: nn 43 (some (SV.sl (nat_lit 9)) :: some (SV.int .i64 y2) :: some (SV.int .i64 y3) :: nn 10 (some (SV.sl (nat_lit 10)) :: some (SV.int .i64 y4) :: some (SV.int .i64 y5) :: nn 40 ([])))) [.cells [SV.int .i64 y6, SV.int .i64 y7, SV.int .i64 y8, SV.int .i64 y9, SV.int .i64 y10, SV.ros y11 kP y12] (nat_lit 26), .cells [SV.sl (nat_lit 2), SV.sl (nat_lit 3), SV.sl (nat_lit 4), SV.int .i64 y13] (nat_lit 31), .seq kP y14 (nat_lit 23), .seq kP y15 (nat_lit 23), .seq kP y16 (nat_lit 23), .cells [SV.sl (nat_lit 6), SV.sl (nat_lit 7), SV.sl (nat_lit 8), SV.int .i64 y17] (nat_lit 31), .seq kP y18 (nat_lit 23), .seq kP y19 (nat_lit 23), .seq kP y20 (nat_lit 23), .seq (K.int IntKind.i64) y21 (nat_lit 3), .seq (K.int IntKind.i64) y22 (nat_lit 3)]
noncomputable abbrev core_S2 (y1 y2 y3 y4 y5 y6 y7 : Int) (y8 : Value) (y9 : L3) (y10 : Int) (y11 y12 y13 : L3) (y14 : Int) (y15 y16 y17 : L3) (y18 : List Int) : St := St.mk (none :: some (SV.ptr (nat_lit 0) (nat_lit 0)) :: some (SV.ptr (nat_lit 1) (nat_lit 0)) :: none :: none :: some (SV.ptr (nat_lit 5) (nat_lit 0)) :: nn 45 (some (SV.sl (nat_lit 9)) :: some (SV.int .i64 y1) :: some (SV.int .i64 y2) :: nn 53 ([]))) [.cells [SV.int .i64 y3, SV.int .i64 y4, SV.int .i64 y5, SV.int .i64 y6, SV.int .i64 y7, SV.ros y8 kP y9] (nat_lit 26), .cells [SV.sl (nat_lit 2), SV.sl (nat_lit 3), SV.sl (nat_lit 4), SV.int .i64 y10] (nat_lit 31), .seq kP y11 (nat_lit 23), .seq kP y12 (nat_lit 23), .seq kP y13 (nat_lit 23), .cells [SV.sl (nat_lit 6), SV.sl (nat_lit 7), SV.sl (nat_lit 8), SV.int .i64 y14] (nat_lit 31), .seq kP y15 (nat_lit 23), .seq kP y16 (nat_lit 23), .seq kP y17 (nat_lit 23), .seq (K.int IntKind.i64) y18 (nat_lit 3)]
noncomputable abbrev core_S3 : St := St.mk (none :: some (SV.ptr (nat_lit 0) (nat_lit 0)) :: some (SV.ptr (nat_lit 1) (nat_lit 0)) :: none :: none :: some (SV.ptr (nat_lit 5) (nat_lit 0)) :: none :: some (SV.int .i64 (0 : Int)) :: nn 43 (some (SV.sl (nat_lit 9)) :: some (SV.int .i64 (0 : Int)) :: some (SV.int .i64 (0 : Int)) :: nn 10 (some (SV.sl (nat_lit 10)) :: some (SV.int .i64 (0 : Int)) :: some (SV.int .i64 (0 : Int)) :: nn 40 ([])))) [.cells [SV.int .i64 (0 : Int), SV.int .i64 (0 : Int), SV.int .i64 (0 : Int), SV.int .i64 (0 : Int), SV.int .i64 (0 : Int), SV.ros undef kP []] (nat_lit 26), .cells [SV.sl (nat_lit 2), SV.sl (nat_lit 3), SV.sl (nat_lit 4), SV.int .i64 (0 : Int)] (nat_lit 31), .seq kP [] (nat_lit 23), .seq kP [] (nat_lit 23), .seq kP [] (nat_lit 23), .cells [SV.sl (nat_lit 6), SV.sl (nat_lit 7), SV.sl (nat_lit 8), SV.int .i64 (0 : Int)] (nat_lit 31), .seq kP [] (nat_lit 23), .seq kP [] (nat_lit 23), .seq kP [] (nat_lit 23), .seq (K.int IntKind.i64) [] (nat_lit 3), .seq (K.int IntKind.i64) [] (nat_lit 3)]
noncomputable abbrev core_S4 (y1 : Int) (y2 y3 y4 : L3) (y5 : Int) (y6 y7 y8 : L3) : St := St.mk (none :: none :: some (SV.ptr (nat_lit 0) (nat_lit 0)) :: none :: none :: some (SV.ptr (nat_lit 4) (nat_lit 0)) :: nn 101 ([])) [.cells [SV.sl (nat_lit 1), SV.sl (nat_lit 2), SV.sl (nat_lit 3), SV.int .i64 y1] (nat_lit 31), .seq kP y2 (nat_lit 23), .seq kP y3 (nat_lit 23), .seq kP y4 (nat_lit 23), .cells [SV.sl (nat_lit 5), SV.sl (nat_lit 6), SV.sl (nat_lit 7), SV.int .i64 y5] (nat_lit 31), .seq kP y6 (nat_lit 23), .seq kP y7 (nat_lit 23), .seq kP y8 (nat_lit 23)]
noncomputable abbrev core_S5 : St := St.mk (none :: some (SV.ptr (nat_lit 0) (nat_lit 0)) :: some (SV.ptr (nat_lit 1) (nat_lit 0)) :: none :: none :: some (SV.ptr (nat_lit 5) (nat_lit 0)) :: nn 45 (some (SV.sl (nat_lit 9)) :: some (SV.int .i64 (0 : Int)) :: some (SV.int .i64 (0 : Int)) :: nn 53 ([]))) [.cells [SV.int .i64 (0 : Int), SV.int .i64 (0 : Int), SV.int .i64 (0 : Int), SV.int .i64 (0 : Int), SV.int .i64 (0 : Int), SV.ros undef kP []] (nat_lit 26), .cells [SV.sl (nat_lit 2), SV.sl (nat_lit 3), SV.sl (nat_lit 4), SV.int .i64 (0 : Int)] (nat_lit 31), .seq kP [] (nat_lit 23), .seq kP [] (nat_lit 23), .seq kP [] (nat_lit 23), .cells [SV.sl (nat_lit 6), SV.sl (nat_lit 7), SV.sl (nat_lit 8), SV.int .i64 (0 : Int)] (nat_lit 31), .seq kP [] (nat_lit 23), .seq kP [] (nat_lit 23), .seq kP [] (nat_lit 23), .seq (K.int IntKind.i64) [] (nat_lit 3)]
noncomputable abbrev core_S6 (y1 y2 y3 y4 y5 y6 y7 y8 y9 y10 y11 y12 : Int) (y13 : Value) (y14 y15 y16 y17 : L3) (y18 : Int) (y19 y20 y21 : L3) (y22 : Int) (y23 y24 y25 y26 y27 : L3) : St := St.mk (some (SV.ptr (nat_lit 8) (nat_lit 0)) :: none :: some (SV.sl (nat_lit 13)) :: some (SV.int .i64 y1) :: some (SV.int .i64 y2) :: some (SV.int .i64 y3) :: nn 10 (some (SV.int .i64 y4) :: some (SV.int .i64 y5) :: nn 114 (some (SV.sl (nat_lit 16)) :: some (SV.int .i64 y6) :: some (SV.int .i64 y7) :: nn 35 ([])))) [.cells [SV.int .i64 y8, SV.int .i64 y9, SV.int .i64 y10, SV.int .i64 y11, SV.int .i64 y12, SV.ros y13 kP y14] (nat_lit 26), .seq kP y15 (nat_lit 23), .seq kP y16 (nat_lit 23), .seq kP y17 (nat_lit 23), .cells [SV.sl (nat_lit 1), SV.sl (nat_lit 2), SV.sl (nat_lit 3), SV.int .i64 y18] (nat_lit 31), .seq kP y19 (nat_lit 23), .seq kP y20 (nat_lit 23), .seq kP y21 (nat_lit 23), .cells [SV.sl (nat_lit 13), SV.sl (nat_lit 14), SV.sl (nat_lit 15), SV.int .i64 y22] (nat_lit 31), .seq kP y23 (nat_lit 23), SObj.dead, SObj.dead, SObj.dead, .seq kP y24 (nat_lit 23), .seq kP y25 (nat_lit 23), .seq kP y26 (nat_lit 23), .seq kP y27 (nat_lit 23)]
noncomputable abbrev core_S7 (y1 y2 y3 y4 y5 y6 y7 y8 y9 y10 : Int) (y11 : Value) (y12 y13 y14 y15 : L3) (y16 : Int) (y17 y18 y19 : L3) (y20 : Int) (y21 y22 y23 y24 : L3) : St := St.mk (some (SV.ptr (nat_lit 8) (nat_lit 0)) :: none :: some (SV.sl (nat_lit 13)) :: some (SV.int .i64 y1) :: some (SV.int .i64 y2) :: some (SV.int .i64 y3) :: nn 10 (some (SV.int .i64 y4) :: some (SV.int .i64 y5) :: nn 152 ([]))) [.cells [SV.int .i64 y6, SV.int .i64 y7, SV.int .i64 y8, SV.int .i64 y9, SV.int .i64 y10, SV.ros y11 kP y12] (nat_lit 26), .seq kP y13 (nat_lit 23), .seq kP y14 (nat_lit 23), .seq kP y15 (nat_lit 23), .cells [SV.sl (nat_lit 1), SV.sl (nat_lit 2), SV.sl (nat_lit 3), SV.int .i64 y16] (nat_lit 31), .seq kP y17 (nat_lit 23), .seq kP y18 (nat_lit 23), .seq kP y19 (nat_lit 23), .cells [SV.sl (nat_lit 13), SV.sl (nat_lit 14), SV.sl (nat_lit 15), SV.int .i64 y20] (nat_lit 31), .seq kP y21 (nat_lit 23), SObj.dead, SObj.dead, SObj.dead, .seq kP y22 (nat_lit 23), .seq kP y23 (nat_lit 23), .seq kP y24 (nat_lit 23)]
noncomputable abbrev core_S8 : St := St.mk (some (SV.ptr (nat_lit 8) (nat_lit 0)) :: none :: some (SV.sl (nat_lit 13)) :: some (SV.int .i64 (0 : Int)) :: some (SV.int .i64 (0 : Int)) :: some (SV.int .i64 (0 : Int)) :: nn 10 (some (SV.int .i64 (0 : Int)) :: some (SV.int .i64 (0 : Int)) :: nn 114 (some (SV.sl (nat_lit 16)) :: some (SV.int .i64 (0 : Int)) :: some (SV.int .i64 (0 : Int)) :: nn 35 ([])))) [.cells [SV.int .i64 (0 : Int), SV.int .i64 (0 : Int), SV.int .i64 (0 : Int), SV.int .i64 (0 : Int), SV.int .i64 (0 : Int), SV.ros undef kP []] (nat_lit 26), .seq kP [] (nat_lit 23), .seq kP [] (nat_lit 23), .seq kP [] (nat_lit 23), .cells [SV.sl (nat_lit 1), SV.sl (nat_lit 2), SV.sl (nat_lit 3), SV.int .i64 (0 : Int)] (nat_lit 31), .seq kP [] (nat_lit 23), .seq kP [] (nat_lit 23), .seq kP [] (nat_lit 23), .cells [SV.sl (nat_lit 13), SV.sl (nat_lit 14), SV.sl (nat_lit 15), SV.int .i64 (0 : Int)] (nat_lit 31), .seq kP [] (nat_lit 23), SObj.dead, SObj.dead, SObj.dead, .seq kP [] (nat_lit 23), .seq kP [] (nat_lit 23), .seq kP [] (nat_lit 23), .seq kP [] (nat_lit 23)]
noncomputable abbrev core_S9 (y1 y2 y3 y4 y5 y6 y7 y8 y9 : Int) (y10 : Value) (y11 y12 y13 y14 : L3) (y15 : Int) (y16 y17 y18 : L3) (y19 : Int) (y20 y21 y22 y23 : L3) : St := St.mk (some (SV.ptr (nat_lit 8) (nat_lit 0)) :: none :: some (SV.sl (nat_lit 13)) :: some (SV.int .i64 y1) :: some (SV.int .i64 y2) :: nn 11 (some (SV.int .i64 y3) :: some (SV.int .i64 y4) :: nn 152 ([]))) [.cells [SV.int .i64 y5, SV.int .i64 y6, SV.int .i64 y7, SV.int .i64 y8, SV.int .i64 y9, SV.ros y10 kP y11] (nat_lit 26), .seq kP y12 (nat_lit 23), .seq kP y13 (nat_lit 23), .seq kP y14 (nat_lit 23), .cells [SV.sl (nat_lit 1), SV.sl (nat_lit 2), SV.sl (nat_lit 3), SV.int .i64 y15] (nat_lit 31), .seq kP y16 (nat_lit 23), .seq kP y17 (nat_lit 23), .seq kP y18 (nat_lit 23), .cells [SV.sl (nat_lit 13), SV.sl (nat_lit 14), SV.sl (nat_lit 15), SV.int .i64 y19] (nat_lit 31), .seq kP y20 (nat_lit 23), SObj.dead, SObj.dead, SObj.dead, .seq kP y21 (nat_lit 23), .seq kP y22 (nat_lit 23), .seq kP y23 (nat_lit 23)]
noncomputable abbrev core_S10 : St := St.mk (some (SV.ptr (nat_lit 8) (nat_lit 0)) :: none :: some (SV.sl (nat_lit 13)) :: some (SV.int .i64 (0 : Int)) :: some (SV.int .i64 (0 : Int)) :: some (SV.int .i64 (0 : Int)) :: nn 10 (some (SV.int .i64 (0 : Int)) :: some (SV.int .i64 (0 : Int)) :: nn 152 ([]))) [.cells [SV.int .i64 (0 : Int), SV.int .i64 (0 : Int), SV.int .i64 (0 : Int), SV.int .i64 (0 : Int), SV.int .i64 (0 : Int), SV.ros undef kP []] (nat_lit 26), .seq kP [] (nat_lit 23), .seq kP [] (nat_lit 23), .seq kP [] (nat_lit 23), .cells [SV.sl (nat_lit 1), SV.sl (nat_lit 2), SV.sl (nat_lit 3), SV.int .i64 (0 : Int)] (nat_lit 31), .seq kP [] (nat_lit 23), .seq kP [] (nat_lit 23), .seq kP [] (nat_lit 23), .cells [SV.sl (nat_lit 13), SV.sl (nat_lit 14), SV.sl (nat_lit 15), SV.int .i64 (0 : Int)] (nat_lit 31), .seq kP [] (nat_lit 23), SObj.dead, SObj.dead, SObj.dead, .seq kP [] (nat_lit 23), .seq kP [] (nat_lit 23), .seq kP [] (nat_lit 23)]
noncomputable abbrev core_S11 (y1 y2 y3 y4 y5 y6 y7 : Int) (y8 : Value) (y9 y10 y11 y12 : L3) (y13 : Int) (y14 y15 y16 : L3) (y17 : Int) (y18 y19 y20 y21 : L3) : St := St.mk (some (SV.ptr (nat_lit 8) (nat_lit 0)) :: none :: some (SV.sl (nat_lit 13)) :: nn 13 (some (SV.int .i64 y1) :: some (SV.int .i64 y2) :: nn 152 ([]))) [.cells [SV.int .i64 y3, SV.int .i64 y4, SV.int .i64 y5, SV.int .i64 y6, SV.int .i64 y7, SV.ros y8 kP y9] (nat_lit 26), .seq kP y10 (nat_lit 23), .seq kP y11 (nat_lit 23), .seq kP y12 (nat_lit 23), .cells [SV.sl (nat_lit 1), SV.sl (nat_lit 2), SV.sl (nat_lit 3), SV.int .i64 y13] (nat_lit 31), .seq kP y14 (nat_lit 23), .seq kP y15 (nat_lit 23), .seq kP y16 (nat_lit 23), .cells [SV.sl (nat_lit 13), SV.sl (nat_lit 14), SV.sl (nat_lit 15), SV.int .i64 y17] (nat_lit 31), .seq kP y18 (nat_lit 23), SObj.dead, SObj.dead, SObj.dead, .seq kP y19 (nat_lit 23), .seq kP y20 (nat_lit 23), .seq kP y21 (nat_lit 23)]
noncomputable abbrev core_S12 : St := St.mk (some (SV.ptr (nat_lit 8) (nat_lit 0)) :: none :: some (SV.sl (nat_lit 13)) :: some (SV.int .i64 (0 : Int)) :: some (SV.int .i64 (0 : Int)) :: nn 11 (some (SV.int .i64 (0 : Int)) :: some (SV.int .i64 (0 : Int)) :: nn 152 ([]))) [.cells [SV.int .i64 (0 : Int), SV.int .i64 (0 : Int), SV.int .i64 (0 : Int), SV.int .i64 (0 : Int), SV.int .i64 (0 : Int), SV.ros undef kP []] (nat_lit 26), .seq kP [] (nat_lit 23), .seq kP [] (nat_lit 23), .seq kP [] (nat_lit 23), .cells [SV.sl (nat_lit 1), SV.sl (nat_lit 2), SV.sl (nat_lit 3), SV.int .i64 (0 : Int)] (nat_lit 31), .seq kP [] (nat_lit 23), .seq kP [] (nat_lit 23), .seq kP [] (nat_lit 23), .cells [SV.sl (nat_lit 13), SV.sl (nat_lit 14), SV.sl (nat_lit 15), SV.int .i64 (0 : Int)] (nat_lit 31), .seq kP [] (nat_lit 23), SObj.dead, SObj.dead, SObj.dead, .seq kP [] (nat_lit 23), .seq kP [] (nat_lit 23), .seq kP [] (nat_lit 23)]
noncomputable abbrev core_S13 (y1 y2 y3 y4 y5 : Int) (y6 : Value) (y7 y8 y9 y10 : L3) (y11 : Int) (y12 y13 y14 : L3) (y15 : Int) (y16 y17 y18 y19 : L3) : St := St.mk (nn 170 ([])) [.cells [SV.int .i64 y1, SV.int .i64 y2, SV.int .i64 y3, SV.int .i64 y4, SV.int .i64 y5, SV.ros y6 kP y7] (nat_lit 26), .seq kP y8 (nat_lit 23), .seq kP y9 (nat_lit 23), .seq kP y10 (nat_lit 23), .cells [SV.sl (nat_lit 1), SV.sl (nat_lit 2), SV.sl (nat_lit 3), SV.int .i64 y11] (nat_lit 31), .seq kP y12 (nat_lit 23), .seq kP y13 (nat_lit 23), .seq kP y14 (nat_lit 23), .cells [SV.sl (nat_lit 13), SV.sl (nat_lit 14), SV.sl (nat_lit 15), SV.int .i64 y15] (nat_lit 31), .seq kP y16 (nat_lit 23), SObj.dead, SObj.dead, SObj.dead, .seq kP y17 (nat_lit 23), .seq kP y18 (nat_lit 23), .seq kP y19 (nat_lit 23)]
noncomputable abbrev core_S14 : St := St.mk (some (SV.ptr (nat_lit 8) (nat_lit 0)) :: none :: some (SV.sl (nat_lit 13)) :: nn 13 (some (SV.int .i64 (0 : Int)) :: some (SV.int .i64 (0 : Int)) :: nn 152 ([]))) [.cells [SV.int .i64 (0 : Int), SV.int .i64 (0 : Int), SV.int .i64 (0 : Int), SV.int .i64 (0 : Int), SV.int .i64 (0 : Int), SV.ros undef kP []] (nat_lit 26), .seq kP [] (nat_lit 23), .seq kP [] (nat_lit 23), .seq kP [] (nat_lit 23), .cells [SV.sl (nat_lit 1), SV.sl (nat_lit 2), SV.sl (nat_lit 3), SV.int .i64 (0 : Int)] (nat_lit 31), .seq kP [] (nat_lit 23), .seq kP [] (nat_lit 23), .seq kP [] (nat_lit 23), .cells [SV.sl (nat_lit 13), SV.sl (nat_lit 14), SV.sl (nat_lit 15), SV.int .i64 (0 : Int)] (nat_lit 31), .seq kP [] (nat_lit 23), SObj.dead, SObj.dead, SObj.dead, .seq kP [] (nat_lit 23), .seq kP [] (nat_lit 23), .seq kP [] (nat_lit 23)]
abbrev core_P1 : List Bool := [false, true, true, true, true, true, true, false, false, false, false, true, true, false, false, false, true, false, false, true, true, false, false, true, true, false, false, true, true, true, false]
abbrev core_P2 : List Bool := [false, true, true, false, false, true, true, false, false, true, false, false, true, true, true, true, true, false, true, false, true, true, true]
abbrev core_P3 : List Bool := [false, true, true, false, false, false, true, false, false, true, true, false, false, true, true, false, false, true, true, true, false]
abbrev core_P4 : List Bool := [false, true, false, false, true, true, true, true, true, false, true, false, true, true, true]
abbrev core_P5 : List Bool := [false, true, true, false, false, true, true, false, false, true, true, true, false]
noncomputable def _root_.Go.Proofs.Ytkjellhkamfciaa.M.core_l0_step {α : Type} (x59 : Int) (x62 : Int) (x68 : Int) (x80 : List Int) (kn : Int → L3 → Option α) (k1 : L3 → Option α) (x63 : Int) (x76 : L3) : Option α :=
  if cLt x63 x62 = true then if (0 : Int) ≤ x63 ∧ x63 < (↑(List.length x80) : Int) then if (List.length x76 + ((1 : Nat) + (1 : Nat))) * (24 : Nat) ≤ (140737488355328 : Nat) then kn (IntKind.wrap .i64 (x63 + (1 : Int))) (x76 ++ [(x59, List.getD x80 (Int.toNat x63) (0 : Int), IntKind.wrap .i64 ((0 : Int) - x68)), (x59, List.getD x80 (Int.toNat x63) (0 : Int), x68)]) else none else none else k1 x76
noncomputable def _root_.Go.Proofs.Ytkjellhkamfciaa.M.core_l0 {α : Type} (x59 : Int) (x62 : Int) (x68 : Int) (x80 : List Int) (k1 : L3 → Option α) : Nat → Int → L3 → Option α
  | 0, _, _ => none
  | n + 1, x63, x76 => M.core_l0_step x59 x62 x68 x80 (M.core_l0 x59 x62 x68 x80 k1 n) k1 x63 x76
theorem core_l0_step_eq {α : Type} (x59 : Int) (x60 : Int) (x61 : Int) (x62 : Int) (x63 : Int) (x64 : Int) (x65 : Int) (x66 : Int) (x67 : Int) (x68 : Int) (x69 : Value) (x70 : L3) (x71 : Int) (x72 : L3) (x73 : L3) (x74 : L3) (x75 : Int) (x76 : L3) (x77 : L3) (x78 : L3) (x79 : List Int) (x80 : List Int) (Q : Ex → St → Option α) : (loopStep E (exec E look_check noLps 400) 13 core_P2 0 (codeAt E.P 13 core_P2)) (core_S1 x59 x60 x61 x62 x63 x64 x65 x66 x67 x68 x69 x70 x71 x72 x73 x74 x75 x76 x77 x78 x79 x80) Q = M.core_l0_step x59 x62 x68 x80 (fun (x82 : Int) (x83 : L3) => Q .normal (core_S1 x59 x60 x61 x62 x82 x64 x65 x66 x67 x68 x69 x70 x71 x72 x73 x74 x75 x83 x77 x78 x79 x80)) (fun (x81 : L3) => Q (.exit 3) (core_S2 x60 x61 x64 x65 x66 x67 x68 x69 x70 x71 x72 x73 x74 x75 x81 x77 x78 x79)) x63 x76 := by kernel_rfl
theorem core_l0_iter {α : Type} (x59 : Int) (x60 : Int) (x61 : Int) (x62 : Int) (x64 : Int) (x65 : Int) (x66 : Int) (x67 : Int) (x68 : Int) (x69 : Value) (x70 : L3) (x71 : Int) (x72 : L3) (x73 : L3) (x74 : L3) (x75 : Int) (x77 : L3) (x78 : L3) (x79 : List Int) (x80 : List Int) (Q : Ex → St → Option α) : ∀ (n : Nat) (x63 : Int) (x76 : L3), iter (loopStep E (exec E look_check noLps 400) 13 core_P2 0 (codeAt E.P 13 core_P2)) n (core_S1 x59 x60 x61 x62 x63 x64 x65 x66 x67 x68 x69 x70 x71 x72 x73 x74 x75 x76 x77 x78 x79 x80) Q = M.core_l0 x59 x62 x68 x80 (fun (x81 : L3) => Q (.exit 3) (core_S2 x60 x61 x64 x65 x66 x67 x68 x69 x70 x71 x72 x73 x74 x75 x81 x77 x78 x79)) n x63 x76
  | 0, _, _ => rfl
  | n + 1, x63, x76 => (core_l0_step_eq x59 x60 x61 x62 x63 x64 x65 x66 x67 x68 x69 x70 x71 x72 x73 x74 x75 x76 x77 x78 x79 x80 (iterK (loopStep E (exec E look_check noLps 400) 13 core_P2 0 (codeAt E.P 13 core_P2)) n Q)).trans (congrArg (fun kn => M.core_l0_step x59 x62 x68 x80 kn (fun (x81 : L3) => Q (.exit 3) (core_S2 x60 x61 x64 x65 x66 x67 x68 x69 x70 x71 x72 x73 x74 x75 x81 x77 x78 x79)) x63 x76) (funext fun x63 => funext fun x76 => core_l0_iter x59 x60 x61 x62 x64 x65 x66 x67 x68 x69 x70 x71 x72 x73 x74 x75 x77 x78 x79 x80 Q n x63 x76))
noncomputable def core_l0_go {α : Type} (ds : List D) (Q : Ex → St → Option α) : Option α :=
  dI ds fun x59 ds => dI ds fun x60 ds => dI ds fun x61 ds => dI ds fun x62 ds => dI ds fun x63 ds => dI ds fun x64 ds => dI ds fun x65 ds => dI ds fun x66 ds => dI ds fun x67 ds => dI ds fun x68 ds => dV ds fun x69 ds => dL kP ds fun x70 ds => dI ds fun x71 ds => dL kP ds fun x72 ds => dL kP ds fun x73 ds => dL kP ds fun x74 ds => dI ds fun x75 ds => dL kP ds fun x76 ds => dL kP ds fun x77 ds => dL kP ds fun x78 ds => dL (K.int IntKind.i64) ds fun x79 ds => dL (K.int IntKind.i64) ds fun x80 ds => dE ds (M.core_l0 x59 x62 x68 x80 (fun (x81 : L3) => Q (.exit 3) (core_S2 x60 x61 x64 x65 x66 x67 x68 x69 x70 x71 x72 x73 x74 x75 x81 x77 x78 x79)) (100 + x70.length + x72.length + x73.length + x74.length + x76.length + x77.length + x78.length + x79.length + x80.length) x63 x76)
theorem core_l0_ok {α : Type} : LoopOk E.P 13 core_P2 0 (lEnt (α := α) (core_S3) core_l0_go) :=
  lEnt_ok E (exec_sound E E_ok (look_check_ok) (noLps_ok _) 400) fun ds Q r h S hS => by
    unfold core_l0_go at h
    obtain ⟨x59, ds, rfl, h1⟩ := dI_inv h
    obtain ⟨x60, ds, rfl, h2⟩ := dI_inv h1
    obtain ⟨x61, ds, rfl, h3⟩ := dI_inv h2
    obtain ⟨x62, ds, rfl, h4⟩ := dI_inv h3
    obtain ⟨x63, ds, rfl, h5⟩ := dI_inv h4
    obtain ⟨x64, ds, rfl, h6⟩ := dI_inv h5
    obtain ⟨x65, ds, rfl, h7⟩ := dI_inv h6
    obtain ⟨x66, ds, rfl, h8⟩ := dI_inv h7
    obtain ⟨x67, ds, rfl, h9⟩ := dI_inv h8
    obtain ⟨x68, ds, rfl, h10⟩ := dI_inv h9
    obtain ⟨x69, ds, rfl, h11⟩ := dV_inv h10
    obtain ⟨x70, ds, rfl, h12⟩ := dL_inv h11
    obtain ⟨x71, ds, rfl, h13⟩ := dI_inv h12
    obtain ⟨x72, ds, rfl, h14⟩ := dL_inv h13
    obtain ⟨x73, ds, rfl, h15⟩ := dL_inv h14
    obtain ⟨x74, ds, rfl, h16⟩ := dL_inv h15
    obtain ⟨x75, ds, rfl, h17⟩ := dI_inv h16
    obtain ⟨x76, ds, rfl, h18⟩ := dL_inv h17
    obtain ⟨x77, ds, rfl, h19⟩ := dL_inv h18
    obtain ⟨x78, ds, rfl, h20⟩ := dL_inv h19
    obtain ⟨x79, ds, rfl, h21⟩ := dL_inv h20
    obtain ⟨x80, ds, rfl, h22⟩ := dL_inv h21
    obtain ⟨rfl, hE⟩ := dE_inv h22
    have e : fillS (core_S3) [.i x59, .i x60, .i x61, .i x62, .i x63, .i x64, .i x65, .i x66, .i x67, .i x68, .v x69, .l kP x70, .i x71, .l kP x72, .l kP x73, .l kP x74, .i x75, .l kP x76, .l kP x77, .l kP x78, .l (K.int IntKind.i64) x79, .l (K.int IntKind.i64) x80] = some (core_S1 x59 x60 x61 x62 x63 x64 x65 x66 x67 x68 x69 x70 x71 x72 x73 x74 x75 x76 x77 x78 x79 x80) := by kernel_rfl
    rw [e] at hS
    cases hS
    exact ⟨_, (core_l0_iter x59 x60 x61 x62 x64 x65 x66 x67 x68 x69 x70 x71 x72 x73 x74 x75 x77 x78 x79 x80 Q _ x63 x76).trans hE⟩
noncomputable def core_l0_lps {α : Type} : LookL α := addLp 13 core_P2 0 (lEnt (core_S3) core_l0_go) noLps
theorem core_l0_lps_ok {α : Type} : LoopsOk E.P (core_l0_lps (α := α)) := addLp_ok core_l0_ok (noLps_ok _)

noncomputable def _root_.Go.Proofs.Ytkjellhkamfciaa.M.core_l1_step {α : Type} (x84 : Int) (x89 : Int) (x90 : Int) (x92 : L3) (x94 : L3) (x95 : L3) (x96 : L3) (x99 : L3) (x100 : L3) (x101 : List Int) (kn : Int → L3 → Option α) (k1 : L3 → Option α) (x85 : Int) (x98 : L3) : Option α :=
  if cLt x85 x84 = true then
  if (0 : Int) ≤ x85 ∧ x85 < (↑(List.length x101) : Int) then M.core_l0 (List.getD x101 (Int.toNat x85) (0 : Int)) (↑((1 : Nat) + (1 : Nat)) : Int) x90 [IntKind.wrap .i64 ((0 : Int) - x89), x89] (fun (x102 : L3) ↦ kn (IntKind.wrap .i64 (x85 + (1 : Int))) x102) ((100 : Nat) + List.length x92 + List.length x94 + List.length x95 + List.length x96 + List.length x98 + List.length x99 + List.length x100 + List.length x101 + ((1 : Nat) + (1 : Nat))) (0 : Int) x98
  else none
else k1 x98
noncomputable def _root_.Go.Proofs.Ytkjellhkamfciaa.M.core_l1 {α : Type} (x84 : Int) (x89 : Int) (x90 : Int) (x92 : L3) (x94 : L3) (x95 : L3) (x96 : L3) (x99 : L3) (x100 : L3) (x101 : List Int) (k1 : L3 → Option α) : Nat → Int → L3 → Option α
  | 0, _, _ => none
  | n + 1, x85, x98 => M.core_l1_step x84 x89 x90 x92 x94 x95 x96 x99 x100 x101 (M.core_l1 x84 x89 x90 x92 x94 x95 x96 x99 x100 x101 k1 n) k1 x85 x98
theorem core_l1_step_eq {α : Type} (x84 : Int) (x85 : Int) (x86 : Int) (x87 : Int) (x88 : Int) (x89 : Int) (x90 : Int) (x91 : Value) (x92 : L3) (x93 : Int) (x94 : L3) (x95 : L3) (x96 : L3) (x97 : Int) (x98 : L3) (x99 : L3) (x100 : L3) (x101 : List Int) (Q : Ex → St → Option α) : (loopStep E (exec E look_check core_l0_lps 400) 13 core_P4 0 (codeAt E.P 13 core_P4)) (core_S2 x84 x85 x86 x87 x88 x89 x90 x91 x92 x93 x94 x95 x96 x97 x98 x99 x100 x101) Q = M.core_l1_step x84 x89 x90 x92 x94 x95 x96 x99 x100 x101 (fun (x104 : Int) (x105 : L3) => Q .normal (core_S2 x84 x104 x86 x87 x88 x89 x90 x91 x92 x93 x94 x95 x96 x97 x105 x99 x100 x101)) (fun (x103 : L3) => Q (.exit 1) (core_S4 x93 x94 x95 x96 x97 x103 x99 x100)) x85 x98 := by kernel_rfl
theorem core_l1_iter {α : Type} (x84 : Int) (x86 : Int) (x87 : Int) (x88 : Int) (x89 : Int) (x90 : Int) (x91 : Value) (x92 : L3) (x93 : Int) (x94 : L3) (x95 : L3) (x96 : L3) (x97 : Int) (x99 : L3) (x100 : L3) (x101 : List Int) (Q : Ex → St → Option α) : ∀ (n : Nat) (x85 : Int) (x98 : L3), iter (loopStep E (exec E look_check core_l0_lps 400) 13 core_P4 0 (codeAt E.P 13 core_P4)) n (core_S2 x84 x85 x86 x87 x88 x89 x90 x91 x92 x93 x94 x95 x96 x97 x98 x99 x100 x101) Q = M.core_l1 x84 x89 x90 x92 x94 x95 x96 x99 x100 x101 (fun (x103 : L3) => Q (.exit 1) (core_S4 x93 x94 x95 x96 x97 x103 x99 x100)) n x85 x98
  | 0, _, _ => rfl
  | n + 1, x85, x98 => (core_l1_step_eq x84 x85 x86 x87 x88 x89 x90 x91 x92 x93 x94 x95 x96 x97 x98 x99 x100 x101 (iterK (loopStep E (exec E look_check core_l0_lps 400) 13 core_P4 0 (codeAt E.P 13 core_P4)) n Q)).trans (congrArg (fun kn => M.core_l1_step x84 x89 x90 x92 x94 x95 x96 x99 x100 x101 kn (fun (x103 : L3) => Q (.exit 1) (core_S4 x93 x94 x95 x96 x97 x103 x99 x100)) x85 x98) (funext fun x85 => funext fun x98 => core_l1_iter x84 x86 x87 x88 x89 x90 x91 x92 x93 x94 x95 x96 x97 x99 x100 x101 Q n x85 x98))
noncomputable def core_l1_go {α : Type} (ds : List D) (Q : Ex → St → Option α) : Option α :=
  dI ds fun x84 ds => dI ds fun x85 ds => dI ds fun x86 ds => dI ds fun x87 ds => dI ds fun x88 ds => dI ds fun x89 ds => dI ds fun x90 ds => dV ds fun x91 ds => dL kP ds fun x92 ds => dI ds fun x93 ds => dL kP ds fun x94 ds => dL kP ds fun x95 ds => dL kP ds fun x96 ds => dI ds fun x97 ds => dL kP ds fun x98 ds => dL kP ds fun x99 ds => dL kP ds fun x100 ds => dL (K.int IntKind.i64) ds fun x101 ds => dE ds (M.core_l1 x84 x89 x90 x92 x94 x95 x96 x99 x100 x101 (fun (x103 : L3) => Q (.exit 1) (core_S4 x93 x94 x95 x96 x97 x103 x99 x100)) (100 + x92.length + x94.length + x95.length + x96.length + x98.length + x99.length + x100.length + x101.length) x85 x98)
theorem core_l1_ok {α : Type} : LoopOk E.P 13 core_P4 0 (lEnt (α := α) (core_S5) core_l1_go) :=
  lEnt_ok E (exec_sound E E_ok (look_check_ok) (core_l0_lps_ok) 400) fun ds Q r h S hS => by
    unfold core_l1_go at h
    obtain ⟨x84, ds, rfl, h1⟩ := dI_inv h
    obtain ⟨x85, ds, rfl, h2⟩ := dI_inv h1
    obtain ⟨x86, ds, rfl, h3⟩ := dI_inv h2
    obtain ⟨x87, ds, rfl, h4⟩ := dI_inv h3
    obtain ⟨x88, ds, rfl, h5⟩ := dI_inv h4
    obtain ⟨x89, ds, rfl, h6⟩ := dI_inv h5
    obtain ⟨x90, ds, rfl, h7⟩ := dI_inv h6
    obtain ⟨x91, ds, rfl, h8⟩ := dV_inv h7
    obtain ⟨x92, ds, rfl, h9⟩ := dL_inv h8
    obtain ⟨x93, ds, rfl, h10⟩ := dI_inv h9
    obtain ⟨x94, ds, rfl, h11⟩ := dL_inv h10
    obtain ⟨x95, ds, rfl, h12⟩ := dL_inv h11
    obtain ⟨x96, ds, rfl, h13⟩ := dL_inv h12
    obtain ⟨x97, ds, rfl, h14⟩ := dI_inv h13
    obtain ⟨x98, ds, rfl, h15⟩ := dL_inv h14
    obtain ⟨x99, ds, rfl, h16⟩ := dL_inv h15
    obtain ⟨x100, ds, rfl, h17⟩ := dL_inv h16
    obtain ⟨x101, ds, rfl, h18⟩ := dL_inv h17
    obtain ⟨rfl, hE⟩ := dE_inv h18
    have e : fillS (core_S5) [.i x84, .i x85, .i x86, .i x87, .i x88, .i x89, .i x90, .v x91, .l kP x92, .i x93, .l kP x94, .l kP x95, .l kP x96, .i x97, .l kP x98, .l kP x99, .l kP x100, .l (K.int IntKind.i64) x101] = some (core_S2 x84 x85 x86 x87 x88 x89 x90 x91 x92 x93 x94 x95 x96 x97 x98 x99 x100 x101) := by kernel_rfl
    rw [e] at hS
    cases hS
    exact ⟨_, (core_l1_iter x84 x86 x87 x88 x89 x90 x91 x92 x93 x94 x95 x96 x97 x99 x100 x101 Q _ x85 x98).trans hE⟩
noncomputable def core_l1_lps {α : Type} : LookL α := addLp 13 core_P4 0 (lEnt (core_S5) core_l1_go) core_l0_lps
theorem core_l1_lps_ok {α : Type} : LoopsOk E.P (core_l1_lps (α := α)) := addLp_ok core_l1_ok (core_l0_lps_ok)

noncomputable def _root_.Go.Proofs.Ytkjellhkamfciaa.M.core_l2_step {α : Type} (x276 : Int) (x297 : L3) (kn : Int → L3 → Option α) (k1 : L3 → Option α) (x277 : Int) (x296 : L3) : Option α :=
  if cLt x277 x276 = true then
  if (0 : Int) ≤ x277 ∧ x277 < (↑(List.length x297) : Int) then
    if V.lenB (List.length x296) = true then
      if (!V.hasP x296 (V.pShort (List.getD x297 (Int.toNat x277) ((0 : Int), (0 : Int), (0 : Int))))) = true then
        if V.lenB (List.length x296) = true then if (!V.hasP x296 (V.pSub ((0 : Int), (0 : Int), (0 : Int)) (V.pShort (List.getD x297 (Int.toNat x277) ((0 : Int), (0 : Int), (0 : Int)))))) = true then if (List.length x296 + ((0 : Nat) + (1 : Nat))) * (24 : Nat) ≤ (140737488355328 : Nat) then kn (IntKind.wrap .i64 (x277 + (1 : Int))) (x296 ++ [V.pShort (List.getD x297 (Int.toNat x277) ((0 : Int), (0 : Int), (0 : Int)))]) else none else kn (IntKind.wrap .i64 (x277 + (1 : Int))) x296
        else none
      else kn (IntKind.wrap .i64 (x277 + (1 : Int))) x296
    else none
  else none
else k1 x296
noncomputable def _root_.Go.Proofs.Ytkjellhkamfciaa.M.core_l2 {α : Type} (x276 : Int) (x297 : L3) (k1 : L3 → Option α) : Nat → Int → L3 → Option α
  | 0, _, _ => none
  | n + 1, x277, x296 => M.core_l2_step x276 x297 (M.core_l2 x276 x297 k1 n) k1 x277 x296
theorem core_l2_step_eq {α : Type} (x271 : Int) (x272 : Int) (x273 : Int) (x274 : Int) (x275 : Int) (x276 : Int) (x277 : Int) (x278 : Int) (x279 : Int) (x280 : Int) (x281 : Int) (x282 : Int) (x283 : Value) (x284 : L3) (x285 : L3) (x286 : L3) (x287 : L3) (x288 : Int) (x289 : L3) (x290 : L3) (x291 : L3) (x292 : Int) (x293 : L3) (x294 : L3) (x295 : L3) (x296 : L3) (x297 : L3) (Q : Ex → St → Option α) : (loopStep E (exec E look_check core_l1_lps 400) 30 core_P1 13 (codeAt E.P 30 core_P1)) (core_S6 x271 x272 x273 x274 x275 x276 x277 x278 x279 x280 x281 x282 x283 x284 x285 x286 x287 x288 x289 x290 x291 x292 x293 x294 x295 x296 x297) Q = M.core_l2_step x276 x297 (fun (x299 : Int) (x300 : L3) => Q .normal (core_S6 x271 x272 x273 x274 x275 x276 x299 x278 x279 x280 x281 x282 x283 x284 x285 x286 x287 x288 x289 x290 x291 x292 x293 x294 x295 x300 x297)) (fun (x298 : L3) => Q (.exit 6) (core_S7 x271 x272 x273 x274 x275 x278 x279 x280 x281 x282 x283 x284 x285 x286 x287 x288 x289 x290 x291 x292 x293 x294 x295 x298)) x277 x296 := by kernel_rfl
theorem core_l2_iter {α : Type} (x271 : Int) (x272 : Int) (x273 : Int) (x274 : Int) (x275 : Int) (x276 : Int) (x278 : Int) (x279 : Int) (x280 : Int) (x281 : Int) (x282 : Int) (x283 : Value) (x284 : L3) (x285 : L3) (x286 : L3) (x287 : L3) (x288 : Int) (x289 : L3) (x290 : L3) (x291 : L3) (x292 : Int) (x293 : L3) (x294 : L3) (x295 : L3) (x297 : L3) (Q : Ex → St → Option α) : ∀ (n : Nat) (x277 : Int) (x296 : L3), iter (loopStep E (exec E look_check core_l1_lps 400) 30 core_P1 13 (codeAt E.P 30 core_P1)) n (core_S6 x271 x272 x273 x274 x275 x276 x277 x278 x279 x280 x281 x282 x283 x284 x285 x286 x287 x288 x289 x290 x291 x292 x293 x294 x295 x296 x297) Q = M.core_l2 x276 x297 (fun (x298 : L3) => Q (.exit 6) (core_S7 x271 x272 x273 x274 x275 x278 x279 x280 x281 x282 x283 x284 x285 x286 x287 x288 x289 x290 x291 x292 x293 x294 x295 x298)) n x277 x296
  | 0, _, _ => rfl
  | n + 1, x277, x296 => (core_l2_step_eq x271 x272 x273 x274 x275 x276 x277 x278 x279 x280 x281 x282 x283 x284 x285 x286 x287 x288 x289 x290 x291 x292 x293 x294 x295 x296 x297 (iterK (loopStep E (exec E look_check core_l1_lps 400) 30 core_P1 13 (codeAt E.P 30 core_P1)) n Q)).trans (congrArg (fun kn => M.core_l2_step x276 x297 kn (fun (x298 : L3) => Q (.exit 6) (core_S7 x271 x272 x273 x274 x275 x278 x279 x280 x281 x282 x283 x284 x285 x286 x287 x288 x289 x290 x291 x292 x293 x294 x295 x298)) x277 x296) (funext fun x277 => funext fun x296 => core_l2_iter x271 x272 x273 x274 x275 x276 x278 x279 x280 x281 x282 x283 x284 x285 x286 x287 x288 x289 x290 x291 x292 x293 x294 x295 x297 Q n x277 x296))
noncomputable def core_l2_go {α : Type} (ds : List D) (Q : Ex → St → Option α) : Option α :=
  dI ds fun x271 ds => dI ds fun x272 ds => dI ds fun x273 ds => dI ds fun x274 ds => dI ds fun x275 ds => dI ds fun x276 ds => dI ds fun x277 ds => dI ds fun x278 ds => dI ds fun x279 ds => dI ds fun x280 ds => dI ds fun x281 ds => dI ds fun x282 ds => dV ds fun x283 ds => dL kP ds fun x284 ds => dL kP ds fun x285 ds => dL kP ds fun x286 ds => dL kP ds fun x287 ds => dI ds fun x288 ds => dL kP ds fun x289 ds => dL kP ds fun x290 ds => dL kP ds fun x291 ds => dI ds fun x292 ds => dL kP ds fun x293 ds => dL kP ds fun x294 ds => dL kP ds fun x295 ds => dL kP ds fun x296 ds => dL kP ds fun x297 ds => dE ds (M.core_l2 x276 x297 (fun (x298 : L3) => Q (.exit 6) (core_S7 x271 x272 x273 x274 x275 x278 x279 x280 x281 x282 x283 x284 x285 x286 x287 x288 x289 x290 x291 x292 x293 x294 x295 x298)) (100 + x284.length + x285.length + x286.length + x287.length + x289.length + x290.length + x291.length + x293.length + x294.length + x295.length + x296.length + x297.length) x277 x296)
theorem core_l2_ok {α : Type} : LoopOk E.P 30 core_P1 13 (lEnt (α := α) (core_S8) core_l2_go) :=
  lEnt_ok E (exec_sound E E_ok (look_check_ok) (core_l1_lps_ok) 400) fun ds Q r h S hS => by
    unfold core_l2_go at h
    obtain ⟨x271, ds, rfl, h1⟩ := dI_inv h
    obtain ⟨x272, ds, rfl, h2⟩ := dI_inv h1
    obtain ⟨x273, ds, rfl, h3⟩ := dI_inv h2
    obtain ⟨x274, ds, rfl, h4⟩ := dI_inv h3
    obtain ⟨x275, ds, rfl, h5⟩ := dI_inv h4
    obtain ⟨x276, ds, rfl, h6⟩ := dI_inv h5
    obtain ⟨x277, ds, rfl, h7⟩ := dI_inv h6
    obtain ⟨x278, ds, rfl, h8⟩ := dI_inv h7
    obtain ⟨x279, ds, rfl, h9⟩ := dI_inv h8
    obtain ⟨x280, ds, rfl, h10⟩ := dI_inv h9
    obtain ⟨x281, ds, rfl, h11⟩ := dI_inv h10
    obtain ⟨x282, ds, rfl, h12⟩ := dI_inv h11
    obtain ⟨x283, ds, rfl, h13⟩ := dV_inv h12
    obtain ⟨x284, ds, rfl, h14⟩ := dL_inv h13
    obtain ⟨x285, ds, rfl, h15⟩ := dL_inv h14
    obtain ⟨x286, ds, rfl, h16⟩ := dL_inv h15
    obtain ⟨x287, ds, rfl, h17⟩ := dL_inv h16
    obtain ⟨x288, ds, rfl, h18⟩ := dI_inv h17
    obtain ⟨x289, ds, rfl, h19⟩ := dL_inv h18
    obtain ⟨x290, ds, rfl, h20⟩ := dL_inv h19
    obtain ⟨x291, ds, rfl, h21⟩ := dL_inv h20
    obtain ⟨x292, ds, rfl, h22⟩ := dI_inv h21
    obtain ⟨x293, ds, rfl, h23⟩ := dL_inv h22
    obtain ⟨x294, ds, rfl, h24⟩ := dL_inv h23
    obtain ⟨x295, ds, rfl, h25⟩ := dL_inv h24
    obtain ⟨x296, ds, rfl, h26⟩ := dL_inv h25
    obtain ⟨x297, ds, rfl, h27⟩ := dL_inv h26
    obtain ⟨rfl, hE⟩ := dE_inv h27
    have e : fillS (core_S8) [.i x271, .i x272, .i x273, .i x274, .i x275, .i x276, .i x277, .i x278, .i x279, .i x280, .i x281, .i x282, .v x283, .l kP x284, .l kP x285, .l kP x286, .l kP x287, .i x288, .l kP x289, .l kP x290, .l kP x291, .i x292, .l kP x293, .l kP x294, .l kP x295, .l kP x296, .l kP x297] = some (core_S6 x271 x272 x273 x274 x275 x276 x277 x278 x279 x280 x281 x282 x283 x284 x285 x286 x287 x288 x289 x290 x291 x292 x293 x294 x295 x296 x297) := by kernel_rfl
    rw [e] at hS
    cases hS
    exact ⟨_, (core_l2_iter x271 x272 x273 x274 x275 x276 x278 x279 x280 x281 x282 x283 x284 x285 x286 x287 x288 x289 x290 x291 x292 x293 x294 x295 x297 Q _ x277 x296).trans hE⟩
noncomputable def core_l2_lps {α : Type} : LookL α := addLp 30 core_P1 13 (lEnt (core_S8) core_l2_go) core_l1_lps
theorem core_l2_lps_ok {α : Type} : LoopsOk E.P (core_l2_lps (α := α)) := addLp_ok core_l2_ok (core_l1_lps_ok)

noncomputable def _root_.Go.Proofs.Ytkjellhkamfciaa.M.core_l3_step {α : Type} (x301 : Int) (x302 : Int) (x312 : L3) (x313 : L3) (x314 : L3) (x315 : L3) (x317 : L3) (x318 : L3) (x319 : L3) (x321 : L3) (x322 : L3) (kn : Int → L3 → L3 → Option α) (k0 : L3 → L3 → Option α) (k1 : L3 → L3 → Option α) (x303 : Int) (x323 : L3) (x324 : L3) : Option α :=
  if cEq x303 (↑(List.length x322) : Int) = true then if cEq x302 (IntKind.wrap .i64 ((↑(List.length x322) : Int) - (1 : Int))) = true then k0 x323 x324 else k1 x323 x324
else
  if (0 : Int) ≤ x302 ∧ x302 < (↑(List.length x322) : Int) then
    if (0 : Int) ≤ x301 ∧ x301 < (↑(List.length x322) : Int) then
      if (0 : Int) ≤ x303 ∧ x303 < (↑(List.length x322) : Int) then
        if (0 : Int) ≤ x301 ∧ x301 < (↑(List.length x322) : Int) then
          if (0 : Int) ≤ x301 ∧ x301 < (↑(List.length x322) : Int) then
            if V.lenB (List.length x322) = true then
              if
                  (cEq (Prod.fst (V.pCross (V.pSub (List.getD x322 (Int.toNat x302) ((0 : Int), (0 : Int), (0 : Int))) (List.getD x322 (Int.toNat x301) ((0 : Int), (0 : Int), (0 : Int)))) (V.pSub (List.getD x322 (Int.toNat x303) ((0 : Int), (0 : Int), (0 : Int))) (List.getD x322 (Int.toNat x301) ((0 : Int), (0 : Int), (0 : Int)))))) (0 : Int) &&
                      (cEq (Prod.fst (Prod.snd (V.pCross (V.pSub (List.getD x322 (Int.toNat x302) ((0 : Int), (0 : Int), (0 : Int))) (List.getD x322 (Int.toNat x301) ((0 : Int), (0 : Int), (0 : Int)))) (V.pSub (List.getD x322 (Int.toNat x303) ((0 : Int), (0 : Int), (0 : Int))) (List.getD x322 (Int.toNat x301) ((0 : Int), (0 : Int), (0 : Int))))))) (0 : Int) &&
                        (cEq (Prod.snd (Prod.snd (V.pCross (V.pSub (List.getD x322 (Int.toNat x302) ((0 : Int), (0 : Int), (0 : Int))) (List.getD x322 (Int.toNat x301) ((0 : Int), (0 : Int), (0 : Int)))) (V.pSub (List.getD x322 (Int.toNat x303) ((0 : Int), (0 : Int), (0 : Int))) (List.getD x322 (Int.toNat x301) ((0 : Int), (0 : Int), (0 : Int))))))) (0 : Int) && true))) =
                    true then
                kn (IntKind.wrap .i64 (x303 + (1 : Int))) x323 x324
              else
                if cEq (V.sideP x322 (V.pCross (V.pSub (List.getD x322 (Int.toNat x302) ((0 : Int), (0 : Int), (0 : Int))) (List.getD x322 (Int.toNat x301) ((0 : Int), (0 : Int), (0 : Int)))) (V.pSub (List.getD x322 (Int.toNat x303) ((0 : Int), (0 : Int), (0 : Int))) (List.getD x322 (Int.toNat x301) ((0 : Int), (0 : Int), (0 : Int))))) (List.getD x322 (Int.toNat x301) ((0 : Int), (0 : Int), (0 : Int)))) (0 : Int) = true then kn (IntKind.wrap .i64 (x303 + (1 : Int))) x323 x324
                else
                  if V.lenB (List.length x323) = true then
                    if
                        (!V.hasP x323
                              (V.pShort
                                (IntKind.wrap .i64
                                    (V.sideP x322 (V.pCross (V.pSub (List.getD x322 (Int.toNat x302) ((0 : Int), (0 : Int), (0 : Int))) (List.getD x322 (Int.toNat x301) ((0 : Int), (0 : Int), (0 : Int)))) (V.pSub (List.getD x322 (Int.toNat x303) ((0 : Int), (0 : Int), (0 : Int))) (List.getD x322 (Int.toNat x301) ((0 : Int), (0 : Int), (0 : Int))))) (List.getD x322 (Int.toNat x301) ((0 : Int), (0 : Int), (0 : Int))) *
                                      Prod.fst (V.pCross (V.pSub (List.getD x322 (Int.toNat x302) ((0 : Int), (0 : Int), (0 : Int))) (List.getD x322 (Int.toNat x301) ((0 : Int), (0 : Int), (0 : Int)))) (V.pSub (List.getD x322 (Int.toNat x303) ((0 : Int), (0 : Int), (0 : Int))) (List.getD x322 (Int.toNat x301) ((0 : Int), (0 : Int), (0 : Int)))))),
                                  IntKind.wrap .i64
                                    (V.sideP x322 (V.pCross (V.pSub (List.getD x322 (Int.toNat x302) ((0 : Int), (0 : Int), (0 : Int))) (List.getD x322 (Int.toNat x301) ((0 : Int), (0 : Int), (0 : Int)))) (V.pSub (List.getD x322 (Int.toNat x303) ((0 : Int), (0 : Int), (0 : Int))) (List.getD x322 (Int.toNat x301) ((0 : Int), (0 : Int), (0 : Int))))) (List.getD x322 (Int.toNat x301) ((0 : Int), (0 : Int), (0 : Int))) *
                                      Prod.fst (Prod.snd (V.pCross (V.pSub (List.getD x322 (Int.toNat x302) ((0 : Int), (0 : Int), (0 : Int))) (List.getD x322 (Int.toNat x301) ((0 : Int), (0 : Int), (0 : Int)))) (V.pSub (List.getD x322 (Int.toNat x303) ((0 : Int), (0 : Int), (0 : Int))) (List.getD x322 (Int.toNat x301) ((0 : Int), (0 : Int), (0 : Int))))))),
                                  IntKind.wrap .i64
                                    (V.sideP x322 (V.pCross (V.pSub (List.getD x322 (Int.toNat x302) ((0 : Int), (0 : Int), (0 : Int))) (List.getD x322 (Int.toNat x301) ((0 : Int), (0 : Int), (0 : Int)))) (V.pSub (List.getD x322 (Int.toNat x303) ((0 : Int), (0 : Int), (0 : Int))) (List.getD x322 (Int.toNat x301) ((0 : Int), (0 : Int), (0 : Int))))) (List.getD x322 (Int.toNat x301) ((0 : Int), (0 : Int), (0 : Int))) *
                                      Prod.snd (Prod.snd (V.pCross (V.pSub (List.getD x322 (Int.toNat x302) ((0 : Int), (0 : Int), (0 : Int))) (List.getD x322 (Int.toNat x301) ((0 : Int), (0 : Int), (0 : Int)))) (V.pSub (List.getD x322 (Int.toNat x303) ((0 : Int), (0 : Int), (0 : Int))) (List.getD x322 (Int.toNat x301) ((0 : Int), (0 : Int), (0 : Int)))))))))) =
                          true then
                      if (List.length x323 + ((0 : Nat) + (1 : Nat))) * (24 : Nat) ≤ (140737488355328 : Nat) then
                        if (0 : Int) ≤ x302 ∧ x302 < (↑(List.length x322) : Int) then
                          if (0 : Int) ≤ x301 ∧ x301 < (↑(List.length x322) : Int) then
                            if (0 : Int) ≤ x303 ∧ x303 < (↑(List.length x322) : Int) then
                              if (0 : Int) ≤ x301 ∧ x301 < (↑(List.length x322) : Int) then
                                if (0 : Int) ≤ x303 ∧ x303 < (↑(List.length x322) : Int) then
                                  if (0 : Int) ≤ x302 ∧ x302 < (↑(List.length x322) : Int) then
                                    M.core_l2 (↑((2 : Nat) + (1 : Nat)) : Int)
                                      [V.pSub (List.getD x322 (Int.toNat x302) ((0 : Int), (0 : Int), (0 : Int))) (List.getD x322 (Int.toNat x301) ((0 : Int), (0 : Int), (0 : Int))), V.pSub (List.getD x322 (Int.toNat x303) ((0 : Int), (0 : Int), (0 : Int))) (List.getD x322 (Int.toNat x301) ((0 : Int), (0 : Int), (0 : Int))), V.pSub (List.getD x322 (Int.toNat x303) ((0 : Int), (0 : Int), (0 : Int))) (List.getD x322 (Int.toNat x302) ((0 : Int), (0 : Int), (0 : Int)))]
                                      (fun (x325 : L3) ↦
                                        kn (IntKind.wrap .i64 (x303 + (1 : Int)))
                                          (x323 ++
                                            [V.pShort
                                                (IntKind.wrap .i64
                                                    (V.sideP x322 (V.pCross (V.pSub (List.getD x322 (Int.toNat x302) ((0 : Int), (0 : Int), (0 : Int))) (List.getD x322 (Int.toNat x301) ((0 : Int), (0 : Int), (0 : Int)))) (V.pSub (List.getD x322 (Int.toNat x303) ((0 : Int), (0 : Int), (0 : Int))) (List.getD x322 (Int.toNat x301) ((0 : Int), (0 : Int), (0 : Int))))) (List.getD x322 (Int.toNat x301) ((0 : Int), (0 : Int), (0 : Int))) *
                                                      Prod.fst (V.pCross (V.pSub (List.getD x322 (Int.toNat x302) ((0 : Int), (0 : Int), (0 : Int))) (List.getD x322 (Int.toNat x301) ((0 : Int), (0 : Int), (0 : Int)))) (V.pSub (List.getD x322 (Int.toNat x303) ((0 : Int), (0 : Int), (0 : Int))) (List.getD x322 (Int.toNat x301) ((0 : Int), (0 : Int), (0 : Int)))))),
                                                  IntKind.wrap .i64
                                                    (V.sideP x322 (V.pCross (V.pSub (List.getD x322 (Int.toNat x302) ((0 : Int), (0 : Int), (0 : Int))) (List.getD x322 (Int.toNat x301) ((0 : Int), (0 : Int), (0 : Int)))) (V.pSub (List.getD x322 (Int.toNat x303) ((0 : Int), (0 : Int), (0 : Int))) (List.getD x322 (Int.toNat x301) ((0 : Int), (0 : Int), (0 : Int))))) (List.getD x322 (Int.toNat x301) ((0 : Int), (0 : Int), (0 : Int))) *
                                                      Prod.fst (Prod.snd (V.pCross (V.pSub (List.getD x322 (Int.toNat x302) ((0 : Int), (0 : Int), (0 : Int))) (List.getD x322 (Int.toNat x301) ((0 : Int), (0 : Int), (0 : Int)))) (V.pSub (List.getD x322 (Int.toNat x303) ((0 : Int), (0 : Int), (0 : Int))) (List.getD x322 (Int.toNat x301) ((0 : Int), (0 : Int), (0 : Int))))))),
                                                  IntKind.wrap .i64
                                                    (V.sideP x322 (V.pCross (V.pSub (List.getD x322 (Int.toNat x302) ((0 : Int), (0 : Int), (0 : Int))) (List.getD x322 (Int.toNat x301) ((0 : Int), (0 : Int), (0 : Int)))) (V.pSub (List.getD x322 (Int.toNat x303) ((0 : Int), (0 : Int), (0 : Int))) (List.getD x322 (Int.toNat x301) ((0 : Int), (0 : Int), (0 : Int))))) (List.getD x322 (Int.toNat x301) ((0 : Int), (0 : Int), (0 : Int))) *
                                                      Prod.snd (Prod.snd (V.pCross (V.pSub (List.getD x322 (Int.toNat x302) ((0 : Int), (0 : Int), (0 : Int))) (List.getD x322 (Int.toNat x301) ((0 : Int), (0 : Int), (0 : Int)))) (V.pSub (List.getD x322 (Int.toNat x303) ((0 : Int), (0 : Int), (0 : Int))) (List.getD x322 (Int.toNat x301) ((0 : Int), (0 : Int), (0 : Int))))))))])
                                          x325)
                                      ((100 : Nat) + List.length x312 + List.length x313 + List.length x314 + List.length x315 + List.length x317 + List.length x318 + List.length x319 + List.length x321 + List.length x322 +
                                            List.length
                                              (x323 ++
                                                [V.pShort
                                                    (IntKind.wrap .i64
                                                        (V.sideP x322 (V.pCross (V.pSub (List.getD x322 (Int.toNat x302) ((0 : Int), (0 : Int), (0 : Int))) (List.getD x322 (Int.toNat x301) ((0 : Int), (0 : Int), (0 : Int)))) (V.pSub (List.getD x322 (Int.toNat x303) ((0 : Int), (0 : Int), (0 : Int))) (List.getD x322 (Int.toNat x301) ((0 : Int), (0 : Int), (0 : Int))))) (List.getD x322 (Int.toNat x301) ((0 : Int), (0 : Int), (0 : Int))) *
                                                          Prod.fst (V.pCross (V.pSub (List.getD x322 (Int.toNat x302) ((0 : Int), (0 : Int), (0 : Int))) (List.getD x322 (Int.toNat x301) ((0 : Int), (0 : Int), (0 : Int)))) (V.pSub (List.getD x322 (Int.toNat x303) ((0 : Int), (0 : Int), (0 : Int))) (List.getD x322 (Int.toNat x301) ((0 : Int), (0 : Int), (0 : Int)))))),
                                                      IntKind.wrap .i64
                                                        (V.sideP x322 (V.pCross (V.pSub (List.getD x322 (Int.toNat x302) ((0 : Int), (0 : Int), (0 : Int))) (List.getD x322 (Int.toNat x301) ((0 : Int), (0 : Int), (0 : Int)))) (V.pSub (List.getD x322 (Int.toNat x303) ((0 : Int), (0 : Int), (0 : Int))) (List.getD x322 (Int.toNat x301) ((0 : Int), (0 : Int), (0 : Int))))) (List.getD x322 (Int.toNat x301) ((0 : Int), (0 : Int), (0 : Int))) *
                                                          Prod.fst (Prod.snd (V.pCross (V.pSub (List.getD x322 (Int.toNat x302) ((0 : Int), (0 : Int), (0 : Int))) (List.getD x322 (Int.toNat x301) ((0 : Int), (0 : Int), (0 : Int)))) (V.pSub (List.getD x322 (Int.toNat x303) ((0 : Int), (0 : Int), (0 : Int))) (List.getD x322 (Int.toNat x301) ((0 : Int), (0 : Int), (0 : Int))))))),
                                                      IntKind.wrap .i64
                                                        (V.sideP x322 (V.pCross (V.pSub (List.getD x322 (Int.toNat x302) ((0 : Int), (0 : Int), (0 : Int))) (List.getD x322 (Int.toNat x301) ((0 : Int), (0 : Int), (0 : Int)))) (V.pSub (List.getD x322 (Int.toNat x303) ((0 : Int), (0 : Int), (0 : Int))) (List.getD x322 (Int.toNat x301) ((0 : Int), (0 : Int), (0 : Int))))) (List.getD x322 (Int.toNat x301) ((0 : Int), (0 : Int), (0 : Int))) *
                                                          Prod.snd (Prod.snd (V.pCross (V.pSub (List.getD x322 (Int.toNat x302) ((0 : Int), (0 : Int), (0 : Int))) (List.getD x322 (Int.toNat x301) ((0 : Int), (0 : Int), (0 : Int)))) (V.pSub (List.getD x322 (Int.toNat x303) ((0 : Int), (0 : Int), (0 : Int))) (List.getD x322 (Int.toNat x301) ((0 : Int), (0 : Int), (0 : Int))))))))]) +
                                          List.length x324 +
                                        ((2 : Nat) + (1 : Nat)))
                                      (0 : Int) x324
                                  else none
                                else none
                              else none
                            else none
                          else none
                        else none
                      else none
                    else
                      if (0 : Int) ≤ x302 ∧ x302 < (↑(List.length x322) : Int) then
                        if (0 : Int) ≤ x301 ∧ x301 < (↑(List.length x322) : Int) then
                          if (0 : Int) ≤ x303 ∧ x303 < (↑(List.length x322) : Int) then
                            if (0 : Int) ≤ x301 ∧ x301 < (↑(List.length x322) : Int) then
                              if (0 : Int) ≤ x303 ∧ x303 < (↑(List.length x322) : Int) then
                                if (0 : Int) ≤ x302 ∧ x302 < (↑(List.length x322) : Int) then
                                  M.core_l2 (↑((2 : Nat) + (1 : Nat)) : Int)
                                    [V.pSub (List.getD x322 (Int.toNat x302) ((0 : Int), (0 : Int), (0 : Int))) (List.getD x322 (Int.toNat x301) ((0 : Int), (0 : Int), (0 : Int))), V.pSub (List.getD x322 (Int.toNat x303) ((0 : Int), (0 : Int), (0 : Int))) (List.getD x322 (Int.toNat x301) ((0 : Int), (0 : Int), (0 : Int))), V.pSub (List.getD x322 (Int.toNat x303) ((0 : Int), (0 : Int), (0 : Int))) (List.getD x322 (Int.toNat x302) ((0 : Int), (0 : Int), (0 : Int)))]
                                    (fun (x326 : L3) ↦ kn (IntKind.wrap .i64 (x303 + (1 : Int))) x323 x326) ((100 : Nat) + List.length x312 + List.length x313 + List.length x314 + List.length x315 + List.length x317 + List.length x318 + List.length x319 + List.length x321 + List.length x322 + List.length x323 + List.length x324 + ((2 : Nat) + (1 : Nat))) (0 : Int) x324
                                else none
                              else none
                            else none
                          else none
                        else none
                      else none
                  else none
            else none
          else none
        else none
      else none
    else none
  else none
noncomputable def _root_.Go.Proofs.Ytkjellhkamfciaa.M.core_l3 {α : Type} (x301 : Int) (x302 : Int) (x312 : L3) (x313 : L3) (x314 : L3) (x315 : L3) (x317 : L3) (x318 : L3) (x319 : L3) (x321 : L3) (x322 : L3) (k0 : L3 → L3 → Option α) (k1 : L3 → L3 → Option α) : Nat → Int → L3 → L3 → Option α
  | 0, _, _, _ => none
  | n + 1, x303, x323, x324 => M.core_l3_step x301 x302 x312 x313 x314 x315 x317 x318 x319 x321 x322 (M.core_l3 x301 x302 x312 x313 x314 x315 x317 x318 x319 x321 x322 k0 k1 n) k0 k1 x303 x323 x324
theorem core_l3_step_eq {α : Type} (x301 : Int) (x302 : Int) (x303 : Int) (x304 : Int) (x305 : Int) (x306 : Int) (x307 : Int) (x308 : Int) (x309 : Int) (x310 : Int) (x311 : Value) (x312 : L3) (x313 : L3) (x314 : L3) (x315 : L3) (x316 : Int) (x317 : L3) (x318 : L3) (x319 : L3) (x320 : Int) (x321 : L3) (x322 : L3) (x323 : L3) (x324 : L3) (Q : Ex → St → Option α) : (loopStep E (exec E look_check core_l2_lps 400) 30 core_P3 13 (codeAt E.P 30 core_P3)) (core_S7 x301 x302 x303 x304 x305 x306 x307 x308 x309 x310 x311 x312 x313 x314 x315 x316 x317 x318 x319 x320 x321 x322 x323 x324) Q = M.core_l3_step x301 x302 x312 x313 x314 x315 x317 x318 x319 x321 x322 (fun (x331 : Int) (x332 : L3) (x333 : L3) => Q .normal (core_S7 x301 x302 x331 x304 x305 x306 x307 x308 x309 x310 x311 x312 x313 x314 x315 x316 x317 x318 x319 x320 x321 x322 x332 x333)) (fun (x327 : L3) (x328 : L3) => Q (.exit 1) (core_S9 x301 x302 x304 x305 x306 x307 x308 x309 x310 x311 x312 x313 x314 x315 x316 x317 x318 x319 x320 x321 x322 x327 x328)) (fun (x329 : L3) (x330 : L3) => Q (.exit 4) (core_S9 x301 x302 x304 x305 x306 x307 x308 x309 x310 x311 x312 x313 x314 x315 x316 x317 x318 x319 x320 x321 x322 x329 x330)) x303 x323 x324 := by kernel_rfl
theorem core_l3_iter {α : Type} (x301 : Int) (x302 : Int) (x304 : Int) (x305 : Int) (x306 : Int) (x307 : Int) (x308 : Int) (x309 : Int) (x310 : Int) (x311 : Value) (x312 : L3) (x313 : L3) (x314 : L3) (x315 : L3) (x316 : Int) (x317 : L3) (x318 : L3) (x319 : L3) (x320 : Int) (x321 : L3) (x322 : L3) (Q : Ex → St → Option α) : ∀ (n : Nat) (x303 : Int) (x323 : L3) (x324 : L3), iter (loopStep E (exec E look_check core_l2_lps 400) 30 core_P3 13 (codeAt E.P 30 core_P3)) n (core_S7 x301 x302 x303 x304 x305 x306 x307 x308 x309 x310 x311 x312 x313 x314 x315 x316 x317 x318 x319 x320 x321 x322 x323 x324) Q = M.core_l3 x301 x302 x312 x313 x314 x315 x317 x318 x319 x321 x322 (fun (x327 : L3) (x328 : L3) => Q (.exit 1) (core_S9 x301 x302 x304 x305 x306 x307 x308 x309 x310 x311 x312 x313 x314 x315 x316 x317 x318 x319 x320 x321 x322 x327 x328)) (fun (x329 : L3) (x330 : L3) => Q (.exit 4) (core_S9 x301 x302 x304 x305 x306 x307 x308 x309 x310 x311 x312 x313 x314 x315 x316 x317 x318 x319 x320 x321 x322 x329 x330)) n x303 x323 x324
  | 0, _, _, _ => rfl
  | n + 1, x303, x323, x324 => (core_l3_step_eq x301 x302 x303 x304 x305 x306 x307 x308 x309 x310 x311 x312 x313 x314 x315 x316 x317 x318 x319 x320 x321 x322 x323 x324 (iterK (loopStep E (exec E look_check core_l2_lps 400) 30 core_P3 13 (codeAt E.P 30 core_P3)) n Q)).trans (congrArg (fun kn => M.core_l3_step x301 x302 x312 x313 x314 x315 x317 x318 x319 x321 x322 kn (fun (x327 : L3) (x328 : L3) => Q (.exit 1) (core_S9 x301 x302 x304 x305 x306 x307 x308 x309 x310 x311 x312 x313 x314 x315 x316 x317 x318 x319 x320 x321 x322 x327 x328)) (fun (x329 : L3) (x330 : L3) => Q (.exit 4) (core_S9 x301 x302 x304 x305 x306 x307 x308 x309 x310 x311 x312 x313 x314 x315 x316 x317 x318 x319 x320 x321 x322 x329 x330)) x303 x323 x324) (funext fun x303 => funext fun x323 => funext fun x324 => core_l3_iter x301 x302 x304 x305 x306 x307 x308 x309 x310 x311 x312 x313 x314 x315 x316 x317 x318 x319 x320 x321 x322 Q n x303 x323 x324))
noncomputable def core_l3_go {α : Type} (ds : List D) (Q : Ex → St → Option α) : Option α :=
  dI ds fun x301 ds => dI ds fun x302 ds => dI ds fun x303 ds => dI ds fun x304 ds => dI ds fun x305 ds => dI ds fun x306 ds => dI ds fun x307 ds => dI ds fun x308 ds => dI ds fun x309 ds => dI ds fun x310 ds => dV ds fun x311 ds => dL kP ds fun x312 ds => dL kP ds fun x313 ds => dL kP ds fun x314 ds => dL kP ds fun x315 ds => dI ds fun x316 ds => dL kP ds fun x317 ds => dL kP ds fun x318 ds => dL kP ds fun x319 ds => dI ds fun x320 ds => dL kP ds fun x321 ds => dL kP ds fun x322 ds => dL kP ds fun x323 ds => dL kP ds fun x324 ds => dE ds (M.core_l3 x301 x302 x312 x313 x314 x315 x317 x318 x319 x321 x322 (fun (x327 : L3) (x328 : L3) => Q (.exit 1) (core_S9 x301 x302 x304 x305 x306 x307 x308 x309 x310 x311 x312 x313 x314 x315 x316 x317 x318 x319 x320 x321 x322 x327 x328)) (fun (x329 : L3) (x330 : L3) => Q (.exit 4) (core_S9 x301 x302 x304 x305 x306 x307 x308 x309 x310 x311 x312 x313 x314 x315 x316 x317 x318 x319 x320 x321 x322 x329 x330)) (100 + x312.length + x313.length + x314.length + x315.length + x317.length + x318.length + x319.length + x321.length + x322.length + x323.length + x324.length) x303 x323 x324)
theorem core_l3_ok {α : Type} : LoopOk E.P 30 core_P3 13 (lEnt (α := α) (core_S10) core_l3_go) :=
  lEnt_ok E (exec_sound E E_ok (look_check_ok) (core_l2_lps_ok) 400) fun ds Q r h S hS => by
    unfold core_l3_go at h
    obtain ⟨x301, ds, rfl, h1⟩ := dI_inv h
    obtain ⟨x302, ds, rfl, h2⟩ := dI_inv h1
    obtain ⟨x303, ds, rfl, h3⟩ := dI_inv h2
    obtain ⟨x304, ds, rfl, h4⟩ := dI_inv h3
    obtain ⟨x305, ds, rfl, h5⟩ := dI_inv h4
    obtain ⟨x306, ds, rfl, h6⟩ := dI_inv h5
    obtain ⟨x307, ds, rfl, h7⟩ := dI_inv h6
    obtain ⟨x308, ds, rfl, h8⟩ := dI_inv h7
    obtain ⟨x309, ds, rfl, h9⟩ := dI_inv h8
    obtain ⟨x310, ds, rfl, h10⟩ := dI_inv h9
    obtain ⟨x311, ds, rfl, h11⟩ := dV_inv h10
    obtain ⟨x312, ds, rfl, h12⟩ := dL_inv h11
    obtain ⟨x313, ds, rfl, h13⟩ := dL_inv h12
    obtain ⟨x314, ds, rfl, h14⟩ := dL_inv h13
    obtain ⟨x315, ds, rfl, h15⟩ := dL_inv h14
    obtain ⟨x316, ds, rfl, h16⟩ := dI_inv h15
    obtain ⟨x317, ds, rfl, h17⟩ := dL_inv h16
    obtain ⟨x318, ds, rfl, h18⟩ := dL_inv h17
    obtain ⟨x319, ds, rfl, h19⟩ := dL_inv h18
    obtain ⟨x320, ds, rfl, h20⟩ := dI_inv h19
    obtain ⟨x321, ds, rfl, h21⟩ := dL_inv h20
    obtain ⟨x322, ds, rfl, h22⟩ := dL_inv h21
    obtain ⟨x323, ds, rfl, h23⟩ := dL_inv h22
    obtain ⟨x324, ds, rfl, h24⟩ := dL_inv h23
    obtain ⟨rfl, hE⟩ := dE_inv h24
    have e : fillS (core_S10) [.i x301, .i x302, .i x303, .i x304, .i x305, .i x306, .i x307, .i x308, .i x309, .i x310, .v x311, .l kP x312, .l kP x313, .l kP x314, .l kP x315, .i x316, .l kP x317, .l kP x318, .l kP x319, .i x320, .l kP x321, .l kP x322, .l kP x323, .l kP x324] = some (core_S7 x301 x302 x303 x304 x305 x306 x307 x308 x309 x310 x311 x312 x313 x314 x315 x316 x317 x318 x319 x320 x321 x322 x323 x324) := by kernel_rfl
    rw [e] at hS
    cases hS
    exact ⟨_, (core_l3_iter x301 x302 x304 x305 x306 x307 x308 x309 x310 x311 x312 x313 x314 x315 x316 x317 x318 x319 x320 x321 x322 Q _ x303 x323 x324).trans hE⟩
noncomputable def core_l3_lps {α : Type} : LookL α := addLp 30 core_P3 13 (lEnt (core_S10) core_l3_go) core_l2_lps
theorem core_l3_lps_ok {α : Type} : LoopsOk E.P (core_l3_lps (α := α)) := addLp_ok core_l3_ok (core_l2_lps_ok)

noncomputable def _root_.Go.Proofs.Ytkjellhkamfciaa.M.core_l4_step {α : Type} (x334 : Int) (x344 : L3) (x345 : L3) (x346 : L3) (x347 : L3) (x349 : L3) (x350 : L3) (x351 : L3) (x353 : L3) (x354 : L3) (kn : Int → L3 → L3 → Option α) (k0 : L3 → L3 → Option α) (k2 : L3 → L3 → Option α) (x335 : Int) (x355 : L3) (x356 : L3) : Option α :=
  if cLt x335 (↑(List.length x354) : Int) = true then
  M.core_l3 x334 x335 x344 x345 x346 x347 x349 x350 x351 x353 x354 (fun (x357 x358 : L3) ↦ k0 x357 x358) (fun (x359 x360 : L3) ↦ kn (IntKind.wrap .i64 (x335 + (1 : Int))) x359 x360) ((100 : Nat) + List.length x344 + List.length x345 + List.length x346 + List.length x347 + List.length x349 + List.length x350 + List.length x351 + List.length x353 + List.length x354 + List.length x355 + List.length x356) (IntKind.wrap .i64 (x335 + (1 : Int)))
    x355 x356
else k2 x355 x356
noncomputable def _root_.Go.Proofs.Ytkjellhkamfciaa.M.core_l4 {α : Type} (x334 : Int) (x344 : L3) (x345 : L3) (x346 : L3) (x347 : L3) (x349 : L3) (x350 : L3) (x351 : L3) (x353 : L3) (x354 : L3) (k0 : L3 → L3 → Option α) (k2 : L3 → L3 → Option α) : Nat → Int → L3 → L3 → Option α
  | 0, _, _, _ => none
  | n + 1, x335, x355, x356 => M.core_l4_step x334 x344 x345 x346 x347 x349 x350 x351 x353 x354 (M.core_l4 x334 x344 x345 x346 x347 x349 x350 x351 x353 x354 k0 k2 n) k0 k2 x335 x355 x356
theorem core_l4_step_eq {α : Type} (x334 : Int) (x335 : Int) (x336 : Int) (x337 : Int) (x338 : Int) (x339 : Int) (x340 : Int) (x341 : Int) (x342 : Int) (x343 : Value) (x344 : L3) (x345 : L3) (x346 : L3) (x347 : L3) (x348 : Int) (x349 : L3) (x350 : L3) (x351 : L3) (x352 : Int) (x353 : L3) (x354 : L3) (x355 : L3) (x356 : L3) (Q : Ex → St → Option α) : (loopStep E (exec E look_check core_l3_lps 400) 30 core_P5 13 (codeAt E.P 30 core_P5)) (core_S9 x334 x335 x336 x337 x338 x339 x340 x341 x342 x343 x344 x345 x346 x347 x348 x349 x350 x351 x352 x353 x354 x355 x356) Q = M.core_l4_step x334 x344 x345 x346 x347 x349 x350 x351 x353 x354 (fun (x365 : Int) (x366 : L3) (x367 : L3) => Q .normal (core_S9 x334 x365 x336 x337 x338 x339 x340 x341 x342 x343 x344 x345 x346 x347 x348 x349 x350 x351 x352 x353 x354 x366 x367)) (fun (x361 : L3) (x362 : L3) => Q (.exit 1) (core_S11 x336 x337 x338 x339 x340 x341 x342 x343 x344 x345 x346 x347 x348 x349 x350 x351 x352 x353 x354 x361 x362)) (fun (x363 : L3) (x364 : L3) => Q (.exit 2) (core_S11 x336 x337 x338 x339 x340 x341 x342 x343 x344 x345 x346 x347 x348 x349 x350 x351 x352 x353 x354 x363 x364)) x335 x355 x356 := by kernel_rfl
theorem core_l4_iter {α : Type} (x334 : Int) (x336 : Int) (x337 : Int) (x338 : Int) (x339 : Int) (x340 : Int) (x341 : Int) (x342 : Int) (x343 : Value) (x344 : L3) (x345 : L3) (x346 : L3) (x347 : L3) (x348 : Int) (x349 : L3) (x350 : L3) (x351 : L3) (x352 : Int) (x353 : L3) (x354 : L3) (Q : Ex → St → Option α) : ∀ (n : Nat) (x335 : Int) (x355 : L3) (x356 : L3), iter (loopStep E (exec E look_check core_l3_lps 400) 30 core_P5 13 (codeAt E.P 30 core_P5)) n (core_S9 x334 x335 x336 x337 x338 x339 x340 x341 x342 x343 x344 x345 x346 x347 x348 x349 x350 x351 x352 x353 x354 x355 x356) Q = M.core_l4 x334 x344 x345 x346 x347 x349 x350 x351 x353 x354 (fun (x361 : L3) (x362 : L3) => Q (.exit 1) (core_S11 x336 x337 x338 x339 x340 x341 x342 x343 x344 x345 x346 x347 x348 x349 x350 x351 x352 x353 x354 x361 x362)) (fun (x363 : L3) (x364 : L3) => Q (.exit 2) (core_S11 x336 x337 x338 x339 x340 x341 x342 x343 x344 x345 x346 x347 x348 x349 x350 x351 x352 x353 x354 x363 x364)) n x335 x355 x356
  | 0, _, _, _ => rfl
  | n + 1, x335, x355, x356 => (core_l4_step_eq x334 x335 x336 x337 x338 x339 x340 x341 x342 x343 x344 x345 x346 x347 x348 x349 x350 x351 x352 x353 x354 x355 x356 (iterK (loopStep E (exec E look_check core_l3_lps 400) 30 core_P5 13 (codeAt E.P 30 core_P5)) n Q)).trans (congrArg (fun kn => M.core_l4_step x334 x344 x345 x346 x347 x349 x350 x351 x353 x354 kn (fun (x361 : L3) (x362 : L3) => Q (.exit 1) (core_S11 x336 x337 x338 x339 x340 x341 x342 x343 x344 x345 x346 x347 x348 x349 x350 x351 x352 x353 x354 x361 x362)) (fun (x363 : L3) (x364 : L3) => Q (.exit 2) (core_S11 x336 x337 x338 x339 x340 x341 x342 x343 x344 x345 x346 x347 x348 x349 x350 x351 x352 x353 x354 x363 x364)) x335 x355 x356) (funext fun x335 => funext fun x355 => funext fun x356 => core_l4_iter x334 x336 x337 x338 x339 x340 x341 x342 x343 x344 x345 x346 x347 x348 x349 x350 x351 x352 x353 x354 Q n x335 x355 x356))
noncomputable def core_l4_go {α : Type} (ds : List D) (Q : Ex → St → Option α) : Option α :=
  dI ds fun x334 ds => dI ds fun x335 ds => dI ds fun x336 ds => dI ds fun x337 ds => dI ds fun x338 ds => dI ds fun x339 ds => dI ds fun x340 ds => dI ds fun x341 ds => dI ds fun x342 ds => dV ds fun x343 ds => dL kP ds fun x344 ds => dL kP ds fun x345 ds => dL kP ds fun x346 ds => dL kP ds fun x347 ds => dI ds fun x348 ds => dL kP ds fun x349 ds => dL kP ds fun x350 ds => dL kP ds fun x351 ds => dI ds fun x352 ds => dL kP ds fun x353 ds => dL kP ds fun x354 ds => dL kP ds fun x355 ds => dL kP ds fun x356 ds => dE ds (M.core_l4 x334 x344 x345 x346 x347 x349 x350 x351 x353 x354 (fun (x361 : L3) (x362 : L3) => Q (.exit 1) (core_S11 x336 x337 x338 x339 x340 x341 x342 x343 x344 x345 x346 x347 x348 x349 x350 x351 x352 x353 x354 x361 x362)) (fun (x363 : L3) (x364 : L3) => Q (.exit 2) (core_S11 x336 x337 x338 x339 x340 x341 x342 x343 x344 x345 x346 x347 x348 x349 x350 x351 x352 x353 x354 x363 x364)) (100 + x344.length + x345.length + x346.length + x347.length + x349.length + x350.length + x351.length + x353.length + x354.length + x355.length + x356.length) x335 x355 x356)
theorem core_l4_ok {α : Type} : LoopOk E.P 30 core_P5 13 (lEnt (α := α) (core_S12) core_l4_go) :=
  lEnt_ok E (exec_sound E E_ok (look_check_ok) (core_l3_lps_ok) 400) fun ds Q r h S hS => by
    unfold core_l4_go at h
    obtain ⟨x334, ds, rfl, h1⟩ := dI_inv h
    obtain ⟨x335, ds, rfl, h2⟩ := dI_inv h1
    obtain ⟨x336, ds, rfl, h3⟩ := dI_inv h2
    obtain ⟨x337, ds, rfl, h4⟩ := dI_inv h3
    obtain ⟨x338, ds, rfl, h5⟩ := dI_inv h4
    obtain ⟨x339, ds, rfl, h6⟩ := dI_inv h5
    obtain ⟨x340, ds, rfl, h7⟩ := dI_inv h6
    obtain ⟨x341, ds, rfl, h8⟩ := dI_inv h7
    obtain ⟨x342, ds, rfl, h9⟩ := dI_inv h8
    obtain ⟨x343, ds, rfl, h10⟩ := dV_inv h9
    obtain ⟨x344, ds, rfl, h11⟩ := dL_inv h10
    obtain ⟨x345, ds, rfl, h12⟩ := dL_inv h11
    obtain ⟨x346, ds, rfl, h13⟩ := dL_inv h12
    obtain ⟨x347, ds, rfl, h14⟩ := dL_inv h13
    obtain ⟨x348, ds, rfl, h15⟩ := dI_inv h14
    obtain ⟨x349, ds, rfl, h16⟩ := dL_inv h15
    obtain ⟨x350, ds, rfl, h17⟩ := dL_inv h16
    obtain ⟨x351, ds, rfl, h18⟩ := dL_inv h17
    obtain ⟨x352, ds, rfl, h19⟩ := dI_inv h18
    obtain ⟨x353, ds, rfl, h20⟩ := dL_inv h19
    obtain ⟨x354, ds, rfl, h21⟩ := dL_inv h20
    obtain ⟨x355, ds, rfl, h22⟩ := dL_inv h21
    obtain ⟨x356, ds, rfl, h23⟩ := dL_inv h22
    obtain ⟨rfl, hE⟩ := dE_inv h23
    have e : fillS (core_S12) [.i x334, .i x335, .i x336, .i x337, .i x338, .i x339, .i x340, .i x341, .i x342, .v x343, .l kP x344, .l kP x345, .l kP x346, .l kP x347, .i x348, .l kP x349, .l kP x350, .l kP x351, .i x352, .l kP x353, .l kP x354, .l kP x355, .l kP x356] = some (core_S9 x334 x335 x336 x337 x338 x339 x340 x341 x342 x343 x344 x345 x346 x347 x348 x349 x350 x351 x352 x353 x354 x355 x356) := by kernel_rfl
    rw [e] at hS
    cases hS
    exact ⟨_, (core_l4_iter x334 x336 x337 x338 x339 x340 x341 x342 x343 x344 x345 x346 x347 x348 x349 x350 x351 x352 x353 x354 Q _ x335 x355 x356).trans hE⟩
noncomputable def core_l4_lps {α : Type} : LookL α := addLp 30 core_P5 13 (lEnt (core_S12) core_l4_go) core_l3_lps
theorem core_l4_lps_ok {α : Type} : LoopsOk E.P (core_l4_lps (α := α)) := addLp_ok core_l4_ok (core_l3_lps_ok)

noncomputable def _root_.Go.Proofs.Ytkjellhkamfciaa.M.core_l5_step {α : Type} (x368 : Int) (x376 : L3) (x377 : L3) (x378 : L3) (x379 : L3) (x381 : L3) (x382 : L3) (x383 : L3) (x385 : L3) (x386 : L3) (kn : Int → L3 → L3 → Option α) (k1 : L3 → L3 → Option α) (x369 : Int) (x387 : L3) (x388 : L3) : Option α :=
  if cLt x369 x368 = true then
  M.core_l4 x369 x376 x377 x378 x379 x381 x382 x383 x385 x386 (fun (x389 x390 : L3) ↦ kn (IntKind.wrap .i64 (x369 + (1 : Int))) x389 x390) (fun (x391 x392 : L3) ↦ kn (IntKind.wrap .i64 (x369 + (1 : Int))) x391 x392) ((100 : Nat) + List.length x376 + List.length x377 + List.length x378 + List.length x379 + List.length x381 + List.length x382 + List.length x383 + List.length x385 + List.length x386 + List.length x387 + List.length x388)
    (IntKind.wrap .i64 (x369 + (1 : Int))) x387 x388
else k1 x387 x388
noncomputable def _root_.Go.Proofs.Ytkjellhkamfciaa.M.core_l5 {α : Type} (x368 : Int) (x376 : L3) (x377 : L3) (x378 : L3) (x379 : L3) (x381 : L3) (x382 : L3) (x383 : L3) (x385 : L3) (x386 : L3) (k1 : L3 → L3 → Option α) : Nat → Int → L3 → L3 → Option α
  | 0, _, _, _ => none
  | n + 1, x369, x387, x388 => M.core_l5_step x368 x376 x377 x378 x379 x381 x382 x383 x385 x386 (M.core_l5 x368 x376 x377 x378 x379 x381 x382 x383 x385 x386 k1 n) k1 x369 x387 x388
theorem core_l5_step_eq {α : Type} (x368 : Int) (x369 : Int) (x370 : Int) (x371 : Int) (x372 : Int) (x373 : Int) (x374 : Int) (x375 : Value) (x376 : L3) (x377 : L3) (x378 : L3) (x379 : L3) (x380 : Int) (x381 : L3) (x382 : L3) (x383 : L3) (x384 : Int) (x385 : L3) (x386 : L3) (x387 : L3) (x388 : L3) (Q : Ex → St → Option α) : (loopStep E (exec E look_check core_l4_lps 400) 30 [false, true, true, true, false] 13 (codeAt E.P 30 [false, true, true, true, false])) (core_S11 x368 x369 x370 x371 x372 x373 x374 x375 x376 x377 x378 x379 x380 x381 x382 x383 x384 x385 x386 x387 x388) Q = M.core_l5_step x368 x376 x377 x378 x379 x381 x382 x383 x385 x386 (fun (x395 : Int) (x396 : L3) (x397 : L3) => Q .normal (core_S11 x368 x395 x370 x371 x372 x373 x374 x375 x376 x377 x378 x379 x380 x381 x382 x383 x384 x385 x386 x396 x397)) (fun (x393 : L3) (x394 : L3) => Q (.exit 0) (core_S13 x370 x371 x372 x373 x374 x375 x376 x377 x378 x379 x380 x381 x382 x383 x384 x385 x386 x393 x394)) x369 x387 x388 := by kernel_rfl
theorem core_l5_iter {α : Type} (x368 : Int) (x370 : Int) (x371 : Int) (x372 : Int) (x373 : Int) (x374 : Int) (x375 : Value) (x376 : L3) (x377 : L3) (x378 : L3) (x379 : L3) (x380 : Int) (x381 : L3) (x382 : L3) (x383 : L3) (x384 : Int) (x385 : L3) (x386 : L3) (Q : Ex → St → Option α) : ∀ (n : Nat) (x369 : Int) (x387 : L3) (x388 : L3), iter (loopStep E (exec E look_check core_l4_lps 400) 30 [false, true, true, true, false] 13 (codeAt E.P 30 [false, true, true, true, false])) n (core_S11 x368 x369 x370 x371 x372 x373 x374 x375 x376 x377 x378 x379 x380 x381 x382 x383 x384 x385 x386 x387 x388) Q = M.core_l5 x368 x376 x377 x378 x379 x381 x382 x383 x385 x386 (fun (x393 : L3) (x394 : L3) => Q (.exit 0) (core_S13 x370 x371 x372 x373 x374 x375 x376 x377 x378 x379 x380 x381 x382 x383 x384 x385 x386 x393 x394)) n x369 x387 x388
  | 0, _, _, _ => rfl
  | n + 1, x369, x387, x388 => (core_l5_step_eq x368 x369 x370 x371 x372 x373 x374 x375 x376 x377 x378 x379 x380 x381 x382 x383 x384 x385 x386 x387 x388 (iterK (loopStep E (exec E look_check core_l4_lps 400) 30 [false, true, true, true, false] 13 (codeAt E.P 30 [false, true, true, true, false])) n Q)).trans (congrArg (fun kn => M.core_l5_step x368 x376 x377 x378 x379 x381 x382 x383 x385 x386 kn (fun (x393 : L3) (x394 : L3) => Q (.exit 0) (core_S13 x370 x371 x372 x373 x374 x375 x376 x377 x378 x379 x380 x381 x382 x383 x384 x385 x386 x393 x394)) x369 x387 x388) (funext fun x369 => funext fun x387 => funext fun x388 => core_l5_iter x368 x370 x371 x372 x373 x374 x375 x376 x377 x378 x379 x380 x381 x382 x383 x384 x385 x386 Q n x369 x387 x388))
noncomputable def core_l5_go {α : Type} (ds : List D) (Q : Ex → St → Option α) : Option α :=
  dI ds fun x368 ds => dI ds fun x369 ds => dI ds fun x370 ds => dI ds fun x371 ds => dI ds fun x372 ds => dI ds fun x373 ds => dI ds fun x374 ds => dV ds fun x375 ds => dL kP ds fun x376 ds => dL kP ds fun x377 ds => dL kP ds fun x378 ds => dL kP ds fun x379 ds => dI ds fun x380 ds => dL kP ds fun x381 ds => dL kP ds fun x382 ds => dL kP ds fun x383 ds => dI ds fun x384 ds => dL kP ds fun x385 ds => dL kP ds fun x386 ds => dL kP ds fun x387 ds => dL kP ds fun x388 ds => dE ds (M.core_l5 x368 x376 x377 x378 x379 x381 x382 x383 x385 x386 (fun (x393 : L3) (x394 : L3) => Q (.exit 0) (core_S13 x370 x371 x372 x373 x374 x375 x376 x377 x378 x379 x380 x381 x382 x383 x384 x385 x386 x393 x394)) (100 + x376.length + x377.length + x378.length + x379.length + x381.length + x382.length + x383.length + x385.length + x386.length + x387.length + x388.length) x369 x387 x388)
theorem core_l5_ok {α : Type} : LoopOk E.P 30 [false, true, true, true, false] 13 (lEnt (α := α) (core_S14) core_l5_go) :=
  lEnt_ok E (exec_sound E E_ok (look_check_ok) (core_l4_lps_ok) 400) fun ds Q r h S hS => by
    unfold core_l5_go at h
    obtain ⟨x368, ds, rfl, h1⟩ := dI_inv h
    obtain ⟨x369, ds, rfl, h2⟩ := dI_inv h1
    obtain ⟨x370, ds, rfl, h3⟩ := dI_inv h2
    obtain ⟨x371, ds, rfl, h4⟩ := dI_inv h3
    obtain ⟨x372, ds, rfl, h5⟩ := dI_inv h4
    obtain ⟨x373, ds, rfl, h6⟩ := dI_inv h5
    obtain ⟨x374, ds, rfl, h7⟩ := dI_inv h6
    obtain ⟨x375, ds, rfl, h8⟩ := dV_inv h7
    obtain ⟨x376, ds, rfl, h9⟩ := dL_inv h8
    obtain ⟨x377, ds, rfl, h10⟩ := dL_inv h9
    obtain ⟨x378, ds, rfl, h11⟩ := dL_inv h10
    obtain ⟨x379, ds, rfl, h12⟩ := dL_inv h11
    obtain ⟨x380, ds, rfl, h13⟩ := dI_inv h12
    obtain ⟨x381, ds, rfl, h14⟩ := dL_inv h13
    obtain ⟨x382, ds, rfl, h15⟩ := dL_inv h14
    obtain ⟨x383, ds, rfl, h16⟩ := dL_inv h15
    obtain ⟨x384, ds, rfl, h17⟩ := dI_inv h16
    obtain ⟨x385, ds, rfl, h18⟩ := dL_inv h17
    obtain ⟨x386, ds, rfl, h19⟩ := dL_inv h18
    obtain ⟨x387, ds, rfl, h20⟩ := dL_inv h19
    obtain ⟨x388, ds, rfl, h21⟩ := dL_inv h20
    obtain ⟨rfl, hE⟩ := dE_inv h21
    have e : fillS (core_S14) [.i x368, .i x369, .i x370, .i x371, .i x372, .i x373, .i x374, .v x375, .l kP x376, .l kP x377, .l kP x378, .l kP x379, .i x380, .l kP x381, .l kP x382, .l kP x383, .i x384, .l kP x385, .l kP x386, .l kP x387, .l kP x388] = some (core_S11 x368 x369 x370 x371 x372 x373 x374 x375 x376 x377 x378 x379 x380 x381 x382 x383 x384 x385 x386 x387 x388) := by kernel_rfl
    rw [e] at hS
    cases hS
    exact ⟨_, (core_l5_iter x368 x370 x371 x372 x373 x374 x375 x376 x377 x378 x379 x380 x381 x382 x383 x384 x385 x386 Q _ x369 x387 x388).trans hE⟩
noncomputable def core_l5_lps {α : Type} : LookL α := addLp 30 [false, true, true, true, false] 13 (lEnt (core_S14) core_l5_go) core_l4_lps
theorem core_l5_lps_ok {α : Type} : LoopsOk E.P (core_l5_lps (α := α)) := addLp_ok core_l5_ok (core_l4_lps_ok)

noncomputable def _root_.Go.Proofs.Ytkjellhkamfciaa.M.core {α : Type} (k : Int) (r : Int) (hx : Int) (hy : Int) (hz : Int) (l : L3) (k0 : Int → Int → L3 → L3 → L3 → Option α) : Option α :=
  if (!cEq (V.chk k r hx hy hz l) (0 : Int)) = true then k0 (0 : Int) (V.chk k r hx hy hz l) [] [] []
else
  if cEq k (1 : Int) = true then k0 r (0 : Int) [((0 : Int), (0 : Int), (0 : Int))] [] []
  else
    if cEq k (2 : Int) = true then k0 r (0 : Int) [(IntKind.wrap .i64 ((0 : Int) - hx), (0 : Int), (0 : Int)), (hx, (0 : Int), (0 : Int))] [] [((1 : Int), (0 : Int), (0 : Int))]
    else
      if cEq k (3 : Int) = true then
        M.core_l1 (↑((0 : Nat) + (1 : Nat) + (1 : Nat)) : Int) hy hz l [] [] [] [] [] [IntKind.wrap .i64 ((0 : Int) - hx), hx] (fun (x399 : L3) ↦ if V.lenB (3 : Nat) = true then k0 r (0 : Int) x399 [((1 : Int), (0 : Int), (0 : Int)), ((0 : Int), (1 : Int), (0 : Int)), ((0 : Int), (0 : Int), (1 : Int))] [((1 : Int), (0 : Int), (0 : Int)), ((0 : Int), (1 : Int), (0 : Int)), ((0 : Int), (0 : Int), (1 : Int))] else none)
          ((100 : Nat) + List.length l + (0 : Nat) + (0 : Nat) + (0 : Nat) + (0 : Nat) + (0 : Nat) + (0 : Nat) + ((0 : Nat) + (1 : Nat) + (1 : Nat))) (0 : Int) []
      else if cEq k (4 : Int) = true then if V.lenB (List.length l) = true then M.core_l5 (↑(List.length l) : Int) l [] [] [] [] [] [] [] l (fun (x400 x401 : L3) ↦ k0 r (0 : Int) l x400 x401) ((100 : Nat) + List.length l + (0 : Nat) + (0 : Nat) + (0 : Nat) + (0 : Nat) + (0 : Nat) + (0 : Nat) + (0 : Nat) + List.length l + (0 : Nat) + (0 : Nat)) (0 : Int) [] [] else none else k0 r (0 : Int) [] [] []
theorem core_eq {α : Type} (k : Int) (r : Int) (hx : Int) (hy : Int) (hz : Int) (l : L3) (v398 : Value) (Q : SV → Hp → Option α) : callI E look_check (exec E look_check core_l5_lps 400) 13 ([SV.agg [SV.int .i64 k, SV.int .i64 r, SV.int .i64 hx, SV.int .i64 hy, SV.int .i64 hz, SV.ros v398 kP l]]) ([]) Q = M.core k r hx hy hz l (fun (x402 : Int) (x403 : Int) (x404 : L3) (x405 : L3) (x406 : L3) => Q (SV.tup [SV.agg [SV.sl (nat_lit 0), SV.sl (nat_lit 1), SV.sl (nat_lit 2), SV.int .i64 x402], SV.int .i64 x403]) ([.seq kP x404 (nat_lit 23), .seq kP x405 (nat_lit 23), .seq kP x406 (nat_lit 23)])) := by kernel_rfl
def core_sp : List AS := [.st [.leaf (.int .i64 0), .leaf (.int .i64 0), .leaf (.int .i64 0), .leaf (.int .i64 0), .leaf (.int .i64 0), .ro (.st (.i .i64) [.i .i64, .i .i64])]]
/-! Plain words: the faces of a hull. -/
def negP (p : P3) : P3 := V.pSub (0, 0, 0) p
noncomputable def addE (es : List P3) (e : P3) : List P3 := if V.pShort e ∈ es ∨ negP (V.pShort e) ∈ es then es else es ++ [V.pShort e]
def triN (l : List P3) (i j k : Nat) : P3 := V.pCross (V.pSub (pt l j) (pt l i)) (V.pSub (pt l k) (pt l i))
def mulP (s : Int) (p : P3) : P3 := (IntKind.wrap .i64 (s * p.1), IntKind.wrap .i64 (s * p.2.1), IntKind.wrap .i64 (s * p.2.2))
def triS (l : List P3) (i j k : Nat) : Int := V.sideP l (triN l i j k) (pt l i)
noncomputable def triA (l : List P3) (i j k : Nat) : P3 := V.pShort (mulP (triS l i j k) (triN l i j k))
def triE (l : List P3) (i j k : Nat) : List P3 := [V.pSub (pt l j) (pt l i), V.pSub (pt l k) (pt l i), V.pSub (pt l k) (pt l j)]
abbrev St2 := List P3 × List P3
noncomputable def trip (l : List P3) (i j k : Nat) (st : St2) : St2 :=
  if triN l i j k = (0, 0, 0) then st else if triS l i j k = 0 then st
  else (if triA l i j k ∈ st.1 then st.1 else st.1 ++ [triA l i j k], (triE l i j k).foldl addE st.2)
noncomputable def kF (l : List P3) (i j : Nat) : Nat → Nat → St2 → St2
  | 0, _, st => st
  | m + 1, k, st => kF l i j m (k + 1) (trip l i j k st)
noncomputable def jF (l : List P3) (i : Nat) : Nat → Nat → St2 → St2
  | 0, _, st => st
  | m + 1, j, st => jF l i m (j + 1) (kF l i j (l.length - (j + 1)) (j + 1) st)
noncomputable def iF (l : List P3) : Nat → Nat → St2 → St2
  | 0, _, st => st
  | m + 1, i, st => iF l m (i + 1) (jF l i (l.length - (i + 1)) (i + 1) st)
noncomputable def facesP (l : List P3) : St2 := iF l l.length 0 ([], [])
def sz2 (st : St2) : Nat := st.1.length + st.2.length
theorem addE_len (es : List P3) (e : P3) : (addE es e).length ≤ es.length + 1 := by
  unfold addE; split <;> simp
theorem addEs_len : ∀ (l es : List P3), (l.foldl addE es).length ≤ es.length + l.length
  | [], es => by simp
  | e :: l, es => by
    have h1 := addEs_len l (addE es e)
    have h2 := addE_len es e
    simp only [List.foldl_cons, List.length_cons]; omega
theorem trip_len (l : List P3) (i j k : Nat) (st : St2) : sz2 (trip l i j k st) ≤ sz2 st + 4 := by
  unfold trip
  split
  · omega
  · split
    · omega
    · have h := addEs_len (triE l i j k) st.2
      have h3 : (triE l i j k).length = 3 := rfl
      unfold sz2
      simp only
      split <;> (try rw [List.length_append, List.length_singleton]) <;> omega
theorem kF_len (l : List P3) (i j : Nat) : ∀ (m k : Nat) (st : St2), sz2 (kF l i j m k st) ≤ sz2 st + 4 * m
  | 0, k, st => by simp [kF]
  | m + 1, k, st => by
    have h1 := kF_len l i j m (k + 1) (trip l i j k st)
    have h2 := trip_len l i j k st
    simp only [kF]; omega
theorem jF_len (l : List P3) (i : Nat) (hl : l.length ≤ 12) : ∀ (m j : Nat) (st : St2), sz2 (jF l i m j st) ≤ sz2 st + 48 * m
  | 0, j, st => by simp [jF]
  | m + 1, j, st => by
    have h1 := jF_len l i hl m (j + 1) (kF l i j (l.length - (j + 1)) (j + 1) st)
    have h2 := kF_len l i j (l.length - (j + 1)) (j + 1) st
    simp only [jF]; omega
theorem iF_len (l : List P3) (hl : l.length ≤ 12) : ∀ (m i : Nat) (st : St2), sz2 (iF l m i st) ≤ sz2 st + 576 * m
  | 0, i, st => by simp [iF]
  | m + 1, i, st => by
    have h1 := iF_len l hl m (i + 1) (jF l i (l.length - (i + 1)) (i + 1) st)
    have h2 := jF_len l i hl (l.length - (i + 1)) (i + 1) st
    simp only [iF]; omega
theorem edges_val {α : Type} (es : List P3) (hes : es.length < 1000) (k1 : List P3 → Option α) : ∀ (fuel i : Nat) (E : List P3), i ≤ es.length → es.length - i < fuel → E.length + (es.length - i) < 1000000 →
    M.core_l2 (es.length : Int) es k1 fuel (i : Int) E = k1 ((es.drop i).foldl addE E)
  | 0, i, E, h1, h2, h3 => by omega
  | f + 1, i, E, h1, h2, h3 => by
    unfold M.core_l2 M.core_l2_step
    rw [cLt_nat]
    by_cases hi : i < es.length
    · have a2 := addE_len E (pt es i)
      have hd := drop_pt es i hi
      rw [w_next (by omega)]
      rw [if_pos (by simpa using hi), if_pos (by omega : (0 : Int) ≤ (i : Int) ∧ (i : Int) < (es.length : Int)), if_pos (lenB_of (n := E.length) (by omega)), if_pos (lenB_of (n := E.length) (by omega)), if_pos (by omega : (E.length + (0 + 1)) * 24 ≤ 140737488355328)]
      rw [hd, List.foldl_cons]
      have e : ∀ X, X = addE E (pt es i) → M.core_l2 (es.length : Int) es k1 f ((i + 1 : Nat) : Int) X = k1 ((es.drop (i + 1)).foldl addE (addE E (pt es i))) := by
        intro X hX
        rw [hX]
        exact edges_val es hes k1 f (i + 1) _ (by omega) (by omega) (by omega)
      show (if (!V.hasP E (V.pShort (pt es i))) = true then if (!V.hasP E (negP (V.pShort (pt es i)))) = true then _ else _ else _) = _
      unfold V.hasP
      by_cases c1 : V.pShort (pt es i) ∈ E
      · rw [if_neg (by simp [c1])]
        exact e E (by unfold addE; rw [if_pos (.inl c1)])
      · rw [if_pos (by simp [c1])]
        by_cases c2 : negP (V.pShort (pt es i)) ∈ E
        · rw [if_neg (by simp [c2])]
          exact e E (by unfold addE; rw [if_pos (.inr c2)])
        · rw [if_pos (by simp [c2])]
          exact e _ (by unfold addE; rw [if_neg (by rintro (h | h); exact c1 h; exact c2 h)]; rfl)
    · have : i = es.length := by omega
      subst this
      simp
theorem w_pred {n : Nat} (h0 : 0 < n) (h : n < 1099511627776) : IntKind.wrap .i64 ((n : Int) - 1) = ((n - 1 : Nat) : Int) := by
  rw [IntWalk.i64_in _ (by omega)]; omega
theorem cEq_nat (i n : Nat) : cEq (i : Int) (n : Int) = decide (i = n) := by
  rw [cEq_eq, Bool.eq_iff_iff]; simp [Int.natCast_inj]
theorem tri_val {α : Type} (l : List P3) (hl : l.length ≤ 12) (i j k : Nat) (hi : i < l.length) (hj : j < l.length) (hk : k < l.length) (a b c d e f g h A E : List P3) (hA : A.length + E.length < 900000) (k0 k1 : List P3 → List P3 → Option α) (kn : Int → List P3 → List P3 → Option α) :
    M.core_l3_step (i : Int) (j : Int) a b c d e f g h l kn k0 k1 (k : Int) A E = kn ((k + 1 : Nat) : Int) (trip l i j k (A, E)).1 (trip l i j k (A, E)).2 := by
  unfold M.core_l3_step
  have ci : (0 : Int) ≤ (i : Int) ∧ (i : Int) < (l.length : Int) := by omega
  have cj : (0 : Int) ≤ (j : Int) ∧ (j : Int) < (l.length : Int) := by omega
  have ck : (0 : Int) ≤ (k : Int) ∧ (k : Int) < (l.length : Int) := by omega
  rw [cEq_nat, if_neg (by simp; omega), if_pos cj, if_pos ci, if_pos ck, if_pos ci, if_pos ci, if_pos (lenB_of (n := l.length) (by omega)), w_next (by omega)]
  have hN : (cEq (triN l i j k).1 (0 : Int) && (cEq (triN l i j k).2.1 (0 : Int) && (cEq (triN l i j k).2.2 (0 : Int) && true))) = decide (triN l i j k = (0, 0, 0)) := eq3 _ _ _ (0, 0, 0)
  show (if (cEq (triN l i j k).1 (0 : Int) && (cEq (triN l i j k).2.1 (0 : Int) && (cEq (triN l i j k).2.2 (0 : Int) && true))) = true then kn _ A E else if cEq (triS l i j k) 0 = true then kn _ A E else _) = _
  rw [hN, cEq_eq]
  by_cases c1 : triN l i j k = (0, 0, 0)
  · have e : trip l i j k (A, E) = (A, E) := by unfold trip; rw [if_pos c1]
    rw [if_pos (by simpa using c1), e]
  · rw [if_neg (by simpa using c1)]
    by_cases c2 : triS l i j k = 0
    · have e : trip l i j k (A, E) = (A, E) := by unfold trip; rw [if_neg c1, if_pos c2]
      rw [if_pos (by simpa using c2), e]
    · rw [if_neg (by simpa using c2), if_pos (lenB_of (n := A.length) (by omega))]
      have e : trip l i j k (A, E) = (if triA l i j k ∈ A then A else A ++ [triA l i j k], (triE l i j k).foldl addE E) := by unfold trip; rw [if_neg c1, if_neg c2]
      rw [e]
      show (if (!V.hasP A (triA l i j k)) = true then _ else _) = _
      unfold V.hasP
      have h2 : ∀ (fuel : Nat) (k1 : List P3 → Option α), 3 < fuel → M.core_l2 (↑((2 : Nat) + (1 : Nat)) : Int) (triE l i j k) k1 fuel (0 : Int) E = k1 ((triE l i j k).foldl addE E) := by
        intro fuel k1 hf
        exact edges_val (triE l i j k) (by show 3 < 1000; omega) k1 fuel 0 E (Nat.zero_le _) (by show 3 - 0 < fuel; omega) (by show E.length + (3 - 0) < 1000000; omega)
      by_cases c3 : triA l i j k ∈ A
      · rw [if_neg (by simp [c3]), if_pos cj, if_pos ci, if_pos ck, if_pos ci, if_pos ck, if_pos cj, if_pos c3]
        refine (h2 _ _ (by omega)).trans ?_
        rfl
      · rw [if_pos (by simp [c3]), if_pos (by omega : (A.length + (0 + 1)) * 24 ≤ 140737488355328), if_pos cj, if_pos ci, if_pos ck, if_pos ci, if_pos ck, if_pos cj, if_neg c3]
        refine (h2 _ _ (by omega)).trans ?_
        rfl
theorem kF_val {α : Type} (l : List P3) (hl : l.length ≤ 12) (i j : Nat) (hi : i < l.length) (hj : j < l.length) (a b c d e f g h : List P3) (k0 k1 : List P3 → List P3 → Option α) : ∀ (fuel k : Nat) (st : St2), k ≤ l.length → l.length - k < fuel → sz2 st + 4 * (l.length - k) < 900000 →
    M.core_l3 (i : Int) (j : Int) a b c d e f g h l k0 k1 fuel (k : Int) st.1 st.2 = if j = l.length - 1 then k0 (kF l i j (l.length - k) k st).1 (kF l i j (l.length - k) k st).2 else k1 (kF l i j (l.length - k) k st).1 (kF l i j (l.length - k) k st).2
  | 0, k, st, h1, h2, h3 => by omega
  | fu + 1, k, st, h1, h2, h3 => by
    unfold M.core_l3
    by_cases hk : k < l.length
    · have hs := trip_len l i j k st
      rw [tri_val l hl i j k hi hj hk _ _ _ _ _ _ _ _ _ _ (by unfold sz2 at h3; omega)]
      rw [kF_val l hl i j hi hj a b c d e f g h k0 k1 fu (k + 1) (trip l i j k (st.1, st.2)) (by omega) (by omega) (by show sz2 (trip l i j k st) + _ < _; omega)]
      have hq : l.length - k = (l.length - (k + 1)) + 1 := by omega
      rw [hq]
      rfl
    · have hk' : k = l.length := by omega
      subst hk'
      unfold M.core_l3_step
      rw [cEq_nat, if_pos (by simp), w_pred (by omega) (by omega), cEq_nat, Nat.sub_self]
      simp only [decide_eq_true_eq, kF]
theorem jF_val {α : Type} (l : List P3) (hl : l.length ≤ 12) (i : Nat) (hi : i < l.length) (a b c d e f g h : List P3) (kk : List P3 → List P3 → Option α) : ∀ (fuel j : Nat) (st : St2), i < j → j ≤ l.length → l.length - j < fuel → sz2 st + 48 * (l.length - j) < 800000 →
    M.core_l4 (i : Int) a b c d e f g h l kk kk fuel (j : Int) st.1 st.2 = kk (jF l i (l.length - j) j st).1 (jF l i (l.length - j) j st).2
  | 0, j, st, h0, h1, h2, h3 => by omega
  | fu + 1, j, st, h0, h1, h2, h3 => by
    unfold M.core_l4 M.core_l4_step
    rw [cLt_nat]
    by_cases hj : j < l.length
    · have hs := kF_len l i j (l.length - (j + 1)) (j + 1) st
      rw [if_pos (by simpa using hj), w_next (by omega)]
      rw [kF_val l hl i j hi hj a b c d e f g h _ _ _ (j + 1) st (by omega) (by omega) (by omega)]
      have hq : l.length - j = (l.length - (j + 1)) + 1 := by omega
      rw [hq]
      simp only [jF]
      by_cases hj2 : j = l.length - 1
      · rw [if_pos hj2]
        have e2 : l.length - (j + 1) = 0 := by omega
        rw [e2]
        simp only [jF]
      · rw [if_neg hj2]
        exact jF_val l hl i hi a b c d e f g h kk fu (j + 1) (kF l i j (l.length - (j + 1)) (j + 1) st) (by omega) (by omega) (by omega) (by omega)
    · have hj' : j = l.length := by omega
      subst hj'
      rw [if_neg (by simp), Nat.sub_self]
      simp only [jF]
theorem iF_val {α : Type} (l : List P3) (hl : l.length ≤ 12) (a b c d e f g h : List P3) (k1 : List P3 → List P3 → Option α) : ∀ (fuel i : Nat) (st : St2), i ≤ l.length → l.length - i < fuel → sz2 st + 576 * (l.length - i) < 700000 →
    M.core_l5 (l.length : Int) a b c d e f g h l k1 fuel (i : Int) st.1 st.2 = k1 (iF l (l.length - i) i st).1 (iF l (l.length - i) i st).2
  | 0, i, st, h1, h2, h3 => by omega
  | fu + 1, i, st, h1, h2, h3 => by
    unfold M.core_l5 M.core_l5_step
    rw [cLt_nat]
    by_cases hi : i < l.length
    · have hs := jF_len l i hl (l.length - (i + 1)) (i + 1) st
      rw [if_pos (by simpa using hi), w_next (by omega)]
      rw [jF_val l hl i hi a b c d e f g h _ _ (i + 1) st (by omega) (by omega) (by omega) (by omega)]
      have hq : l.length - i = (l.length - (i + 1)) + 1 := by omega
      rw [hq]
      simp only [iF]
      exact iF_val l hl a b c d e f g h k1 fu (i + 1) (jF l i (l.length - (i + 1)) (i + 1) st) (by omega) (by omega) (by omega)
    · have hi' : i = l.length := by omega
      subst hi'
      rw [if_neg (by simp), Nat.sub_self]
      simp only [iF]
def brickP (x y z : Int) : List P3 := [(-x, -y, -z), (-x, -y, z), (-x, y, -z), (-x, y, z), (x, -y, -z), (x, -y, z), (x, y, -z), (x, y, z)]
noncomputable def corPP (k hx hy hz : Int) (l : List P3) : List P3 := if k = 1 then [(0, 0, 0)] else if k = 2 then [(-hx, 0, 0), (hx, 0, 0)] else if k = 3 then brickP hx hy hz else l
noncomputable def corAP (k : Int) (l : List P3) : List P3 := if k = 3 then [(1, 0, 0), (0, 1, 0), (0, 0, 1)] else if k = 4 then (facesP l).1 else []
noncomputable def corEP (k : Int) (l : List P3) : List P3 := if k = 2 then [(1, 0, 0)] else if k = 3 then [(1, 0, 0), (0, 1, 0), (0, 0, 1)] else if k = 4 then (facesP l).2 else []
noncomputable def _root_.Go.Proofs.Ytkjellhkamfciaa.V.corP (k r hx hy hz : Int) (l : List P3) : List P3 := hid (if chkP k r hx hy hz l = 0 then corPP k hx hy hz l else [])
noncomputable def _root_.Go.Proofs.Ytkjellhkamfciaa.V.corA (k r hx hy hz : Int) (l : List P3) : List P3 := hid (if chkP k r hx hy hz l = 0 then corAP k l else [])
noncomputable def _root_.Go.Proofs.Ytkjellhkamfciaa.V.corE (k r hx hy hz : Int) (l : List P3) : List P3 := hid (if chkP k r hx hy hz l = 0 then corEP k l else [])
noncomputable def _root_.Go.Proofs.Ytkjellhkamfciaa.V.corR (k r hx hy hz : Int) (l : List P3) : Int := hid (if chkP k r hx hy hz l = 0 then r else 0)
theorem chk_range {k r hx hy hz : Int} {l : List P3} (h : chkP k r hx hy hz l = 0) :
    (k = 1 ∧ 1 ≤ r ∧ r ≤ 16384) ∨ (k = 2 ∧ (1 ≤ r ∧ r ≤ 16384) ∧ 1 ≤ hx ∧ hx ≤ 65536) ∨ (k = 3 ∧ (0 ≤ r ∧ r ≤ 16384) ∧ (1 ≤ hx ∧ hx ≤ 65536) ∧ (1 ≤ hy ∧ hy ≤ 65536) ∧ 1 ≤ hz ∧ hz ≤ 65536) ∨
      (k = 4 ∧ (0 ≤ r ∧ r ≤ 16384) ∧ (4 ≤ l.length ∧ l.length ≤ 12) ∧ V.apartP l = true ∧ V.flatP l = false) := by
  unfold chkP at h
  split at h
  · rename_i hk
    split at h
    · rename_i h1; simp [inZ] at h1; exact .inl ⟨hk, h1⟩
    · cases h
  split at h
  · rename_i hk
    split at h
    · rename_i h1; simp [inZ] at h1; exact .inr (.inl ⟨hk, h1.2, h1.1⟩)
    · cases h
  split at h
  · rename_i hk
    split at h
    · rename_i h1; simp [inZ] at h1; exact .inr (.inr (.inl ⟨hk, h1.2, h1.1.1.1, h1.1.1.2, h1.1.2⟩))
    · cases h
  split at h
  · rename_i hk
    split at h
    · rename_i h1
      split at h
      · cases h
      · rename_i hf
        simp [inZ] at h1
        exact .inr (.inr (.inr ⟨hk, h1.2, by omega, h1.1.2, by simpa using hf⟩))
    · cases h
  · cases h
theorem brick_l0 {α : Type} (x y z : Int) (hz : -65536 ≤ z ∧ z ≤ 65536) (k1 : List P3 → Option α) (fuel : Nat) (hf : 3 ≤ fuel) (pts : List P3) (hp : pts.length < 1000) :
    M.core_l0 x (↑((0 : Nat) + (1 : Nat) + (1 : Nat)) : Int) z [IntKind.wrap .i64 (0 - y), y] k1 fuel 0 pts = k1 (pts ++ [(x, IntKind.wrap .i64 (0 - y), -z), (x, IntKind.wrap .i64 (0 - y), z)] ++ [(x, y, -z), (x, y, z)]) := by
  obtain ⟨f, rfl⟩ : ∃ f, fuel = f + 3 := ⟨fuel - 3, by omega⟩
  have w0 : IntKind.wrap .i64 (0 + 1) = 1 := by decide
  have w1 : IntKind.wrap .i64 (1 + 1) = 2 := by decide
  have wz : IntKind.wrap .i64 (0 - z) = -z := by rw [IntWalk.i64_in _ (by omega)]; omega
  have l0 : cLt (0 : Int) (↑((0 : Nat) + (1 : Nat) + (1 : Nat)) : Int) = true := by rw [cLt_eq]; decide
  have l1 : cLt (1 : Int) (↑((0 : Nat) + (1 : Nat) + (1 : Nat)) : Int) = true := by rw [cLt_eq]; decide
  have l2 : ¬ cLt (2 : Int) (↑((0 : Nat) + (1 : Nat) + (1 : Nat)) : Int) = true := by rw [cLt_eq]; decide
  have c0 : (0 : Int) ≤ 0 ∧ (0 : Int) < ((List.length [IntKind.wrap .i64 (0 - y), y] : Nat) : Int) := by simp
  have c1 : (0 : Int) ≤ 1 ∧ (1 : Int) < ((List.length [IntKind.wrap .i64 (0 - y), y] : Nat) : Int) := by simp
  have q : ∀ (m : Nat) (n : Nat), m < 2000 → n < 10 → (m + n) * 24 ≤ 140737488355328 := by intro m n h1 h2; omega
  unfold M.core_l0 M.core_l0_step
  rw [if_pos l0, if_pos c0, if_pos (q _ _ (by omega) (by decide)), w0, wz]
  unfold M.core_l0 M.core_l0_step
  rw [if_pos l1, if_pos c1, if_pos (q _ _ (by rw [List.length_append]; simp; omega) (by decide)), w1, wz]
  unfold M.core_l0 M.core_l0_step
  rw [if_neg l2]
  rfl
theorem brick_l1 {α : Type} (x y z : Int) (hx : -65536 ≤ x ∧ x ≤ 65536) (hy : -65536 ≤ y ∧ y ≤ 65536) (hz : -65536 ≤ z ∧ z ≤ 65536) (a b c d e g : List P3) (k1 : List P3 → Option α) (fuel : Nat) (hf : 3 ≤ fuel) :
    M.core_l1 (↑((0 : Nat) + (1 : Nat) + (1 : Nat)) : Int) y z a b c d e g [IntKind.wrap .i64 (0 - x), x] k1 fuel 0 [] = k1 (brickP x y z) := by
  obtain ⟨f, rfl⟩ : ∃ f, fuel = f + 3 := ⟨fuel - 3, by omega⟩
  have w0 : IntKind.wrap .i64 (0 + 1) = 1 := by decide
  have w1 : IntKind.wrap .i64 (1 + 1) = 2 := by decide
  have wx : IntKind.wrap .i64 (0 - x) = -x := by rw [IntWalk.i64_in _ (by omega)]; omega
  have wy : IntKind.wrap .i64 (0 - y) = -y := by rw [IntWalk.i64_in _ (by omega)]; omega
  have hb := fun (x : Int) (k1 : List P3 → Option α) (fuel : Nat) (hf : 3 ≤ fuel) (pts : List P3) (hp : pts.length < 1000) => brick_l0 x y z hz k1 fuel hf pts hp
  have c0 : (0 : Int) ≤ 0 ∧ (0 : Int) < ((List.length [IntKind.wrap .i64 (0 - x), x] : Nat) : Int) := by simp
  have c1 : (0 : Int) ≤ 1 ∧ (1 : Int) < ((List.length [IntKind.wrap .i64 (0 - x), x] : Nat) : Int) := by simp
  have l0 : cLt (0 : Int) (↑((0 : Nat) + (1 : Nat) + (1 : Nat)) : Int) = true := by rw [cLt_eq]; decide
  have l1 : cLt (1 : Int) (↑((0 : Nat) + (1 : Nat) + (1 : Nat)) : Int) = true := by rw [cLt_eq]; decide
  have l2 : ¬ cLt (2 : Int) (↑((0 : Nat) + (1 : Nat) + (1 : Nat)) : Int) = true := by rw [cLt_eq]; decide
  unfold M.core_l1 M.core_l1_step
  rw [if_pos l0, if_pos c0]
  rw [hb _ _ _ (by omega) _ (by simp), w0]
  unfold M.core_l1 M.core_l1_step
  rw [if_pos l1, if_pos c1]
  rw [hb _ _ _ (by omega) _ (by simp), w1]
  unfold M.core_l1 M.core_l1_step
  rw [if_neg l2]
  simp only [List.getD_cons_zero, List.getD_cons_succ, Int.toNat_zero, List.nil_append, show Int.toNat 1 = 1 from rfl, wx, wy]
  rfl
theorem core_v {α : Type} (k r hx hy hz : Int) (l : List P3) (k0 : Int → Int → List P3 → List P3 → List P3 → Option α) :
    M.core k r hx hy hz l k0 = k0 (V.corR k r hx hy hz l) (V.chk k r hx hy hz l) (V.corP k r hx hy hz l) (V.corA k r hx hy hz l) (V.corE k r hx hy hz l) := by
  unfold M.core V.corR V.corP V.corA V.corE V.chk
  simp only [hid_eq, cEq_eq]
  by_cases hc : chkP k r hx hy hz l = 0
  · simp only [hc, beq_self_eq_true, Bool.not_true, Bool.false_eq_true, if_false, if_true, beq_iff_eq]
    rcases chk_range hc with ⟨rfl, h1⟩ | ⟨rfl, h1, h2⟩ | ⟨rfl, h1, h2, h3, h4⟩ | ⟨rfl, h1, h2, h3, h4⟩
    · rfl
    · have wx : IntKind.wrap .i64 (0 - hx) = -hx := by rw [IntWalk.i64_in _ (by omega)]; omega
      simp only [wx]
      rfl
    · simp only [Int.reduceEq, if_false, if_true]
      rw [brick_l1 hx hy hz (by omega) (by omega) (by omega) _ _ _ _ _ _ _ _ (by omega), if_pos (lenB_of (n := 3) (by omega))]
      rfl
    · simp only [Int.reduceEq, if_false, if_true]
      rw [if_pos (lenB_of (n := l.length) (by omega))]
      have := iF_val l h2.2 l [] [] [] [] [] [] [] (fun (x402 x403 : List P3) => k0 r (0 : Int) l x402 x403) (100 + l.length + 0 + 0 + 0 + 0 + 0 + 0 + 0 + l.length + 0 + 0) 0 ([], []) (by omega) (by omega) (by show 0 + 576 * _ < 700000; omega)
      refine Eq.trans this ?_
      rfl
  · simp [hc]
noncomputable def core_h {α : Type} (ds : List D) (Q : SV → Hp → Option α) : Option α :=
  dI ds fun k ds => dI ds fun r ds => dI ds fun hx ds => dI ds fun hy ds => dI ds fun hz ds => dL kP ds fun l ds => dE ds (Q (.tup [.agg [.sl 0, .sl 1, .sl 2, .int .i64 (V.corR k r hx hy hz l)], .int .i64 (V.chk k r hx hy hz l)]) ([.seq (.st (.i .i64) [.i .i64, .i .i64]) (V.corP k r hx hy hz l) 23, .seq (.st (.i .i64) [.i .i64, .i .i64]) (V.corA k r hx hy hz l) 23, .seq (.st (.i .i64) [.i .i64, .i .i64]) (V.corE k r hx hy hz l) 23]))
theorem core_h_ok {α : Type} : FnOk E.P 13 (fEnt (α := α) core_sp core_h) :=
  fEntR_ok E (look_check_ok) (exec_sound E E_ok (look_check_ok) (core_l5_lps_ok) 400) fun ds Q r h => by
    unfold core_h at h
    obtain ⟨k, ds, rfl, h1⟩ := dI_inv h
    obtain ⟨r, ds, rfl, h2⟩ := dI_inv h1
    obtain ⟨hx, ds, rfl, h3⟩ := dI_inv h2
    obtain ⟨hy, ds, rfl, h4⟩ := dI_inv h3
    obtain ⟨hz, ds, rfl, h5⟩ := dI_inv h4
    obtain ⟨l, ds, rfl, h6⟩ := dL_inv h5
    obtain ⟨rfl, hE⟩ := dE_inv h6
    exact ⟨_, _, hE, fun vs => ⟨_, _, by kernel_rfl, (core_eq k r hx hy hz l ((cellsV (vs.headD undef)).tail.tail.tail.tail.tail.headD undef) _).trans (core_v k r hx hy hz l _)⟩⟩
noncomputable def look_core {α : Type} : LookF α := addFn 13 (fEnt core_sp core_h) look_check
theorem look_core_ok {α : Type} : LookOk E.P (look_core (α := α)) := addFn_ok core_h_ok (look_check_ok)
end Go.Proofs.Ytkjellhkamfciaa.Sx
end

section
/- shape: masses. -/
namespace Go.Proofs.Ytkjellhkamfciaa.Sx
open Go
set_option maxRecDepth 20000
set_option linter.unusedVariables false
set_option linter.unusedSimpArgs false
noncomputable abbrev mass_S1 (y1 y2 y3 y4 y5 y6 y7 y8 y9 : Int) (y10 : Value) (y11 : L3) (y12 y13 y14 y15 y16 : Int) (y17 y18 y19 y20 y21 y22 : L3) (y23 : Int) (y24 : Bool) (y25 y26 y27 y28 : Int) : St := St.mk (none :: some (SV.fn (nat_lit 36) [] []) :: some (SV.ptr (nat_lit 12) (nat_lit 0)) :: none :: none :: some (SV.int .i64 y1) :: some (SV.int .i64 y2) :: nn 15 (some (SV.sl (nat_lit 3)) :: some (SV.int .i64 y3) :: some (SV.int .i64 y4) :: nn 22 ([]))) [.cells [SV.int .i64 y5, SV.int .i64 y6, SV.int .i64 y7, SV.int .i64 y8, SV.int .i64 y9, SV.ros y10 kP y11] (nat_lit 26), .cells [SV.int .i64 y12] (nat_lit 3), .cells [SV.int .i64 y13, SV.int .i64 y14, SV.int .i64 y15, SV.int .i64 y16] (nat_lit 36), .seq kP y17 (nat_lit 23), .seq kP y18 (nat_lit 23), .seq kP y19 (nat_lit 23), .seq kP y20 (nat_lit 23), .seq kP y21 (nat_lit 23), .seq kP y22 (nat_lit 23), .cells [SV.sl (nat_lit 3), SV.sl (nat_lit 4), SV.sl (nat_lit 5), SV.int .i64 y23] (nat_lit 31), .cells [SV.bool y24] (nat_lit 62), .cells [SV.int .i64 y25, SV.int .i64 y26, SV.int .i64 y27] (nat_lit 34), .cells [SV.sl (nat_lit 3), SV.sl (nat_lit 4), SV.sl (nat_lit 5), SV.int .i64 y28] (nat_lit 31)]
noncomputable abbrev mass_S2 (y1 y2 y3 y4 y5 y6 y7 : Int) (y8 : Value) (y9 : L3) (y10 y11 y12 y13 y14 : Int) (y15 y16 y17 y18 y19 y20 : L3) (y21 : Int) (y22 : Bool) (y23 y24 y25 y26 : Int) : St := St.mk (none :: none :: some (SV.ptr (nat_lit 12) (nat_lit 0)) :: none :: none :: some (SV.int .i64 y1) :: some (SV.int .i64 y2) :: nn 40 ([])) [.cells [SV.int .i64 y3, SV.int .i64 y4, SV.int .i64 y5, SV.int .i64 y6, SV.int .i64 y7, SV.ros y8 kP y9] (nat_lit 26), .cells [SV.int .i64 y10] (nat_lit 3), .cells [SV.int .i64 y11, SV.int .i64 y12, SV.int .i64 y13, SV.int .i64 y14] (nat_lit 36), .seq kP y15 (nat_lit 23), .seq kP y16 (nat_lit 23), .seq kP y17 (nat_lit 23), .seq kP y18 (nat_lit 23), .seq kP y19 (nat_lit 23), .seq kP y20 (nat_lit 23), .cells [SV.sl (nat_lit 3), SV.sl (nat_lit 4), SV.sl (nat_lit 5), SV.int .i64 y21] (nat_lit 31), .cells [SV.bool y22] (nat_lit 62), .cells [SV.int .i64 y23, SV.int .i64 y24, SV.int .i64 y25] (nat_lit 34), .cells [SV.sl (nat_lit 3), SV.sl (nat_lit 4), SV.sl (nat_lit 5), SV.int .i64 y26] (nat_lit 31)]
noncomputable abbrev mass_S3 : St := St.mk (none :: some (SV.fn (nat_lit 36) [] []) :: some (SV.ptr (nat_lit 12) (nat_lit 0)) :: none :: none :: some (SV.int .i64 (0 : Int)) :: some (SV.int .i64 (0 : Int)) :: nn 15 (some (SV.sl (nat_lit 3)) :: some (SV.int .i64 (0 : Int)) :: some (SV.int .i64 (0 : Int)) :: nn 22 ([]))) [.cells [SV.int .i64 (0 : Int), SV.int .i64 (0 : Int), SV.int .i64 (0 : Int), SV.int .i64 (0 : Int), SV.int .i64 (0 : Int), SV.ros undef kP []] (nat_lit 26), .cells [SV.int .i64 (0 : Int)] (nat_lit 3), .cells [SV.int .i64 (0 : Int), SV.int .i64 (0 : Int), SV.int .i64 (0 : Int), SV.int .i64 (0 : Int)] (nat_lit 36), .seq kP [] (nat_lit 23), .seq kP [] (nat_lit 23), .seq kP [] (nat_lit 23), .seq kP [] (nat_lit 23), .seq kP [] (nat_lit 23), .seq kP [] (nat_lit 23), .cells [SV.sl (nat_lit 3), SV.sl (nat_lit 4), SV.sl (nat_lit 5), SV.int .i64 (0 : Int)] (nat_lit 31), .cells [SV.bool false] (nat_lit 62), .cells [SV.int .i64 (0 : Int), SV.int .i64 (0 : Int), SV.int .i64 (0 : Int)] (nat_lit 34), .cells [SV.sl (nat_lit 3), SV.sl (nat_lit 4), SV.sl (nat_lit 5), SV.int .i64 (0 : Int)] (nat_lit 31)]
noncomputable abbrev mass_S4 (y1 y2 y3 y4 y5 y6 y7 y8 y9 : Int) (y10 : Value) (y11 : L3) (y12 y13 y14 y15 y16 : Int) (y17 y18 y19 y20 y21 y22 : L3) (y23 : Int) (y24 : Bool) (y25 y26 y27 y28 : Int) : St := St.mk (none :: some (SV.fn (nat_lit 37) [] []) :: some (SV.ptr (nat_lit 12) (nat_lit 0)) :: none :: none :: some (SV.int .i64 y1) :: some (SV.int .i64 y2) :: nn 15 (some (SV.sl (nat_lit 3)) :: some (SV.int .i64 y3) :: some (SV.int .i64 y4) :: nn 22 ([]))) [.cells [SV.int .i64 y5, SV.int .i64 y6, SV.int .i64 y7, SV.int .i64 y8, SV.int .i64 y9, SV.ros y10 kP y11] (nat_lit 26), .cells [SV.int .i64 y12] (nat_lit 3), .cells [SV.int .i64 y13, SV.int .i64 y14, SV.int .i64 y15, SV.int .i64 y16] (nat_lit 36), .seq kP y17 (nat_lit 23), .seq kP y18 (nat_lit 23), .seq kP y19 (nat_lit 23), .seq kP y20 (nat_lit 23), .seq kP y21 (nat_lit 23), .seq kP y22 (nat_lit 23), .cells [SV.sl (nat_lit 3), SV.sl (nat_lit 4), SV.sl (nat_lit 5), SV.int .i64 y23] (nat_lit 31), .cells [SV.bool y24] (nat_lit 62), .cells [SV.int .i64 y25, SV.int .i64 y26, SV.int .i64 y27] (nat_lit 34), .cells [SV.sl (nat_lit 3), SV.sl (nat_lit 4), SV.sl (nat_lit 5), SV.int .i64 y28] (nat_lit 31)]
noncomputable abbrev mass_S5 : St := St.mk (none :: some (SV.fn (nat_lit 37) [] []) :: some (SV.ptr (nat_lit 12) (nat_lit 0)) :: none :: none :: some (SV.int .i64 (0 : Int)) :: some (SV.int .i64 (0 : Int)) :: nn 15 (some (SV.sl (nat_lit 3)) :: some (SV.int .i64 (0 : Int)) :: some (SV.int .i64 (0 : Int)) :: nn 22 ([]))) [.cells [SV.int .i64 (0 : Int), SV.int .i64 (0 : Int), SV.int .i64 (0 : Int), SV.int .i64 (0 : Int), SV.int .i64 (0 : Int), SV.ros undef kP []] (nat_lit 26), .cells [SV.int .i64 (0 : Int)] (nat_lit 3), .cells [SV.int .i64 (0 : Int), SV.int .i64 (0 : Int), SV.int .i64 (0 : Int), SV.int .i64 (0 : Int)] (nat_lit 36), .seq kP [] (nat_lit 23), .seq kP [] (nat_lit 23), .seq kP [] (nat_lit 23), .seq kP [] (nat_lit 23), .seq kP [] (nat_lit 23), .seq kP [] (nat_lit 23), .cells [SV.sl (nat_lit 3), SV.sl (nat_lit 4), SV.sl (nat_lit 5), SV.int .i64 (0 : Int)] (nat_lit 31), .cells [SV.bool false] (nat_lit 62), .cells [SV.int .i64 (0 : Int), SV.int .i64 (0 : Int), SV.int .i64 (0 : Int)] (nat_lit 34), .cells [SV.sl (nat_lit 3), SV.sl (nat_lit 4), SV.sl (nat_lit 5), SV.int .i64 (0 : Int)] (nat_lit 31)]
noncomputable abbrev mass_S6 (y1 y2 y3 y4 y5 y6 y7 y8 y9 : Int) (y10 : Value) (y11 : L3) (y12 y13 y14 y15 y16 : Int) (y17 y18 y19 y20 y21 y22 : L3) (y23 : Int) (y24 : Bool) (y25 y26 y27 y28 : Int) : St := St.mk (none :: some (SV.fn (nat_lit 38) [] []) :: some (SV.ptr (nat_lit 12) (nat_lit 0)) :: none :: none :: some (SV.int .i64 y1) :: some (SV.int .i64 y2) :: nn 15 (some (SV.sl (nat_lit 3)) :: some (SV.int .i64 y3) :: some (SV.int .i64 y4) :: nn 22 ([]))) [.cells [SV.int .i64 y5, SV.int .i64 y6, SV.int .i64 y7, SV.int .i64 y8, SV.int .i64 y9, SV.ros y10 kP y11] (nat_lit 26), .cells [SV.int .i64 y12] (nat_lit 3), .cells [SV.int .i64 y13, SV.int .i64 y14, SV.int .i64 y15, SV.int .i64 y16] (nat_lit 36), .seq kP y17 (nat_lit 23), .seq kP y18 (nat_lit 23), .seq kP y19 (nat_lit 23), .seq kP y20 (nat_lit 23), .seq kP y21 (nat_lit 23), .seq kP y22 (nat_lit 23), .cells [SV.sl (nat_lit 3), SV.sl (nat_lit 4), SV.sl (nat_lit 5), SV.int .i64 y23] (nat_lit 31), .cells [SV.bool y24] (nat_lit 62), .cells [SV.int .i64 y25, SV.int .i64 y26, SV.int .i64 y27] (nat_lit 34), .cells [SV.sl (nat_lit 3), SV.sl (nat_lit 4), SV.sl (nat_lit 5), SV.int .i64 y28] (nat_lit 31)]
noncomputable abbrev mass_S7 : St := St.mk (none :: some (SV.fn (nat_lit 38) [] []) :: some (SV.ptr (nat_lit 12) (nat_lit 0)) :: none :: none :: some (SV.int .i64 (0 : Int)) :: some (SV.int .i64 (0 : Int)) :: nn 15 (some (SV.sl (nat_lit 3)) :: some (SV.int .i64 (0 : Int)) :: some (SV.int .i64 (0 : Int)) :: nn 22 ([]))) [.cells [SV.int .i64 (0 : Int), SV.int .i64 (0 : Int), SV.int .i64 (0 : Int), SV.int .i64 (0 : Int), SV.int .i64 (0 : Int), SV.ros undef kP []] (nat_lit 26), .cells [SV.int .i64 (0 : Int)] (nat_lit 3), .cells [SV.int .i64 (0 : Int), SV.int .i64 (0 : Int), SV.int .i64 (0 : Int), SV.int .i64 (0 : Int)] (nat_lit 36), .seq kP [] (nat_lit 23), .seq kP [] (nat_lit 23), .seq kP [] (nat_lit 23), .seq kP [] (nat_lit 23), .seq kP [] (nat_lit 23), .seq kP [] (nat_lit 23), .cells [SV.sl (nat_lit 3), SV.sl (nat_lit 4), SV.sl (nat_lit 5), SV.int .i64 (0 : Int)] (nat_lit 31), .cells [SV.bool false] (nat_lit 62), .cells [SV.int .i64 (0 : Int), SV.int .i64 (0 : Int), SV.int .i64 (0 : Int)] (nat_lit 34), .cells [SV.sl (nat_lit 3), SV.sl (nat_lit 4), SV.sl (nat_lit 5), SV.int .i64 (0 : Int)] (nat_lit 31)]
noncomputable def _root_.Go.Proofs.Ytkjellhkamfciaa.M.mass_l0_step {α : Type} (x31 : Int) (x45 : L3) (kn : Int → Int → Int → Option α) (k1 : Int → Int → Option α) (x29 : Int) (x30 : Int) (x32 : Int) : Option α :=
  if cLt x32 x31 = true then if (0 : Int) ≤ x32 ∧ x32 < (↑(List.length x45) : Int) then kn (if Prod.fst (List.getD x45 (Int.toNat x32) ((0 : Int), (0 : Int), (0 : Int))) < x29 then Prod.fst (List.getD x45 (Int.toNat x32) ((0 : Int), (0 : Int), (0 : Int))) else x29) (if Prod.fst (List.getD x45 (Int.toNat x32) ((0 : Int), (0 : Int), (0 : Int))) > x30 then Prod.fst (List.getD x45 (Int.toNat x32) ((0 : Int), (0 : Int), (0 : Int))) else x30) (IntKind.wrap .i64 (x32 + (1 : Int))) else none
else k1 x29 x30
noncomputable def _root_.Go.Proofs.Ytkjellhkamfciaa.M.mass_l0 {α : Type} (x31 : Int) (x45 : L3) (k1 : Int → Int → Option α) : Nat → Int → Int → Int → Option α
  | 0, _, _, _ => none
  | n + 1, x29, x30, x32 => M.mass_l0_step x31 x45 (M.mass_l0 x31 x45 k1 n) k1 x29 x30 x32
theorem mass_l0_step_eq {α : Type} (x29 : Int) (x30 : Int) (x31 : Int) (x32 : Int) (x33 : Int) (x34 : Int) (x35 : Int) (x36 : Int) (x37 : Int) (x38 : Value) (x39 : L3) (x40 : Int) (x41 : Int) (x42 : Int) (x43 : Int) (x44 : Int) (x45 : L3) (x46 : L3) (x47 : L3) (x48 : L3) (x49 : L3) (x50 : L3) (x51 : Int) (x52 : Bool) (x53 : Int) (x54 : Int) (x55 : Int) (x56 : Int) (Q : Ex → St → Option α) : (loopStep E (exec E look_core noLps 400) 35 [false, true, false, true, true] 12 (codeAt E.P 35 [false, true, false, true, true])) (mass_S1 x29 x30 x31 x32 x33 x34 x35 x36 x37 x38 x39 x40 x41 x42 x43 x44 x45 x46 x47 x48 x49 x50 x51 x52 x53 x54 x55 x56) Q = M.mass_l0_step x31 x45 (fun (x59 : Int) (x60 : Int) (x61 : Int) => Q .normal (mass_S1 x59 x60 x31 x61 x33 x34 x35 x36 x37 x38 x39 x40 x41 x42 x43 x44 x45 x46 x47 x48 x49 x50 x51 x52 x53 x54 x55 x56)) (fun (x57 : Int) (x58 : Int) => Q (.exit 0) (mass_S2 x57 x58 x33 x34 x35 x36 x37 x38 x39 x40 x41 x42 x43 x44 x45 x46 x47 x48 x49 x50 x51 x52 x53 x54 x55 x56)) x29 x30 x32 := by kernel_rfl
theorem mass_l0_iter {α : Type} (x31 : Int) (x33 : Int) (x34 : Int) (x35 : Int) (x36 : Int) (x37 : Int) (x38 : Value) (x39 : L3) (x40 : Int) (x41 : Int) (x42 : Int) (x43 : Int) (x44 : Int) (x45 : L3) (x46 : L3) (x47 : L3) (x48 : L3) (x49 : L3) (x50 : L3) (x51 : Int) (x52 : Bool) (x53 : Int) (x54 : Int) (x55 : Int) (x56 : Int) (Q : Ex → St → Option α) : ∀ (n : Nat) (x29 : Int) (x30 : Int) (x32 : Int), iter (loopStep E (exec E look_core noLps 400) 35 [false, true, false, true, true] 12 (codeAt E.P 35 [false, true, false, true, true])) n (mass_S1 x29 x30 x31 x32 x33 x34 x35 x36 x37 x38 x39 x40 x41 x42 x43 x44 x45 x46 x47 x48 x49 x50 x51 x52 x53 x54 x55 x56) Q = M.mass_l0 x31 x45 (fun (x57 : Int) (x58 : Int) => Q (.exit 0) (mass_S2 x57 x58 x33 x34 x35 x36 x37 x38 x39 x40 x41 x42 x43 x44 x45 x46 x47 x48 x49 x50 x51 x52 x53 x54 x55 x56)) n x29 x30 x32
  | 0, _, _, _ => rfl
  | n + 1, x29, x30, x32 => (mass_l0_step_eq x29 x30 x31 x32 x33 x34 x35 x36 x37 x38 x39 x40 x41 x42 x43 x44 x45 x46 x47 x48 x49 x50 x51 x52 x53 x54 x55 x56 (iterK (loopStep E (exec E look_core noLps 400) 35 [false, true, false, true, true] 12 (codeAt E.P 35 [false, true, false, true, true])) n Q)).trans (congrArg (fun kn => M.mass_l0_step x31 x45 kn (fun (x57 : Int) (x58 : Int) => Q (.exit 0) (mass_S2 x57 x58 x33 x34 x35 x36 x37 x38 x39 x40 x41 x42 x43 x44 x45 x46 x47 x48 x49 x50 x51 x52 x53 x54 x55 x56)) x29 x30 x32) (funext fun x29 => funext fun x30 => funext fun x32 => mass_l0_iter x31 x33 x34 x35 x36 x37 x38 x39 x40 x41 x42 x43 x44 x45 x46 x47 x48 x49 x50 x51 x52 x53 x54 x55 x56 Q n x29 x30 x32))
noncomputable def mass_l0_go {α : Type} (ds : List D) (Q : Ex → St → Option α) : Option α :=
  dI ds fun x29 ds => dI ds fun x30 ds => dI ds fun x31 ds => dI ds fun x32 ds => dI ds fun x33 ds => dI ds fun x34 ds => dI ds fun x35 ds => dI ds fun x36 ds => dI ds fun x37 ds => dV ds fun x38 ds => dL kP ds fun x39 ds => dI ds fun x40 ds => dI ds fun x41 ds => dI ds fun x42 ds => dI ds fun x43 ds => dI ds fun x44 ds => dL kP ds fun x45 ds => dL kP ds fun x46 ds => dL kP ds fun x47 ds => dL kP ds fun x48 ds => dL kP ds fun x49 ds => dL kP ds fun x50 ds => dI ds fun x51 ds => dB ds fun x52 ds => dI ds fun x53 ds => dI ds fun x54 ds => dI ds fun x55 ds => dI ds fun x56 ds => dE ds (M.mass_l0 x31 x45 (fun (x57 : Int) (x58 : Int) => Q (.exit 0) (mass_S2 x57 x58 x33 x34 x35 x36 x37 x38 x39 x40 x41 x42 x43 x44 x45 x46 x47 x48 x49 x50 x51 x52 x53 x54 x55 x56)) (100 + x39.length + x45.length + x46.length + x47.length + x48.length + x49.length + x50.length) x29 x30 x32)
theorem mass_l0_ok {α : Type} : LoopOk E.P 35 [false, true, false, true, true] 12 (lEnt (α := α) (mass_S3) mass_l0_go) :=
  lEnt_ok E (exec_sound E E_ok (look_core_ok) (noLps_ok _) 400) fun ds Q r h S hS => by
    unfold mass_l0_go at h
    obtain ⟨x29, ds, rfl, h1⟩ := dI_inv h
    obtain ⟨x30, ds, rfl, h2⟩ := dI_inv h1
    obtain ⟨x31, ds, rfl, h3⟩ := dI_inv h2
    obtain ⟨x32, ds, rfl, h4⟩ := dI_inv h3
    obtain ⟨x33, ds, rfl, h5⟩ := dI_inv h4
    obtain ⟨x34, ds, rfl, h6⟩ := dI_inv h5
    obtain ⟨x35, ds, rfl, h7⟩ := dI_inv h6
    obtain ⟨x36, ds, rfl, h8⟩ := dI_inv h7
    obtain ⟨x37, ds, rfl, h9⟩ := dI_inv h8
    obtain ⟨x38, ds, rfl, h10⟩ := dV_inv h9
    obtain ⟨x39, ds, rfl, h11⟩ := dL_inv h10
    obtain ⟨x40, ds, rfl, h12⟩ := dI_inv h11
    obtain ⟨x41, ds, rfl, h13⟩ := dI_inv h12
    obtain ⟨x42, ds, rfl, h14⟩ := dI_inv h13
    obtain ⟨x43, ds, rfl, h15⟩ := dI_inv h14
    obtain ⟨x44, ds, rfl, h16⟩ := dI_inv h15
    obtain ⟨x45, ds, rfl, h17⟩ := dL_inv h16
    obtain ⟨x46, ds, rfl, h18⟩ := dL_inv h17
    obtain ⟨x47, ds, rfl, h19⟩ := dL_inv h18
    obtain ⟨x48, ds, rfl, h20⟩ := dL_inv h19
    obtain ⟨x49, ds, rfl, h21⟩ := dL_inv h20
    obtain ⟨x50, ds, rfl, h22⟩ := dL_inv h21
    obtain ⟨x51, ds, rfl, h23⟩ := dI_inv h22
    obtain ⟨x52, ds, rfl, h24⟩ := dB_inv h23
    obtain ⟨x53, ds, rfl, h25⟩ := dI_inv h24
    obtain ⟨x54, ds, rfl, h26⟩ := dI_inv h25
    obtain ⟨x55, ds, rfl, h27⟩ := dI_inv h26
    obtain ⟨x56, ds, rfl, h28⟩ := dI_inv h27
    obtain ⟨rfl, hE⟩ := dE_inv h28
    have e : fillS (mass_S3) [.i x29, .i x30, .i x31, .i x32, .i x33, .i x34, .i x35, .i x36, .i x37, .v x38, .l kP x39, .i x40, .i x41, .i x42, .i x43, .i x44, .l kP x45, .l kP x46, .l kP x47, .l kP x48, .l kP x49, .l kP x50, .i x51, .b x52, .i x53, .i x54, .i x55, .i x56] = some (mass_S1 x29 x30 x31 x32 x33 x34 x35 x36 x37 x38 x39 x40 x41 x42 x43 x44 x45 x46 x47 x48 x49 x50 x51 x52 x53 x54 x55 x56) := by kernel_rfl
    rw [e] at hS
    cases hS
    exact ⟨_, (mass_l0_iter x31 x33 x34 x35 x36 x37 x38 x39 x40 x41 x42 x43 x44 x45 x46 x47 x48 x49 x50 x51 x52 x53 x54 x55 x56 Q _ x29 x30 x32).trans hE⟩
noncomputable def mass_l0_lps {α : Type} : LookL α := addLp 35 [false, true, false, true, true] 12 (lEnt (mass_S3) mass_l0_go) noLps
theorem mass_l0_lps_ok {α : Type} : LoopsOk E.P (mass_l0_lps (α := α)) := addLp_ok mass_l0_ok (noLps_ok _)

noncomputable def _root_.Go.Proofs.Ytkjellhkamfciaa.M.mass_l1_step {α : Type} (x95 : Int) (x109 : L3) (kn : Int → Int → Int → Option α) (k1 : Int → Int → Option α) (x93 : Int) (x94 : Int) (x96 : Int) : Option α :=
  if cLt x96 x95 = true then
  if (0 : Int) ≤ x96 ∧ x96 < (↑(List.length x109) : Int) then
    kn (if Prod.fst (Prod.snd (List.getD x109 (Int.toNat x96) ((0 : Int), (0 : Int), (0 : Int)))) < x93 then Prod.fst (Prod.snd (List.getD x109 (Int.toNat x96) ((0 : Int), (0 : Int), (0 : Int)))) else x93) (if Prod.fst (Prod.snd (List.getD x109 (Int.toNat x96) ((0 : Int), (0 : Int), (0 : Int)))) > x94 then Prod.fst (Prod.snd (List.getD x109 (Int.toNat x96) ((0 : Int), (0 : Int), (0 : Int)))) else x94) (IntKind.wrap .i64 (x96 + (1 : Int)))
  else none
else k1 x93 x94
noncomputable def _root_.Go.Proofs.Ytkjellhkamfciaa.M.mass_l1 {α : Type} (x95 : Int) (x109 : L3) (k1 : Int → Int → Option α) : Nat → Int → Int → Int → Option α
  | 0, _, _, _ => none
  | n + 1, x93, x94, x96 => M.mass_l1_step x95 x109 (M.mass_l1 x95 x109 k1 n) k1 x93 x94 x96
theorem mass_l1_step_eq {α : Type} (x93 : Int) (x94 : Int) (x95 : Int) (x96 : Int) (x97 : Int) (x98 : Int) (x99 : Int) (x100 : Int) (x101 : Int) (x102 : Value) (x103 : L3) (x104 : Int) (x105 : Int) (x106 : Int) (x107 : Int) (x108 : Int) (x109 : L3) (x110 : L3) (x111 : L3) (x112 : L3) (x113 : L3) (x114 : L3) (x115 : Int) (x116 : Bool) (x117 : Int) (x118 : Int) (x119 : Int) (x120 : Int) (Q : Ex → St → Option α) : (loopStep E (exec E look_core mass_l0_lps 400) 35 [false, true, false, true, true] 12 (codeAt E.P 35 [false, true, false, true, true])) (mass_S4 x93 x94 x95 x96 x97 x98 x99 x100 x101 x102 x103 x104 x105 x106 x107 x108 x109 x110 x111 x112 x113 x114 x115 x116 x117 x118 x119 x120) Q = M.mass_l1_step x95 x109 (fun (x123 : Int) (x124 : Int) (x125 : Int) => Q .normal (mass_S4 x123 x124 x95 x125 x97 x98 x99 x100 x101 x102 x103 x104 x105 x106 x107 x108 x109 x110 x111 x112 x113 x114 x115 x116 x117 x118 x119 x120)) (fun (x121 : Int) (x122 : Int) => Q (.exit 0) (mass_S2 x121 x122 x97 x98 x99 x100 x101 x102 x103 x104 x105 x106 x107 x108 x109 x110 x111 x112 x113 x114 x115 x116 x117 x118 x119 x120)) x93 x94 x96 := by kernel_rfl
theorem mass_l1_iter {α : Type} (x95 : Int) (x97 : Int) (x98 : Int) (x99 : Int) (x100 : Int) (x101 : Int) (x102 : Value) (x103 : L3) (x104 : Int) (x105 : Int) (x106 : Int) (x107 : Int) (x108 : Int) (x109 : L3) (x110 : L3) (x111 : L3) (x112 : L3) (x113 : L3) (x114 : L3) (x115 : Int) (x116 : Bool) (x117 : Int) (x118 : Int) (x119 : Int) (x120 : Int) (Q : Ex → St → Option α) : ∀ (n : Nat) (x93 : Int) (x94 : Int) (x96 : Int), iter (loopStep E (exec E look_core mass_l0_lps 400) 35 [false, true, false, true, true] 12 (codeAt E.P 35 [false, true, false, true, true])) n (mass_S4 x93 x94 x95 x96 x97 x98 x99 x100 x101 x102 x103 x104 x105 x106 x107 x108 x109 x110 x111 x112 x113 x114 x115 x116 x117 x118 x119 x120) Q = M.mass_l1 x95 x109 (fun (x121 : Int) (x122 : Int) => Q (.exit 0) (mass_S2 x121 x122 x97 x98 x99 x100 x101 x102 x103 x104 x105 x106 x107 x108 x109 x110 x111 x112 x113 x114 x115 x116 x117 x118 x119 x120)) n x93 x94 x96
  | 0, _, _, _ => rfl
  | n + 1, x93, x94, x96 => (mass_l1_step_eq x93 x94 x95 x96 x97 x98 x99 x100 x101 x102 x103 x104 x105 x106 x107 x108 x109 x110 x111 x112 x113 x114 x115 x116 x117 x118 x119 x120 (iterK (loopStep E (exec E look_core mass_l0_lps 400) 35 [false, true, false, true, true] 12 (codeAt E.P 35 [false, true, false, true, true])) n Q)).trans (congrArg (fun kn => M.mass_l1_step x95 x109 kn (fun (x121 : Int) (x122 : Int) => Q (.exit 0) (mass_S2 x121 x122 x97 x98 x99 x100 x101 x102 x103 x104 x105 x106 x107 x108 x109 x110 x111 x112 x113 x114 x115 x116 x117 x118 x119 x120)) x93 x94 x96) (funext fun x93 => funext fun x94 => funext fun x96 => mass_l1_iter x95 x97 x98 x99 x100 x101 x102 x103 x104 x105 x106 x107 x108 x109 x110 x111 x112 x113 x114 x115 x116 x117 x118 x119 x120 Q n x93 x94 x96))
noncomputable def mass_l1_go {α : Type} (ds : List D) (Q : Ex → St → Option α) : Option α :=
  dI ds fun x93 ds => dI ds fun x94 ds => dI ds fun x95 ds => dI ds fun x96 ds => dI ds fun x97 ds => dI ds fun x98 ds => dI ds fun x99 ds => dI ds fun x100 ds => dI ds fun x101 ds => dV ds fun x102 ds => dL kP ds fun x103 ds => dI ds fun x104 ds => dI ds fun x105 ds => dI ds fun x106 ds => dI ds fun x107 ds => dI ds fun x108 ds => dL kP ds fun x109 ds => dL kP ds fun x110 ds => dL kP ds fun x111 ds => dL kP ds fun x112 ds => dL kP ds fun x113 ds => dL kP ds fun x114 ds => dI ds fun x115 ds => dB ds fun x116 ds => dI ds fun x117 ds => dI ds fun x118 ds => dI ds fun x119 ds => dI ds fun x120 ds => dE ds (M.mass_l1 x95 x109 (fun (x121 : Int) (x122 : Int) => Q (.exit 0) (mass_S2 x121 x122 x97 x98 x99 x100 x101 x102 x103 x104 x105 x106 x107 x108 x109 x110 x111 x112 x113 x114 x115 x116 x117 x118 x119 x120)) (100 + x103.length + x109.length + x110.length + x111.length + x112.length + x113.length + x114.length) x93 x94 x96)
theorem mass_l1_ok {α : Type} : LoopOk E.P 35 [false, true, false, true, true] 12 (lEnt (α := α) (mass_S5) mass_l1_go) :=
  lEnt_ok E (exec_sound E E_ok (look_core_ok) (mass_l0_lps_ok) 400) fun ds Q r h S hS => by
    unfold mass_l1_go at h
    obtain ⟨x93, ds, rfl, h1⟩ := dI_inv h
    obtain ⟨x94, ds, rfl, h2⟩ := dI_inv h1
    obtain ⟨x95, ds, rfl, h3⟩ := dI_inv h2
    obtain ⟨x96, ds, rfl, h4⟩ := dI_inv h3
    obtain ⟨x97, ds, rfl, h5⟩ := dI_inv h4
    obtain ⟨x98, ds, rfl, h6⟩ := dI_inv h5
    obtain ⟨x99, ds, rfl, h7⟩ := dI_inv h6
    obtain ⟨x100, ds, rfl, h8⟩ := dI_inv h7
    obtain ⟨x101, ds, rfl, h9⟩ := dI_inv h8
    obtain ⟨x102, ds, rfl, h10⟩ := dV_inv h9
    obtain ⟨x103, ds, rfl, h11⟩ := dL_inv h10
    obtain ⟨x104, ds, rfl, h12⟩ := dI_inv h11
    obtain ⟨x105, ds, rfl, h13⟩ := dI_inv h12
    obtain ⟨x106, ds, rfl, h14⟩ := dI_inv h13
    obtain ⟨x107, ds, rfl, h15⟩ := dI_inv h14
    obtain ⟨x108, ds, rfl, h16⟩ := dI_inv h15
    obtain ⟨x109, ds, rfl, h17⟩ := dL_inv h16
    obtain ⟨x110, ds, rfl, h18⟩ := dL_inv h17
    obtain ⟨x111, ds, rfl, h19⟩ := dL_inv h18
    obtain ⟨x112, ds, rfl, h20⟩ := dL_inv h19
    obtain ⟨x113, ds, rfl, h21⟩ := dL_inv h20
    obtain ⟨x114, ds, rfl, h22⟩ := dL_inv h21
    obtain ⟨x115, ds, rfl, h23⟩ := dI_inv h22
    obtain ⟨x116, ds, rfl, h24⟩ := dB_inv h23
    obtain ⟨x117, ds, rfl, h25⟩ := dI_inv h24
    obtain ⟨x118, ds, rfl, h26⟩ := dI_inv h25
    obtain ⟨x119, ds, rfl, h27⟩ := dI_inv h26
    obtain ⟨x120, ds, rfl, h28⟩ := dI_inv h27
    obtain ⟨rfl, hE⟩ := dE_inv h28
    have e : fillS (mass_S5) [.i x93, .i x94, .i x95, .i x96, .i x97, .i x98, .i x99, .i x100, .i x101, .v x102, .l kP x103, .i x104, .i x105, .i x106, .i x107, .i x108, .l kP x109, .l kP x110, .l kP x111, .l kP x112, .l kP x113, .l kP x114, .i x115, .b x116, .i x117, .i x118, .i x119, .i x120] = some (mass_S4 x93 x94 x95 x96 x97 x98 x99 x100 x101 x102 x103 x104 x105 x106 x107 x108 x109 x110 x111 x112 x113 x114 x115 x116 x117 x118 x119 x120) := by kernel_rfl
    rw [e] at hS
    cases hS
    exact ⟨_, (mass_l1_iter x95 x97 x98 x99 x100 x101 x102 x103 x104 x105 x106 x107 x108 x109 x110 x111 x112 x113 x114 x115 x116 x117 x118 x119 x120 Q _ x93 x94 x96).trans hE⟩
noncomputable def mass_l1_lps {α : Type} : LookL α := addLp 35 [false, true, false, true, true] 12 (lEnt (mass_S5) mass_l1_go) mass_l0_lps
theorem mass_l1_lps_ok {α : Type} : LoopsOk E.P (mass_l1_lps (α := α)) := addLp_ok mass_l1_ok (mass_l0_lps_ok)

noncomputable def _root_.Go.Proofs.Ytkjellhkamfciaa.M.mass_l2_step {α : Type} (x161 : Int) (x175 : L3) (kn : Int → Int → Int → Option α) (k1 : Int → Int → Option α) (x159 : Int) (x160 : Int) (x162 : Int) : Option α :=
  if cLt x162 x161 = true then
  if (0 : Int) ≤ x162 ∧ x162 < (↑(List.length x175) : Int) then
    kn (if Prod.snd (Prod.snd (List.getD x175 (Int.toNat x162) ((0 : Int), (0 : Int), (0 : Int)))) < x159 then Prod.snd (Prod.snd (List.getD x175 (Int.toNat x162) ((0 : Int), (0 : Int), (0 : Int)))) else x159) (if Prod.snd (Prod.snd (List.getD x175 (Int.toNat x162) ((0 : Int), (0 : Int), (0 : Int)))) > x160 then Prod.snd (Prod.snd (List.getD x175 (Int.toNat x162) ((0 : Int), (0 : Int), (0 : Int)))) else x160) (IntKind.wrap .i64 (x162 + (1 : Int)))
  else none
else k1 x159 x160
noncomputable def _root_.Go.Proofs.Ytkjellhkamfciaa.M.mass_l2 {α : Type} (x161 : Int) (x175 : L3) (k1 : Int → Int → Option α) : Nat → Int → Int → Int → Option α
  | 0, _, _, _ => none
  | n + 1, x159, x160, x162 => M.mass_l2_step x161 x175 (M.mass_l2 x161 x175 k1 n) k1 x159 x160 x162
theorem mass_l2_step_eq {α : Type} (x159 : Int) (x160 : Int) (x161 : Int) (x162 : Int) (x163 : Int) (x164 : Int) (x165 : Int) (x166 : Int) (x167 : Int) (x168 : Value) (x169 : L3) (x170 : Int) (x171 : Int) (x172 : Int) (x173 : Int) (x174 : Int) (x175 : L3) (x176 : L3) (x177 : L3) (x178 : L3) (x179 : L3) (x180 : L3) (x181 : Int) (x182 : Bool) (x183 : Int) (x184 : Int) (x185 : Int) (x186 : Int) (Q : Ex → St → Option α) : (loopStep E (exec E look_core mass_l1_lps 400) 35 [false, true, false, true, true] 12 (codeAt E.P 35 [false, true, false, true, true])) (mass_S6 x159 x160 x161 x162 x163 x164 x165 x166 x167 x168 x169 x170 x171 x172 x173 x174 x175 x176 x177 x178 x179 x180 x181 x182 x183 x184 x185 x186) Q = M.mass_l2_step x161 x175 (fun (x189 : Int) (x190 : Int) (x191 : Int) => Q .normal (mass_S6 x189 x190 x161 x191 x163 x164 x165 x166 x167 x168 x169 x170 x171 x172 x173 x174 x175 x176 x177 x178 x179 x180 x181 x182 x183 x184 x185 x186)) (fun (x187 : Int) (x188 : Int) => Q (.exit 0) (mass_S2 x187 x188 x163 x164 x165 x166 x167 x168 x169 x170 x171 x172 x173 x174 x175 x176 x177 x178 x179 x180 x181 x182 x183 x184 x185 x186)) x159 x160 x162 := by kernel_rfl
theorem mass_l2_iter {α : Type} (x161 : Int) (x163 : Int) (x164 : Int) (x165 : Int) (x166 : Int) (x167 : Int) (x168 : Value) (x169 : L3) (x170 : Int) (x171 : Int) (x172 : Int) (x173 : Int) (x174 : Int) (x175 : L3) (x176 : L3) (x177 : L3) (x178 : L3) (x179 : L3) (x180 : L3) (x181 : Int) (x182 : Bool) (x183 : Int) (x184 : Int) (x185 : Int) (x186 : Int) (Q : Ex → St → Option α) : ∀ (n : Nat) (x159 : Int) (x160 : Int) (x162 : Int), iter (loopStep E (exec E look_core mass_l1_lps 400) 35 [false, true, false, true, true] 12 (codeAt E.P 35 [false, true, false, true, true])) n (mass_S6 x159 x160 x161 x162 x163 x164 x165 x166 x167 x168 x169 x170 x171 x172 x173 x174 x175 x176 x177 x178 x179 x180 x181 x182 x183 x184 x185 x186) Q = M.mass_l2 x161 x175 (fun (x187 : Int) (x188 : Int) => Q (.exit 0) (mass_S2 x187 x188 x163 x164 x165 x166 x167 x168 x169 x170 x171 x172 x173 x174 x175 x176 x177 x178 x179 x180 x181 x182 x183 x184 x185 x186)) n x159 x160 x162
  | 0, _, _, _ => rfl
  | n + 1, x159, x160, x162 => (mass_l2_step_eq x159 x160 x161 x162 x163 x164 x165 x166 x167 x168 x169 x170 x171 x172 x173 x174 x175 x176 x177 x178 x179 x180 x181 x182 x183 x184 x185 x186 (iterK (loopStep E (exec E look_core mass_l1_lps 400) 35 [false, true, false, true, true] 12 (codeAt E.P 35 [false, true, false, true, true])) n Q)).trans (congrArg (fun kn => M.mass_l2_step x161 x175 kn (fun (x187 : Int) (x188 : Int) => Q (.exit 0) (mass_S2 x187 x188 x163 x164 x165 x166 x167 x168 x169 x170 x171 x172 x173 x174 x175 x176 x177 x178 x179 x180 x181 x182 x183 x184 x185 x186)) x159 x160 x162) (funext fun x159 => funext fun x160 => funext fun x162 => mass_l2_iter x161 x163 x164 x165 x166 x167 x168 x169 x170 x171 x172 x173 x174 x175 x176 x177 x178 x179 x180 x181 x182 x183 x184 x185 x186 Q n x159 x160 x162))
noncomputable def mass_l2_go {α : Type} (ds : List D) (Q : Ex → St → Option α) : Option α :=
  dI ds fun x159 ds => dI ds fun x160 ds => dI ds fun x161 ds => dI ds fun x162 ds => dI ds fun x163 ds => dI ds fun x164 ds => dI ds fun x165 ds => dI ds fun x166 ds => dI ds fun x167 ds => dV ds fun x168 ds => dL kP ds fun x169 ds => dI ds fun x170 ds => dI ds fun x171 ds => dI ds fun x172 ds => dI ds fun x173 ds => dI ds fun x174 ds => dL kP ds fun x175 ds => dL kP ds fun x176 ds => dL kP ds fun x177 ds => dL kP ds fun x178 ds => dL kP ds fun x179 ds => dL kP ds fun x180 ds => dI ds fun x181 ds => dB ds fun x182 ds => dI ds fun x183 ds => dI ds fun x184 ds => dI ds fun x185 ds => dI ds fun x186 ds => dE ds (M.mass_l2 x161 x175 (fun (x187 : Int) (x188 : Int) => Q (.exit 0) (mass_S2 x187 x188 x163 x164 x165 x166 x167 x168 x169 x170 x171 x172 x173 x174 x175 x176 x177 x178 x179 x180 x181 x182 x183 x184 x185 x186)) (100 + x169.length + x175.length + x176.length + x177.length + x178.length + x179.length + x180.length) x159 x160 x162)
theorem mass_l2_ok {α : Type} : LoopOk E.P 35 [false, true, false, true, true] 12 (lEnt (α := α) (mass_S7) mass_l2_go) :=
  lEnt_ok E (exec_sound E E_ok (look_core_ok) (mass_l1_lps_ok) 400) fun ds Q r h S hS => by
    unfold mass_l2_go at h
    obtain ⟨x159, ds, rfl, h1⟩ := dI_inv h
    obtain ⟨x160, ds, rfl, h2⟩ := dI_inv h1
    obtain ⟨x161, ds, rfl, h3⟩ := dI_inv h2
    obtain ⟨x162, ds, rfl, h4⟩ := dI_inv h3
    obtain ⟨x163, ds, rfl, h5⟩ := dI_inv h4
    obtain ⟨x164, ds, rfl, h6⟩ := dI_inv h5
    obtain ⟨x165, ds, rfl, h7⟩ := dI_inv h6
    obtain ⟨x166, ds, rfl, h8⟩ := dI_inv h7
    obtain ⟨x167, ds, rfl, h9⟩ := dI_inv h8
    obtain ⟨x168, ds, rfl, h10⟩ := dV_inv h9
    obtain ⟨x169, ds, rfl, h11⟩ := dL_inv h10
    obtain ⟨x170, ds, rfl, h12⟩ := dI_inv h11
    obtain ⟨x171, ds, rfl, h13⟩ := dI_inv h12
    obtain ⟨x172, ds, rfl, h14⟩ := dI_inv h13
    obtain ⟨x173, ds, rfl, h15⟩ := dI_inv h14
    obtain ⟨x174, ds, rfl, h16⟩ := dI_inv h15
    obtain ⟨x175, ds, rfl, h17⟩ := dL_inv h16
    obtain ⟨x176, ds, rfl, h18⟩ := dL_inv h17
    obtain ⟨x177, ds, rfl, h19⟩ := dL_inv h18
    obtain ⟨x178, ds, rfl, h20⟩ := dL_inv h19
    obtain ⟨x179, ds, rfl, h21⟩ := dL_inv h20
    obtain ⟨x180, ds, rfl, h22⟩ := dL_inv h21
    obtain ⟨x181, ds, rfl, h23⟩ := dI_inv h22
    obtain ⟨x182, ds, rfl, h24⟩ := dB_inv h23
    obtain ⟨x183, ds, rfl, h25⟩ := dI_inv h24
    obtain ⟨x184, ds, rfl, h26⟩ := dI_inv h25
    obtain ⟨x185, ds, rfl, h27⟩ := dI_inv h26
    obtain ⟨x186, ds, rfl, h28⟩ := dI_inv h27
    obtain ⟨rfl, hE⟩ := dE_inv h28
    have e : fillS (mass_S7) [.i x159, .i x160, .i x161, .i x162, .i x163, .i x164, .i x165, .i x166, .i x167, .v x168, .l kP x169, .i x170, .i x171, .i x172, .i x173, .i x174, .l kP x175, .l kP x176, .l kP x177, .l kP x178, .l kP x179, .l kP x180, .i x181, .b x182, .i x183, .i x184, .i x185, .i x186] = some (mass_S6 x159 x160 x161 x162 x163 x164 x165 x166 x167 x168 x169 x170 x171 x172 x173 x174 x175 x176 x177 x178 x179 x180 x181 x182 x183 x184 x185 x186) := by kernel_rfl
    rw [e] at hS
    cases hS
    exact ⟨_, (mass_l2_iter x161 x163 x164 x165 x166 x167 x168 x169 x170 x171 x172 x173 x174 x175 x176 x177 x178 x179 x180 x181 x182 x183 x184 x185 x186 Q _ x159 x160 x162).trans hE⟩
noncomputable def mass_l2_lps {α : Type} : LookL α := addLp 35 [false, true, false, true, true] 12 (lEnt (mass_S7) mass_l2_go) mass_l1_lps
theorem mass_l2_lps_ok {α : Type} : LoopsOk E.P (mass_l2_lps (α := α)) := addLp_ok mass_l2_ok (mass_l1_lps_ok)

noncomputable def _root_.Go.Proofs.Ytkjellhkamfciaa.M.mass {α : Type} (k : Int) (r : Int) (hx : Int) (hy : Int) (hz : Int) (l : L3) (m : Int) (k0 : Int → Int → Int → Int → Int → Option α) : Option α :=
  if (!cEq (V.chk k r hx hy hz l) (0 : Int)) = true then k0 (0 : Int) (0 : Int) (0 : Int) (0 : Int) (V.chk k r hx hy hz l)
else
  if (!V.shwithin_r0 m (16777216 : Int) (1099511627776 : Int)) = true then k0 (0 : Int) (0 : Int) (0 : Int) (0 : Int) (120 : Int)
  else
    if cEq k (1 : Int) = true then
      if V.gn (V.mRatio (V.gv (V.mMul m (V.gv (V.mMul (IntKind.wrap .i64 (r * (1048576 : Int))) (IntKind.wrap .i64 (r * (1048576 : Int))))))) (2 : Int) (5 : Int)) (V.gn (V.mMul m (V.gv (V.mMul (IntKind.wrap .i64 (r * (1048576 : Int))) (IntKind.wrap .i64 (r * (1048576 : Int)))))) (V.gn (V.mMul (IntKind.wrap .i64 (r * (1048576 : Int))) (IntKind.wrap .i64 (r * (1048576 : Int)))) false)) = true then k0 (0 : Int) (0 : Int) (0 : Int) (0 : Int) (2 : Int)
      else
        k0 m (if (4096 : Int) > V.gv (V.mRatio (V.gv (V.mMul m (V.gv (V.mMul (IntKind.wrap .i64 (r * (1048576 : Int))) (IntKind.wrap .i64 (r * (1048576 : Int))))))) (2 : Int) (5 : Int)) then (4096 : Int) else V.gv (V.mRatio (V.gv (V.mMul m (V.gv (V.mMul (IntKind.wrap .i64 (r * (1048576 : Int))) (IntKind.wrap .i64 (r * (1048576 : Int))))))) (2 : Int) (5 : Int)))
          (if (4096 : Int) > V.gv (V.mRatio (V.gv (V.mMul m (V.gv (V.mMul (IntKind.wrap .i64 (r * (1048576 : Int))) (IntKind.wrap .i64 (r * (1048576 : Int))))))) (2 : Int) (5 : Int)) then (4096 : Int) else V.gv (V.mRatio (V.gv (V.mMul m (V.gv (V.mMul (IntKind.wrap .i64 (r * (1048576 : Int))) (IntKind.wrap .i64 (r * (1048576 : Int))))))) (2 : Int) (5 : Int)))
          (if (4096 : Int) > V.gv (V.mRatio (V.gv (V.mMul m (V.gv (V.mMul (IntKind.wrap .i64 (r * (1048576 : Int))) (IntKind.wrap .i64 (r * (1048576 : Int))))))) (2 : Int) (5 : Int)) then (4096 : Int) else V.gv (V.mRatio (V.gv (V.mMul m (V.gv (V.mMul (IntKind.wrap .i64 (r * (1048576 : Int))) (IntKind.wrap .i64 (r * (1048576 : Int))))))) (2 : Int) (5 : Int))) (0 : Int)
    else
      if (0 : Int) ≤ (0 : Int) ∧ (0 : Int) < (↑(List.length (V.corP k r hx hy hz l)) : Int) then
        if (0 : Int) ≤ (0 : Int) ∧ (0 : Int) < (↑(List.length (V.corP k r hx hy hz l)) : Int) then
          M.mass_l0 (↑(List.length (V.corP k r hx hy hz l)) : Int) (V.corP k r hx hy hz l)
            (fun (x193 x194 : Int) ↦
              if (0 : Int) ≤ (0 : Int) ∧ (0 : Int) < (↑(List.length (V.corP k r hx hy hz l)) : Int) then
                if (0 : Int) ≤ (0 : Int) ∧ (0 : Int) < (↑(List.length (V.corP k r hx hy hz l)) : Int) then
                  M.mass_l1 (↑(List.length (V.corP k r hx hy hz l)) : Int) (V.corP k r hx hy hz l)
                    (fun (x195 x196 : Int) ↦
                      if (0 : Int) ≤ (0 : Int) ∧ (0 : Int) < (↑(List.length (V.corP k r hx hy hz l)) : Int) then
                        if (0 : Int) ≤ (0 : Int) ∧ (0 : Int) < (↑(List.length (V.corP k r hx hy hz l)) : Int) then
                          M.mass_l2 (↑(List.length (V.corP k r hx hy hz l)) : Int) (V.corP k r hx hy hz l)
                            (fun (x197 x198 : Int) ↦
                              if
                                  V.gn
                                      (V.mRatio
                                        (V.gv
                                          (V.mAdd (V.gv (V.mMul m (V.gv (V.mMul (IntKind.wrap .i64 (IntKind.wrap .i64 (IntKind.wrap .i64 (Int.tdiv (IntKind.wrap .i64 (x194 - x193)) (2 : Int)) + V.corR k r hx hy hz l) * (1048576 : Int))) (IntKind.wrap .i64 (IntKind.wrap .i64 (IntKind.wrap .i64 (Int.tdiv (IntKind.wrap .i64 (x194 - x193)) (2 : Int)) + V.corR k r hx hy hz l) * (1048576 : Int)))))))
                                            (V.gv (V.mMul m (V.gv (V.mMul (IntKind.wrap .i64 (IntKind.wrap .i64 (IntKind.wrap .i64 (Int.tdiv (IntKind.wrap .i64 (x196 - x195)) (2 : Int)) + V.corR k r hx hy hz l) * (1048576 : Int))) (IntKind.wrap .i64 (IntKind.wrap .i64 (IntKind.wrap .i64 (Int.tdiv (IntKind.wrap .i64 (x196 - x195)) (2 : Int)) + V.corR k r hx hy hz l) * (1048576 : Int)))))))))
                                        (1 : Int) (3 : Int))
                                      (V.gn
                                        (V.mAdd (V.gv (V.mMul m (V.gv (V.mMul (IntKind.wrap .i64 (IntKind.wrap .i64 (IntKind.wrap .i64 (Int.tdiv (IntKind.wrap .i64 (x194 - x193)) (2 : Int)) + V.corR k r hx hy hz l) * (1048576 : Int))) (IntKind.wrap .i64 (IntKind.wrap .i64 (IntKind.wrap .i64 (Int.tdiv (IntKind.wrap .i64 (x194 - x193)) (2 : Int)) + V.corR k r hx hy hz l) * (1048576 : Int)))))))
                                          (V.gv (V.mMul m (V.gv (V.mMul (IntKind.wrap .i64 (IntKind.wrap .i64 (IntKind.wrap .i64 (Int.tdiv (IntKind.wrap .i64 (x196 - x195)) (2 : Int)) + V.corR k r hx hy hz l) * (1048576 : Int))) (IntKind.wrap .i64 (IntKind.wrap .i64 (IntKind.wrap .i64 (Int.tdiv (IntKind.wrap .i64 (x196 - x195)) (2 : Int)) + V.corR k r hx hy hz l) * (1048576 : Int))))))))
                                        (V.gn
                                          (V.mRatio
                                            (V.gv
                                              (V.mAdd (V.gv (V.mMul m (V.gv (V.mMul (IntKind.wrap .i64 (IntKind.wrap .i64 (IntKind.wrap .i64 (Int.tdiv (IntKind.wrap .i64 (x198 - x197)) (2 : Int)) + V.corR k r hx hy hz l) * (1048576 : Int))) (IntKind.wrap .i64 (IntKind.wrap .i64 (IntKind.wrap .i64 (Int.tdiv (IntKind.wrap .i64 (x198 - x197)) (2 : Int)) + V.corR k r hx hy hz l) * (1048576 : Int)))))))
                                                (V.gv (V.mMul m (V.gv (V.mMul (IntKind.wrap .i64 (IntKind.wrap .i64 (IntKind.wrap .i64 (Int.tdiv (IntKind.wrap .i64 (x194 - x193)) (2 : Int)) + V.corR k r hx hy hz l) * (1048576 : Int))) (IntKind.wrap .i64 (IntKind.wrap .i64 (IntKind.wrap .i64 (Int.tdiv (IntKind.wrap .i64 (x194 - x193)) (2 : Int)) + V.corR k r hx hy hz l) * (1048576 : Int)))))))))
                                            (1 : Int) (3 : Int))
                                          (V.gn
                                            (V.mAdd (V.gv (V.mMul m (V.gv (V.mMul (IntKind.wrap .i64 (IntKind.wrap .i64 (IntKind.wrap .i64 (Int.tdiv (IntKind.wrap .i64 (x198 - x197)) (2 : Int)) + V.corR k r hx hy hz l) * (1048576 : Int))) (IntKind.wrap .i64 (IntKind.wrap .i64 (IntKind.wrap .i64 (Int.tdiv (IntKind.wrap .i64 (x198 - x197)) (2 : Int)) + V.corR k r hx hy hz l) * (1048576 : Int)))))))
                                              (V.gv (V.mMul m (V.gv (V.mMul (IntKind.wrap .i64 (IntKind.wrap .i64 (IntKind.wrap .i64 (Int.tdiv (IntKind.wrap .i64 (x194 - x193)) (2 : Int)) + V.corR k r hx hy hz l) * (1048576 : Int))) (IntKind.wrap .i64 (IntKind.wrap .i64 (IntKind.wrap .i64 (Int.tdiv (IntKind.wrap .i64 (x194 - x193)) (2 : Int)) + V.corR k r hx hy hz l) * (1048576 : Int))))))))
                                            (V.gn
                                              (V.mRatio
                                                (V.gv
                                                  (V.mAdd (V.gv (V.mMul m (V.gv (V.mMul (IntKind.wrap .i64 (IntKind.wrap .i64 (IntKind.wrap .i64 (Int.tdiv (IntKind.wrap .i64 (x196 - x195)) (2 : Int)) + V.corR k r hx hy hz l) * (1048576 : Int))) (IntKind.wrap .i64 (IntKind.wrap .i64 (IntKind.wrap .i64 (Int.tdiv (IntKind.wrap .i64 (x196 - x195)) (2 : Int)) + V.corR k r hx hy hz l) * (1048576 : Int)))))))
                                                    (V.gv (V.mMul m (V.gv (V.mMul (IntKind.wrap .i64 (IntKind.wrap .i64 (IntKind.wrap .i64 (Int.tdiv (IntKind.wrap .i64 (x198 - x197)) (2 : Int)) + V.corR k r hx hy hz l) * (1048576 : Int))) (IntKind.wrap .i64 (IntKind.wrap .i64 (IntKind.wrap .i64 (Int.tdiv (IntKind.wrap .i64 (x198 - x197)) (2 : Int)) + V.corR k r hx hy hz l) * (1048576 : Int)))))))))
                                                (1 : Int) (3 : Int))
                                              (V.gn
                                                (V.mAdd (V.gv (V.mMul m (V.gv (V.mMul (IntKind.wrap .i64 (IntKind.wrap .i64 (IntKind.wrap .i64 (Int.tdiv (IntKind.wrap .i64 (x196 - x195)) (2 : Int)) + V.corR k r hx hy hz l) * (1048576 : Int))) (IntKind.wrap .i64 (IntKind.wrap .i64 (IntKind.wrap .i64 (Int.tdiv (IntKind.wrap .i64 (x196 - x195)) (2 : Int)) + V.corR k r hx hy hz l) * (1048576 : Int)))))))
                                                  (V.gv (V.mMul m (V.gv (V.mMul (IntKind.wrap .i64 (IntKind.wrap .i64 (IntKind.wrap .i64 (Int.tdiv (IntKind.wrap .i64 (x198 - x197)) (2 : Int)) + V.corR k r hx hy hz l) * (1048576 : Int))) (IntKind.wrap .i64 (IntKind.wrap .i64 (IntKind.wrap .i64 (Int.tdiv (IntKind.wrap .i64 (x198 - x197)) (2 : Int)) + V.corR k r hx hy hz l) * (1048576 : Int))))))))
                                                (V.gn (V.mMul m (V.gv (V.mMul (IntKind.wrap .i64 (IntKind.wrap .i64 (IntKind.wrap .i64 (Int.tdiv (IntKind.wrap .i64 (x198 - x197)) (2 : Int)) + V.corR k r hx hy hz l) * (1048576 : Int))) (IntKind.wrap .i64 (IntKind.wrap .i64 (IntKind.wrap .i64 (Int.tdiv (IntKind.wrap .i64 (x198 - x197)) (2 : Int)) + V.corR k r hx hy hz l) * (1048576 : Int))))))
                                                  (V.gn (V.mMul (IntKind.wrap .i64 (IntKind.wrap .i64 (IntKind.wrap .i64 (Int.tdiv (IntKind.wrap .i64 (x198 - x197)) (2 : Int)) + V.corR k r hx hy hz l) * (1048576 : Int))) (IntKind.wrap .i64 (IntKind.wrap .i64 (IntKind.wrap .i64 (Int.tdiv (IntKind.wrap .i64 (x198 - x197)) (2 : Int)) + V.corR k r hx hy hz l) * (1048576 : Int))))
                                                    (V.gn (V.mMul m (V.gv (V.mMul (IntKind.wrap .i64 (IntKind.wrap .i64 (IntKind.wrap .i64 (Int.tdiv (IntKind.wrap .i64 (x196 - x195)) (2 : Int)) + V.corR k r hx hy hz l) * (1048576 : Int))) (IntKind.wrap .i64 (IntKind.wrap .i64 (IntKind.wrap .i64 (Int.tdiv (IntKind.wrap .i64 (x196 - x195)) (2 : Int)) + V.corR k r hx hy hz l) * (1048576 : Int))))))
                                                      (V.gn (V.mMul (IntKind.wrap .i64 (IntKind.wrap .i64 (IntKind.wrap .i64 (Int.tdiv (IntKind.wrap .i64 (x196 - x195)) (2 : Int)) + V.corR k r hx hy hz l) * (1048576 : Int))) (IntKind.wrap .i64 (IntKind.wrap .i64 (IntKind.wrap .i64 (Int.tdiv (IntKind.wrap .i64 (x196 - x195)) (2 : Int)) + V.corR k r hx hy hz l) * (1048576 : Int))))
                                                        (V.gn (V.mMul m (V.gv (V.mMul (IntKind.wrap .i64 (IntKind.wrap .i64 (IntKind.wrap .i64 (Int.tdiv (IntKind.wrap .i64 (x194 - x193)) (2 : Int)) + V.corR k r hx hy hz l) * (1048576 : Int))) (IntKind.wrap .i64 (IntKind.wrap .i64 (IntKind.wrap .i64 (Int.tdiv (IntKind.wrap .i64 (x194 - x193)) (2 : Int)) + V.corR k r hx hy hz l) * (1048576 : Int))))))
                                                          (V.gn (V.mMul (IntKind.wrap .i64 (IntKind.wrap .i64 (IntKind.wrap .i64 (Int.tdiv (IntKind.wrap .i64 (x194 - x193)) (2 : Int)) + V.corR k r hx hy hz l) * (1048576 : Int))) (IntKind.wrap .i64 (IntKind.wrap .i64 (IntKind.wrap .i64 (Int.tdiv (IntKind.wrap .i64 (x194 - x193)) (2 : Int)) + V.corR k r hx hy hz l) * (1048576 : Int)))) false))))))))))) =
                                    true then
                                k0 (0 : Int) (0 : Int) (0 : Int) (0 : Int) (2 : Int)
                              else
                                k0 m
                                  (if
                                      (4096 : Int) >
                                        V.gv
                                          (V.mRatio
                                            (V.gv
                                              (V.mAdd (V.gv (V.mMul m (V.gv (V.mMul (IntKind.wrap .i64 (IntKind.wrap .i64 (IntKind.wrap .i64 (Int.tdiv (IntKind.wrap .i64 (x196 - x195)) (2 : Int)) + V.corR k r hx hy hz l) * (1048576 : Int))) (IntKind.wrap .i64 (IntKind.wrap .i64 (IntKind.wrap .i64 (Int.tdiv (IntKind.wrap .i64 (x196 - x195)) (2 : Int)) + V.corR k r hx hy hz l) * (1048576 : Int)))))))
                                                (V.gv (V.mMul m (V.gv (V.mMul (IntKind.wrap .i64 (IntKind.wrap .i64 (IntKind.wrap .i64 (Int.tdiv (IntKind.wrap .i64 (x198 - x197)) (2 : Int)) + V.corR k r hx hy hz l) * (1048576 : Int))) (IntKind.wrap .i64 (IntKind.wrap .i64 (IntKind.wrap .i64 (Int.tdiv (IntKind.wrap .i64 (x198 - x197)) (2 : Int)) + V.corR k r hx hy hz l) * (1048576 : Int)))))))))
                                            (1 : Int) (3 : Int)) then
                                    (4096 : Int)
                                  else
                                    V.gv
                                      (V.mRatio
                                        (V.gv
                                          (V.mAdd (V.gv (V.mMul m (V.gv (V.mMul (IntKind.wrap .i64 (IntKind.wrap .i64 (IntKind.wrap .i64 (Int.tdiv (IntKind.wrap .i64 (x196 - x195)) (2 : Int)) + V.corR k r hx hy hz l) * (1048576 : Int))) (IntKind.wrap .i64 (IntKind.wrap .i64 (IntKind.wrap .i64 (Int.tdiv (IntKind.wrap .i64 (x196 - x195)) (2 : Int)) + V.corR k r hx hy hz l) * (1048576 : Int)))))))
                                            (V.gv (V.mMul m (V.gv (V.mMul (IntKind.wrap .i64 (IntKind.wrap .i64 (IntKind.wrap .i64 (Int.tdiv (IntKind.wrap .i64 (x198 - x197)) (2 : Int)) + V.corR k r hx hy hz l) * (1048576 : Int))) (IntKind.wrap .i64 (IntKind.wrap .i64 (IntKind.wrap .i64 (Int.tdiv (IntKind.wrap .i64 (x198 - x197)) (2 : Int)) + V.corR k r hx hy hz l) * (1048576 : Int)))))))))
                                        (1 : Int) (3 : Int)))
                                  (if
                                      (4096 : Int) >
                                        V.gv
                                          (V.mRatio
                                            (V.gv
                                              (V.mAdd (V.gv (V.mMul m (V.gv (V.mMul (IntKind.wrap .i64 (IntKind.wrap .i64 (IntKind.wrap .i64 (Int.tdiv (IntKind.wrap .i64 (x198 - x197)) (2 : Int)) + V.corR k r hx hy hz l) * (1048576 : Int))) (IntKind.wrap .i64 (IntKind.wrap .i64 (IntKind.wrap .i64 (Int.tdiv (IntKind.wrap .i64 (x198 - x197)) (2 : Int)) + V.corR k r hx hy hz l) * (1048576 : Int)))))))
                                                (V.gv (V.mMul m (V.gv (V.mMul (IntKind.wrap .i64 (IntKind.wrap .i64 (IntKind.wrap .i64 (Int.tdiv (IntKind.wrap .i64 (x194 - x193)) (2 : Int)) + V.corR k r hx hy hz l) * (1048576 : Int))) (IntKind.wrap .i64 (IntKind.wrap .i64 (IntKind.wrap .i64 (Int.tdiv (IntKind.wrap .i64 (x194 - x193)) (2 : Int)) + V.corR k r hx hy hz l) * (1048576 : Int)))))))))
                                            (1 : Int) (3 : Int)) then
                                    (4096 : Int)
                                  else
                                    V.gv
                                      (V.mRatio
                                        (V.gv
                                          (V.mAdd (V.gv (V.mMul m (V.gv (V.mMul (IntKind.wrap .i64 (IntKind.wrap .i64 (IntKind.wrap .i64 (Int.tdiv (IntKind.wrap .i64 (x198 - x197)) (2 : Int)) + V.corR k r hx hy hz l) * (1048576 : Int))) (IntKind.wrap .i64 (IntKind.wrap .i64 (IntKind.wrap .i64 (Int.tdiv (IntKind.wrap .i64 (x198 - x197)) (2 : Int)) + V.corR k r hx hy hz l) * (1048576 : Int)))))))
                                            (V.gv (V.mMul m (V.gv (V.mMul (IntKind.wrap .i64 (IntKind.wrap .i64 (IntKind.wrap .i64 (Int.tdiv (IntKind.wrap .i64 (x194 - x193)) (2 : Int)) + V.corR k r hx hy hz l) * (1048576 : Int))) (IntKind.wrap .i64 (IntKind.wrap .i64 (IntKind.wrap .i64 (Int.tdiv (IntKind.wrap .i64 (x194 - x193)) (2 : Int)) + V.corR k r hx hy hz l) * (1048576 : Int)))))))))
                                        (1 : Int) (3 : Int)))
                                  (if
                                      (4096 : Int) >
                                        V.gv
                                          (V.mRatio
                                            (V.gv
                                              (V.mAdd (V.gv (V.mMul m (V.gv (V.mMul (IntKind.wrap .i64 (IntKind.wrap .i64 (IntKind.wrap .i64 (Int.tdiv (IntKind.wrap .i64 (x194 - x193)) (2 : Int)) + V.corR k r hx hy hz l) * (1048576 : Int))) (IntKind.wrap .i64 (IntKind.wrap .i64 (IntKind.wrap .i64 (Int.tdiv (IntKind.wrap .i64 (x194 - x193)) (2 : Int)) + V.corR k r hx hy hz l) * (1048576 : Int)))))))
                                                (V.gv (V.mMul m (V.gv (V.mMul (IntKind.wrap .i64 (IntKind.wrap .i64 (IntKind.wrap .i64 (Int.tdiv (IntKind.wrap .i64 (x196 - x195)) (2 : Int)) + V.corR k r hx hy hz l) * (1048576 : Int))) (IntKind.wrap .i64 (IntKind.wrap .i64 (IntKind.wrap .i64 (Int.tdiv (IntKind.wrap .i64 (x196 - x195)) (2 : Int)) + V.corR k r hx hy hz l) * (1048576 : Int)))))))))
                                            (1 : Int) (3 : Int)) then
                                    (4096 : Int)
                                  else
                                    V.gv
                                      (V.mRatio
                                        (V.gv
                                          (V.mAdd (V.gv (V.mMul m (V.gv (V.mMul (IntKind.wrap .i64 (IntKind.wrap .i64 (IntKind.wrap .i64 (Int.tdiv (IntKind.wrap .i64 (x194 - x193)) (2 : Int)) + V.corR k r hx hy hz l) * (1048576 : Int))) (IntKind.wrap .i64 (IntKind.wrap .i64 (IntKind.wrap .i64 (Int.tdiv (IntKind.wrap .i64 (x194 - x193)) (2 : Int)) + V.corR k r hx hy hz l) * (1048576 : Int)))))))
                                            (V.gv (V.mMul m (V.gv (V.mMul (IntKind.wrap .i64 (IntKind.wrap .i64 (IntKind.wrap .i64 (Int.tdiv (IntKind.wrap .i64 (x196 - x195)) (2 : Int)) + V.corR k r hx hy hz l) * (1048576 : Int))) (IntKind.wrap .i64 (IntKind.wrap .i64 (IntKind.wrap .i64 (Int.tdiv (IntKind.wrap .i64 (x196 - x195)) (2 : Int)) + V.corR k r hx hy hz l) * (1048576 : Int)))))))))
                                        (1 : Int) (3 : Int)))
                                  (0 : Int))
                            ((100 : Nat) + List.length l + List.length (V.corP k r hx hy hz l) + List.length (V.corA k r hx hy hz l) + List.length (V.corE k r hx hy hz l) + (0 : Nat) + (0 : Nat) + (0 : Nat)) (Prod.snd (Prod.snd (List.getD (V.corP k r hx hy hz l) (0 : Nat) ((0 : Int), (0 : Int), (0 : Int))))) (Prod.snd (Prod.snd (List.getD (V.corP k r hx hy hz l) (0 : Nat) ((0 : Int), (0 : Int), (0 : Int))))) (0 : Int)
                        else none
                      else none)
                    ((100 : Nat) + List.length l + List.length (V.corP k r hx hy hz l) + List.length (V.corA k r hx hy hz l) + List.length (V.corE k r hx hy hz l) + (0 : Nat) + (0 : Nat) + (0 : Nat)) (Prod.fst (Prod.snd (List.getD (V.corP k r hx hy hz l) (0 : Nat) ((0 : Int), (0 : Int), (0 : Int))))) (Prod.fst (Prod.snd (List.getD (V.corP k r hx hy hz l) (0 : Nat) ((0 : Int), (0 : Int), (0 : Int))))) (0 : Int)
                else none
              else none)
            ((100 : Nat) + List.length l + List.length (V.corP k r hx hy hz l) + List.length (V.corA k r hx hy hz l) + List.length (V.corE k r hx hy hz l) + (0 : Nat) + (0 : Nat) + (0 : Nat)) (Prod.fst (List.getD (V.corP k r hx hy hz l) (0 : Nat) ((0 : Int), (0 : Int), (0 : Int)))) (Prod.fst (List.getD (V.corP k r hx hy hz l) (0 : Nat) ((0 : Int), (0 : Int), (0 : Int)))) (0 : Int)
        else none
      else none
theorem mass_eq {α : Type} (k : Int) (r : Int) (hx : Int) (hy : Int) (hz : Int) (l : L3) (m : Int) (v192 : Value) (Q : SV → Hp → Option α) : callI E look_core (exec E look_core mass_l2_lps 400) 15 ([SV.agg [SV.int .i64 k, SV.int .i64 r, SV.int .i64 hx, SV.int .i64 hy, SV.int .i64 hz, SV.ros v192 kP l], SV.int .i64 m]) ([]) Q = M.mass k r hx hy hz l m (fun (x199 : Int) (x200 : Int) (x201 : Int) (x202 : Int) (x203 : Int) => Q (SV.tup [SV.agg [SV.int .i64 x199, SV.int .i64 x200, SV.int .i64 x201, SV.int .i64 x202], SV.int .i64 x203]) ([])) := by kernel_rfl
def mass_sp : List AS := [.st [.leaf (.int .i64 0), .leaf (.int .i64 0), .leaf (.int .i64 0), .leaf (.int .i64 0), .leaf (.int .i64 0), .ro (.st (.i .i64) [.i .i64, .i .i64])], .val (.int .i64 0)]
/-! Plain words: half widths, and masses. -/
def loF (f : P3 → Int) (l : List P3) (m : Int) : Int := l.foldl (fun m p => if f p < m then f p else m) m
def hiF (f : P3 → Int) (l : List P3) (m : Int) : Int := l.foldl (fun m p => if f p > m then f p else m) m
theorem loF_spec (f : P3 → Int) : ∀ (l : List P3) (m : Int), loF f l m ≤ m ∧ (∀ p ∈ l, loF f l m ≤ f p) ∧ (loF f l m = m ∨ ∃ p ∈ l, loF f l m = f p)
  | [], m => by simp [loF]
  | p :: l, m => by
    obtain ⟨h1, h2, h3⟩ := loF_spec f l (if f p < m then f p else m)
    have e : loF f (p :: l) m = loF f l (if f p < m then f p else m) := rfl
    rw [e]
    by_cases hc : f p < m
    · rw [if_pos hc] at h1 h2 h3 ⊢
      refine ⟨by omega, ?_, ?_⟩
      · intro q hq
        rcases List.mem_cons.1 hq with rfl | hq
        · omega
        · exact h2 q hq
      · rcases h3 with h3 | ⟨q, hq, h3⟩
        · exact .inr ⟨p, by simp, h3⟩
        · exact .inr ⟨q, by simp [hq], h3⟩
    · rw [if_neg hc] at h1 h2 h3 ⊢
      refine ⟨h1, ?_, ?_⟩
      · intro q hq
        rcases List.mem_cons.1 hq with rfl | hq
        · omega
        · exact h2 q hq
      · rcases h3 with h3 | ⟨q, hq, h3⟩
        · exact .inl h3
        · exact .inr ⟨q, by simp [hq], h3⟩
theorem hiF_spec (f : P3 → Int) : ∀ (l : List P3) (m : Int), m ≤ hiF f l m ∧ (∀ p ∈ l, f p ≤ hiF f l m) ∧ (hiF f l m = m ∨ ∃ p ∈ l, hiF f l m = f p)
  | [], m => by simp [hiF]
  | p :: l, m => by
    obtain ⟨h1, h2, h3⟩ := hiF_spec f l (if f p > m then f p else m)
    have e : hiF f (p :: l) m = hiF f l (if f p > m then f p else m) := rfl
    rw [e]
    by_cases hc : f p > m
    · rw [if_pos hc] at h1 h2 h3 ⊢
      refine ⟨by omega, ?_, ?_⟩
      · intro q hq
        rcases List.mem_cons.1 hq with rfl | hq
        · omega
        · exact h2 q hq
      · rcases h3 with h3 | ⟨q, hq, h3⟩
        · exact .inr ⟨p, by simp, h3⟩
        · exact .inr ⟨q, by simp [hq], h3⟩
    · rw [if_neg hc] at h1 h2 h3 ⊢
      refine ⟨h1, ?_, ?_⟩
      · intro q hq
        rcases List.mem_cons.1 hq with rfl | hq
        · omega
        · exact h2 q hq
      · rcases h3 with h3 | ⟨q, hq, h3⟩
        · exact .inl h3
        · exact .inr ⟨q, by simp [hq], h3⟩
def wid (f : P3 → Int) (l : List P3) : Int := hiF f l (f (pt l 0)) - loF f l (f (pt l 0))
def halfP (f : P3 → Int) (l : List P3) (r : Int) : Int := (wid f l / 2 + r) * 1048576
def sqP (m n : Int) : Int := m * (n * n / 4294967296) / 4294967296
def atl (n : Int) : Int := if 4096 > n then 4096 else n
def massQ (m x y z : Int) : P3 := (atl ((sqP m y + sqP m z) / 3), atl ((sqP m z + sqP m x) / 3), atl ((sqP m x + sqP m y) / 3))
noncomputable def massP (k r hx hy hz : Int) (l : List P3) (m : Int) : P3 :=
  if k = 1 then (atl (sqP m (r * 1048576) * 2 / 5), atl (sqP m (r * 1048576) * 2 / 5), atl (sqP m (r * 1048576) * 2 / 5))
  else massQ m (halfP (fun p => p.1) (corPP k hx hy hz l) r) (halfP (fun p => p.2.1) (corPP k hx hy hz l) r) (halfP (fun p => p.2.2) (corPP k hx hy hz l) r)
noncomputable def masEP (k r hx hy hz : Int) (l : List P3) (m : Int) : Int := if chkP k r hx hy hz l = 0 then (if inZ m 16777216 1099511627776 then 0 else 120) else chkP k r hx hy hz l
noncomputable def _root_.Go.Proofs.Ytkjellhkamfciaa.V.masE (k r hx hy hz : Int) (l : List P3) (m : Int) : Int := hid (masEP k r hx hy hz l m)
noncomputable def _root_.Go.Proofs.Ytkjellhkamfciaa.V.masM (k r hx hy hz : Int) (l : List P3) (m : Int) : Int := hid (if masEP k r hx hy hz l m = 0 then m else 0)
noncomputable def _root_.Go.Proofs.Ytkjellhkamfciaa.V.masI (k r hx hy hz : Int) (l : List P3) (m : Int) : P3 := hid (if masEP k r hx hy hz l m = 0 then massP k r hx hy hz l m else (0, 0, 0))
theorem gd_of {n : Int} (h : -4611686018427387903 ≤ n ∧ n ≤ 4611686018427387903) : Gd n := by unfold Gd; exact h
theorem sq_some {m n : Int} (hm : 0 ≤ m ∧ m ≤ 1099511627776) (hn : 0 ≤ n ∧ n ≤ 137438953472) :
    V.mMul n n = some (n * n / 4294967296) ∧ V.mMul m (n * n / 4294967296) = some (sqP m n) ∧ 0 ≤ sqP m n ∧ sqP m n ≤ 1125899906842624 := by
  have h1 : n * n ≤ 137438953472 * 137438953472 := Int.mul_le_mul hn.2 hn.2 hn.1 (by omega)
  have h2 : 0 ≤ n * n := Int.mul_nonneg hn.1 hn.1
  have h3 : 0 ≤ n * n / 4294967296 ∧ n * n / 4294967296 ≤ 4398046511104 := by omega
  unfold sqP
  generalize hq : n * n / 4294967296 = q at *
  have h4 : m * q ≤ 1099511627776 * 4398046511104 := Int.mul_le_mul hm.2 h3.2 h3.1 (by omega)
  have h5 : 0 ≤ m * q := Int.mul_nonneg hm.1 h3.1
  generalize hp : m * q = p at *
  refine ⟨mMul_some.2 ⟨gd_of (by omega), gd_of (by omega), gd_of (by omega), hq.symm⟩, mMul_some.2 ⟨gd_of (by omega), gd_of (by omega), gd_of (by omega), by rw [hp]⟩, by omega, by omega⟩
theorem add_some' {a b : Int} (ha : 0 ≤ a ∧ a ≤ 1125899906842624) (hb : 0 ≤ b ∧ b ≤ 1125899906842624) : V.mAdd a b = some (a + b) :=
  mAdd_some.2 ⟨gd_of (by omega), gd_of (by omega), gd_of (by omega), rfl⟩
theorem ratio_some {a b c : Int} (ha : 0 ≤ a ∧ a ≤ 4503599627370496) (hb : 0 ≤ b ∧ b ≤ 10) (hc : 0 < c ∧ c ≤ 10) : V.mRatio a b c = some (a * b / c) := by
  have h1 : a * b ≤ 4503599627370496 * 10 := Int.mul_le_mul ha.2 hb.2 hb.1 (by omega)
  have h2 : 0 ≤ a * b := Int.mul_nonneg ha.1 hb.1
  unfold V.mRatio V.qF V.tl isG
  generalize a * b = p at *
  have h3 : 0 ≤ p / c := Int.ediv_nonneg h2 (by omega)
  have h4 : p / c ≤ p := Int.ediv_le_self _ h2
  have c1 : (c == 0) = false := by simp; omega
  have c2 : ¬ (c < 0) := by omega
  have c3 : (p / c == -18446744073709551616) = false := by simp; omega
  simp only [c1, c3, Bool.false_or, Bool.false_and, Bool.false_eq_true, if_false, if_neg c2]
  rw [if_neg (by simp; omega), if_neg (by simp; omega)]
theorem wid_nonneg (f : P3 → Int) (l : List P3) : 0 ≤ wid f l := by
  have h1 := (loF_spec f l (f (pt l 0))).1
  have h2 := (hiF_spec f l (f (pt l 0))).1
  unfold wid; omega
theorem wid_le (f : P3 → Int) (l : List P3) (hl : 0 < l.length) (hs : ∀ p ∈ l, -65536 ≤ f p ∧ f p ≤ 65536) : (-65536 ≤ loF f l (f (pt l 0)) ∧ loF f l (f (pt l 0)) ≤ 65536) ∧ (-65536 ≤ hiF f l (f (pt l 0)) ∧ hiF f l (f (pt l 0)) ≤ 65536) := by
  have h0 := hs _ (pt_mem l 0 hl)
  have h1 := (loF_spec f l (f (pt l 0))).2.2
  have h2 := (hiF_spec f l (f (pt l 0))).2.2
  refine ⟨?_, ?_⟩
  · rcases h1 with h | ⟨p, hp, h⟩
    · rw [h]; exact h0
    · rw [h]; exact hs p hp
  · rcases h2 with h | ⟨p, hp, h⟩
    · rw [h]; exact h0
    · rw [h]; exact hs p hp
theorem half_w (f : P3 → Int) (l : List P3) (hl : 0 < l.length) (hs : ∀ p ∈ l, -65536 ≤ f p ∧ f p ≤ 65536) (r : Int) (hr : 0 ≤ r ∧ r ≤ 16384) :
    IntKind.wrap .i64 (IntKind.wrap .i64 (IntKind.wrap .i64 (Int.tdiv (IntKind.wrap .i64 (hiF f l (f (pt l 0)) - loF f l (f (pt l 0)))) 2) + r) * 1048576) = halfP f l r ∧ 0 ≤ halfP f l r ∧ halfP f l r ≤ 137438953472 := by
  obtain ⟨h1, h2⟩ := wid_le f l hl hs
  have h3 := wid_nonneg f l
  unfold halfP
  unfold wid at h3 ⊢
  generalize hiF f l (f (pt l 0)) = a at *
  generalize loF f l (f (pt l 0)) = b at *
  rw [IntWalk.i64_in (a - b) (by omega), Int.tdiv_eq_ediv_of_nonneg h3]
  rw [IntWalk.i64_in ((a - b) / 2) (by omega), IntWalk.i64_in ((a - b) / 2 + r) (by omega), IntWalk.i64_in _ (by omega)]
  exact ⟨rfl, by omega, by omega⟩
theorem corPP_pos {k r hx hy hz : Int} {l : List P3} (h : chkP k r hx hy hz l = 0) : 0 < (corPP k hx hy hz l).length ∧ (corPP k hx hy hz l).length ≤ 12 ∧ (∀ p ∈ corPP k hx hy hz l, Sm p 65536) := by
  unfold corPP
  rcases chk_range h with ⟨rfl, h1⟩ | ⟨rfl, h1, h2⟩ | ⟨rfl, h1, h2, h3, h4⟩ | ⟨rfl, h1, h2, h3, h4⟩
  · simp only [if_true]; exact ⟨by decide, by decide, by simp [Sm]⟩
  · simp only [Int.reduceEq, if_false, if_true]
    refine ⟨by simp, by simp, ?_⟩
    intro p hp
    simp only [List.mem_cons, List.not_mem_nil, or_false] at hp
    rcases hp with rfl | rfl <;> (unfold Sm; simp only; omega)
  · simp only [Int.reduceEq, if_false, if_true]
    refine ⟨by simp [brickP], by simp [brickP], ?_⟩
    intro p hp
    simp only [brickP, List.mem_cons, List.not_mem_nil, or_false] at hp
    rcases hp with rfl | rfl | rfl | rfl | rfl | rfl | rfl | rfl <;> (unfold Sm; simp only; omega)
  · simp only [Int.reduceEq, if_false]
    refine ⟨by omega, h2.2, ?_⟩
    intro p hp
    simp only [V.apartP, decide_eq_true_eq] at h3
    exact sm_of (h3.1 p hp)
theorem half_l0 {α : Type} (l : List P3) (hl : l.length < 1099511627776) (k1 : Int → Int → Option α) : ∀ (fuel i : Nat) (lo hi : Int), i ≤ l.length → l.length - i < fuel →
    M.mass_l0 (l.length : Int) l k1 fuel lo hi (i : Int) = k1 (loF (fun p => p.1) (l.drop i) lo) (hiF (fun p => p.1) (l.drop i) hi)
  | 0, i, lo, hi, h1, h2 => by omega
  | f + 1, i, lo, hi, h1, h2 => by
    unfold M.mass_l0 M.mass_l0_step
    rw [cLt_nat]
    by_cases hx : i < l.length
    · rw [w_next (by omega), half_l0 l hl k1 f (i + 1) _ _ (by omega) (by omega)]
      simp only [hx, decide_true, if_true, inB hx, toNat_nat]
      rw [drop_pt l i hx]
      rfl
    · have : i = l.length := by omega
      subst this
      simp [loF, hiF]
theorem half_l1 {α : Type} (l : List P3) (hl : l.length < 1099511627776) (k1 : Int → Int → Option α) : ∀ (fuel i : Nat) (lo hi : Int), i ≤ l.length → l.length - i < fuel →
    M.mass_l1 (l.length : Int) l k1 fuel lo hi (i : Int) = k1 (loF (fun p => p.2.1) (l.drop i) lo) (hiF (fun p => p.2.1) (l.drop i) hi)
  | 0, i, lo, hi, h1, h2 => by omega
  | f + 1, i, lo, hi, h1, h2 => by
    unfold M.mass_l1 M.mass_l1_step
    rw [cLt_nat]
    by_cases hx : i < l.length
    · rw [w_next (by omega), half_l1 l hl k1 f (i + 1) _ _ (by omega) (by omega)]
      simp only [hx, decide_true, if_true, inB hx, toNat_nat]
      rw [drop_pt l i hx]
      rfl
    · have : i = l.length := by omega
      subst this
      simp [loF, hiF]
theorem half_l2 {α : Type} (l : List P3) (hl : l.length < 1099511627776) (k1 : Int → Int → Option α) : ∀ (fuel i : Nat) (lo hi : Int), i ≤ l.length → l.length - i < fuel →
    M.mass_l2 (l.length : Int) l k1 fuel lo hi (i : Int) = k1 (loF (fun p => p.2.2) (l.drop i) lo) (hiF (fun p => p.2.2) (l.drop i) hi)
  | 0, i, lo, hi, h1, h2 => by omega
  | f + 1, i, lo, hi, h1, h2 => by
    unfold M.mass_l2 M.mass_l2_step
    rw [cLt_nat]
    by_cases hx : i < l.length
    · rw [w_next (by omega), half_l2 l hl k1 f (i + 1) _ _ (by omega) (by omega)]
      simp only [hx, decide_true, if_true, inB hx, toNat_nat]
      rw [drop_pt l i hx]
      rfl
    · have : i = l.length := by omega
      subst this
      simp [loF, hiF]
theorem mass_v {α : Type} (k r hx hy hz : Int) (l : List P3) (m : Int) (k0 : Int → Int → Int → Int → Int → Option α) :
    M.mass k r hx hy hz l m k0 = k0 (V.masM k r hx hy hz l m) (V.masI k r hx hy hz l m).1 (V.masI k r hx hy hz l m).2.1 (V.masI k r hx hy hz l m).2.2 (V.masE k r hx hy hz l m) := by
  unfold M.mass V.masM V.masI V.masE V.chk V.corP V.corR
  simp only [hid_eq, cEq_eq, within_eq]
  by_cases hc : chkP k r hx hy hz l = 0
  · by_cases hm : inZ m 16777216 1099511627776 = true
    · have he : masEP k r hx hy hz l m = 0 := by unfold masEP; rw [if_pos hc, if_pos hm]
      simp only [he, hc, hm, beq_self_eq_true, Bool.not_true, Bool.false_eq_true, if_false, if_true, beq_iff_eq]
      have hm' : 0 ≤ m ∧ m ≤ 1099511627776 := by simp [inZ] at hm; omega
      by_cases h1 : k = 1
      · subst h1
        have hr : 0 ≤ r * 1048576 ∧ r * 1048576 ≤ 137438953472 := by rcases chk_range hc with ⟨_, h⟩ | ⟨h, _⟩ | ⟨h, _⟩ | ⟨h, _⟩ <;> omega
        obtain ⟨s1, s2, s3, s4⟩ := sq_some hm' hr
        rw [IntWalk.i64_in (r * 1048576) (by omega)]
        have s5 := ratio_some (a := sqP m (r * 1048576)) (b := 2) (c := 5) (by omega) (by omega) (by omega)
        simp only [s1, s2, s5, V.gv, V.gn, Option.getD_some, Option.isNone_some, Bool.or_false, Bool.false_eq_true, if_false, if_true]
        simp only [massP, if_true, atl]
      · obtain ⟨p1, p2, p3⟩ := corPP_pos hc
        have hr : 0 ≤ r ∧ r ≤ 16384 := by rcases chk_range hc with ⟨_, h⟩ | ⟨_, h, _⟩ | ⟨_, h, _⟩ | ⟨_, h, _⟩ <;> omega
        have hmp : massP k r hx hy hz l m = massQ m (halfP (fun p => p.1) (corPP k hx hy hz l) r) (halfP (fun p => p.2.1) (corPP k hx hy hz l) r) (halfP (fun p => p.2.2) (corPP k hx hy hz l) r) := by unfold massP; rw [if_neg h1]
        rw [hmp, if_neg h1]
        generalize corPP k hx hy hz l = C at *
        have c0 : (0 : Int) ≤ 0 ∧ (0 : Int) < (C.length : Int) := by omega
        obtain ⟨x1, x2, x3⟩ := half_w (fun p => p.1) C p1 (fun p hp => (p3 p hp).1) r hr
        obtain ⟨y1, y2, y3⟩ := half_w (fun p => p.2.1) C p1 (fun p hp => (p3 p hp).2.1) r hr
        obtain ⟨z1, z2, z3⟩ := half_w (fun p => p.2.2) C p1 (fun p hp => (p3 p hp).2.2) r hr
        simp only [if_pos c0]
        refine Eq.trans (half_l0 C (by omega) _ _ 0 _ _ (by omega) (by omega)) ?_
        refine Eq.trans (half_l1 C (by omega) _ _ 0 _ _ (by omega) (by omega)) ?_
        refine Eq.trans (half_l2 C (by omega) _ _ 0 _ _ (by omega) (by omega)) ?_
        simp only [List.drop_zero]
        simp only [pt] at x1 y1 z1
        rw [x1, y1, z1]
        generalize halfP (fun p => p.1) C r = X at *
        generalize halfP (fun p => p.2.1) C r = Y at *
        generalize halfP (fun p => p.2.2) C r = Z at *
        obtain ⟨a1, a2, a3, a4⟩ := sq_some hm' ⟨x2, x3⟩
        obtain ⟨b1, b2, b3, b4⟩ := sq_some hm' ⟨y2, y3⟩
        obtain ⟨c1, c2, c3, c4⟩ := sq_some hm' ⟨z2, z3⟩
        have d1 := add_some' ⟨b3, b4⟩ ⟨c3, c4⟩
        have d2 := add_some' ⟨c3, c4⟩ ⟨a3, a4⟩
        have d3 := add_some' ⟨a3, a4⟩ ⟨b3, b4⟩
        have e1 := ratio_some (a := sqP m Y + sqP m Z) (b := 1) (c := 3) (by omega) (by omega) (by omega)
        have e2 := ratio_some (a := sqP m Z + sqP m X) (b := 1) (c := 3) (by omega) (by omega) (by omega)
        have e3 := ratio_some (a := sqP m X + sqP m Y) (b := 1) (c := 3) (by omega) (by omega) (by omega)
        simp only [a1, a2, b1, b2, c1, c2, d1, d2, d3, e1, e2, e3, V.gv, V.gn, Option.getD_some, Option.isNone_some, Bool.or_false, Bool.false_eq_true, if_false, Int.mul_one]
        simp only [massQ, atl]
    · have he : masEP k r hx hy hz l m = 120 := by unfold masEP; rw [if_pos hc, if_neg hm]
      simp [he, hc, hm]
  · have he : masEP k r hx hy hz l m = chkP k r hx hy hz l := by unfold masEP; rw [if_neg hc]
    simp [he, hc]
noncomputable def mass_h {α : Type} (ds : List D) (Q : SV → Hp → Option α) : Option α :=
  dI ds fun k ds => dI ds fun r ds => dI ds fun hx ds => dI ds fun hy ds => dI ds fun hz ds => dL kP ds fun l ds => dI ds fun m ds => dE ds (Q (.tup [.agg [.int .i64 (V.masM k r hx hy hz l m), .int .i64 (V.masI k r hx hy hz l m).1, .int .i64 (V.masI k r hx hy hz l m).2.1, .int .i64 (V.masI k r hx hy hz l m).2.2], .int .i64 (V.masE k r hx hy hz l m)]) ([]))
theorem mass_h_ok {α : Type} : FnOk E.P 15 (fEnt (α := α) mass_sp mass_h) :=
  fEntR_ok E (look_core_ok) (exec_sound E E_ok (look_core_ok) (mass_l2_lps_ok) 400) fun ds Q r h => by
    unfold mass_h at h
    obtain ⟨k, ds, rfl, h1⟩ := dI_inv h
    obtain ⟨r, ds, rfl, h2⟩ := dI_inv h1
    obtain ⟨hx, ds, rfl, h3⟩ := dI_inv h2
    obtain ⟨hy, ds, rfl, h4⟩ := dI_inv h3
    obtain ⟨hz, ds, rfl, h5⟩ := dI_inv h4
    obtain ⟨l, ds, rfl, h6⟩ := dL_inv h5
    obtain ⟨m, ds, rfl, h7⟩ := dI_inv h6
    obtain ⟨rfl, hE⟩ := dE_inv h7
    exact ⟨_, _, hE, fun vs => ⟨_, _, by kernel_rfl, (mass_eq k r hx hy hz l m ((cellsV (vs.headD undef)).tail.tail.tail.tail.tail.headD undef) _).trans (mass_v k r hx hy hz l m _)⟩⟩
noncomputable def look_mass {α : Type} : LookF α := addFn 15 (fEnt mass_sp mass_h) look_core
theorem look_mass_ok {α : Type} : LookOk E.P (look_mass (α := α)) := addFn_ok mass_h_ok (look_core_ok)
end Go.Proofs.Ytkjellhkamfciaa.Sx
end

section
/- shape: the laws' small words, and their first calls. -/
namespace Go.Proofs.Ytkjellhkamfciaa.Sx
open Go
set_option maxRecDepth 20000
set_option linter.unusedVariables false
set_option linter.unusedSimpArgs false
noncomputable def _root_.Go.Proofs.Ytkjellhkamfciaa.M.lpick {α : Type} (c : Int) (n : Int) (k0 : Int → Option α) : Option α :=
  if cLt c (0 : Int) = true then if n = (0 : Int) then none else k0 (Int.tmod (IntKind.wrap .i64 ((0 : Int) - IntKind.wrap .i64 (c + (1 : Int)))) n) else if n = (0 : Int) then none else k0 (Int.tmod c n)
theorem lpick_eq {α : Type} (c : Int) (n : Int) (Q : SV → Hp → Option α) : callI E look_mass (exec E look_mass noLps 400) 20 ([SV.int .i64 c, SV.int .i64 n]) ([]) Q = M.lpick c n (fun (x0 : Int) => Q (SV.int .i64 x0) ([])) := by kernel_rfl
def lpick_sp : List AS := [.val (.int .i64 0), .val (.int .i64 0)]
noncomputable def _root_.Go.Proofs.Ytkjellhkamfciaa.V.lpick_g (c : Int) (n : Int) : Bool :=
  if cLt c (0 : Int) = true then if n = (0 : Int) then false else true else if n = (0 : Int) then false else true
noncomputable def _root_.Go.Proofs.Ytkjellhkamfciaa.V.lpick_r0 (c : Int) (n : Int) : Int :=
  if cLt c (0 : Int) = true then if n = (0 : Int) then (0 : Int) else Int.tmod (IntKind.wrap .i64 ((0 : Int) - IntKind.wrap .i64 (c + (1 : Int)))) n else if n = (0 : Int) then (0 : Int) else Int.tmod c n
theorem lpick_val {α : Type} (c : Int) (n : Int) (k0 : Int → Option α) : M.lpick c n k0 = if V.lpick_g c n = true then k0 (V.lpick_r0 c n) else none := by
  unfold M.lpick V.lpick_g V.lpick_r0
  repeat' first | rfl | (split <;> rename_i h <;> first | simp only [if_pos h] | simp only [if_neg h] | skip)
noncomputable def lpick_c {α : Type} (ds : List D) (Q : SV → Hp → Option α) : Option α :=
  dI ds fun c ds => dI ds fun n ds => dE ds (if V.lpick_g c n = true then Q (SV.int .i64 (V.lpick_r0 c n)) ([]) else none)
theorem lpick_c_ok {α : Type} : FnOk E.P 20 (fEnt (α := α) lpick_sp lpick_c) :=
  fEnt_ok E (look_mass_ok) (exec_sound E E_ok (look_mass_ok) (noLps_ok _) 400) fun ds Q r h => by
    unfold lpick_c at h
    obtain ⟨c, ds, rfl, h1⟩ := dI_inv h
    obtain ⟨n, ds, rfl, h2⟩ := dI_inv h1
    obtain ⟨rfl, hE⟩ := dE_inv h2
    exact ⟨[SV.int .i64 c, SV.int .i64 n], [], fun vs => by kernel_rfl, (lpick_eq c n Q).trans ((lpick_val c n (fun (x0 : Int) => Q (SV.int .i64 x0) ([]))).trans hE)⟩
noncomputable def lpick_go {α : Type} (ds : List D) (Q : SV → Hp → Option α) : Option α :=
  dI ds fun c ds => dI ds fun n ds => dE ds (M.lpick c n (fun (x0 : Int) => Q (SV.int .i64 x0) ([])))
theorem lpick_ok {α : Type} : FnOk E.P 20 (fEnt (α := α) lpick_sp lpick_go) :=
  fEnt_ok E (look_mass_ok) (exec_sound E E_ok (look_mass_ok) (noLps_ok _) 400) fun ds Q r h => by
    unfold lpick_go at h
    obtain ⟨c, ds, rfl, h1⟩ := dI_inv h
    obtain ⟨n, ds, rfl, h2⟩ := dI_inv h1
    obtain ⟨rfl, hE⟩ := dE_inv h2
    exact ⟨[SV.int .i64 c, SV.int .i64 n], [], fun vs => by kernel_rfl, (lpick_eq c n Q).trans hE⟩
noncomputable def look_lpick {α : Type} : LookF α := addFn 20 (fEnt lpick_sp lpick_c) look_mass
theorem look_lpick_ok {α : Type} : LookOk E.P (look_lpick (α := α)) := addFn_ok lpick_c_ok (look_mass_ok)
noncomputable def _root_.Go.Proofs.Ytkjellhkamfciaa.M.lpart {α : Type} (n : Int) (most : Int) (k0 : Int → Option α) : Option α :=
  if V.lpick_g n (IntKind.wrap .i64 (IntKind.wrap .i64 ((2 : Int) * most) + (1 : Int))) = true then k0 (IntKind.wrap .i64 (V.lpick_r0 n (IntKind.wrap .i64 (IntKind.wrap .i64 ((2 : Int) * most) + (1 : Int))) - most)) else none
theorem lpart_eq {α : Type} (n : Int) (most : Int) (Q : SV → Hp → Option α) : callI E look_lpick (exec E look_lpick noLps 400) 44 ([SV.int .i64 n, SV.int .i64 most]) ([]) Q = M.lpart n most (fun (x1 : Int) => Q (SV.int .i64 x1) ([])) := by kernel_rfl
def lpart_sp : List AS := [.val (.int .i64 0), .val (.int .i64 0)]
noncomputable def _root_.Go.Proofs.Ytkjellhkamfciaa.V.lpart_g (n : Int) (most : Int) : Bool :=
  if V.lpick_g n (IntKind.wrap .i64 (IntKind.wrap .i64 ((2 : Int) * most) + (1 : Int))) = true then true else false
noncomputable def _root_.Go.Proofs.Ytkjellhkamfciaa.V.lpart_r0 (n : Int) (most : Int) : Int :=
  if V.lpick_g n (IntKind.wrap .i64 (IntKind.wrap .i64 ((2 : Int) * most) + (1 : Int))) = true then IntKind.wrap .i64 (V.lpick_r0 n (IntKind.wrap .i64 (IntKind.wrap .i64 ((2 : Int) * most) + (1 : Int))) - most) else (0 : Int)
theorem lpart_val {α : Type} (n : Int) (most : Int) (k0 : Int → Option α) : M.lpart n most k0 = if V.lpart_g n most = true then k0 (V.lpart_r0 n most) else none := by
  unfold M.lpart V.lpart_g V.lpart_r0
  repeat' first | rfl | (split <;> rename_i h <;> first | simp only [if_pos h] | simp only [if_neg h] | skip)
noncomputable def lpart_c {α : Type} (ds : List D) (Q : SV → Hp → Option α) : Option α :=
  dI ds fun n ds => dI ds fun most ds => dE ds (if V.lpart_g n most = true then Q (SV.int .i64 (V.lpart_r0 n most)) ([]) else none)
theorem lpart_c_ok {α : Type} : FnOk E.P 44 (fEnt (α := α) lpart_sp lpart_c) :=
  fEnt_ok E (look_lpick_ok) (exec_sound E E_ok (look_lpick_ok) (noLps_ok _) 400) fun ds Q r h => by
    unfold lpart_c at h
    obtain ⟨n, ds, rfl, h1⟩ := dI_inv h
    obtain ⟨most, ds, rfl, h2⟩ := dI_inv h1
    obtain ⟨rfl, hE⟩ := dE_inv h2
    exact ⟨[SV.int .i64 n, SV.int .i64 most], [], fun vs => by kernel_rfl, (lpart_eq n most Q).trans ((lpart_val n most (fun (x1 : Int) => Q (SV.int .i64 x1) ([]))).trans hE)⟩
noncomputable def lpart_go {α : Type} (ds : List D) (Q : SV → Hp → Option α) : Option α :=
  dI ds fun n ds => dI ds fun most ds => dE ds (M.lpart n most (fun (x1 : Int) => Q (SV.int .i64 x1) ([])))
theorem lpart_ok {α : Type} : FnOk E.P 44 (fEnt (α := α) lpart_sp lpart_go) :=
  fEnt_ok E (look_lpick_ok) (exec_sound E E_ok (look_lpick_ok) (noLps_ok _) 400) fun ds Q r h => by
    unfold lpart_go at h
    obtain ⟨n, ds, rfl, h1⟩ := dI_inv h
    obtain ⟨most, ds, rfl, h2⟩ := dI_inv h1
    obtain ⟨rfl, hE⟩ := dE_inv h2
    exact ⟨[SV.int .i64 n, SV.int .i64 most], [], fun vs => by kernel_rfl, (lpart_eq n most Q).trans hE⟩
noncomputable def look_lpart {α : Type} : LookF α := addFn 44 (fEnt lpart_sp lpart_c) look_lpick
theorem look_lpart_ok {α : Type} : LookOk E.P (look_lpart (α := α)) := addFn_ok lpart_c_ok (look_lpick_ok)
noncomputable abbrev lpoints_S1 (y1 : Value) (y2 : L3) (y3 : Value) (y4 : L3) (y5 : Int) : St := St.mk (some (SV.ros y1 kP y2) :: some (SV.ros y3 kP y4) :: nn 3 (some (SV.int .i64 y5) :: nn 20 ([]))) []
noncomputable def _root_.Go.Proofs.Ytkjellhkamfciaa.M.lpoints_l0_step {α : Type} (x10 : L3) (x12 : L3) (kn : Int → Option α) (k0 : Option α) (k2 : Option α) (x13 : Int) : Option α :=
  if cLt x13 (↑(List.length x10) : Int) = true then
  if (0 : Int) ≤ x13 ∧ x13 < (↑(List.length x10) : Int) then
    if (0 : Int) ≤ x13 ∧ x13 < (↑(List.length x12) : Int) then
      if
          (!(cEq (Prod.fst (List.getD x10 (Int.toNat x13) ((0 : Int), (0 : Int), (0 : Int)))) (Prod.fst (List.getD x12 (Int.toNat x13) ((0 : Int), (0 : Int), (0 : Int)))) &&
                (cEq (Prod.fst (Prod.snd (List.getD x10 (Int.toNat x13) ((0 : Int), (0 : Int), (0 : Int))))) (Prod.fst (Prod.snd (List.getD x12 (Int.toNat x13) ((0 : Int), (0 : Int), (0 : Int))))) && (cEq (Prod.snd (Prod.snd (List.getD x10 (Int.toNat x13) ((0 : Int), (0 : Int), (0 : Int))))) (Prod.snd (Prod.snd (List.getD x12 (Int.toNat x13) ((0 : Int), (0 : Int), (0 : Int))))) && true)))) =
            true then
        k0
      else kn (IntKind.wrap .i64 (x13 + (1 : Int)))
    else none
  else none
else k2
noncomputable def _root_.Go.Proofs.Ytkjellhkamfciaa.M.lpoints_l0 {α : Type} (x10 : L3) (x12 : L3) (k0 : Option α) (k2 : Option α) : Nat → Int → Option α
  | 0, _ => none
  | n + 1, x13 => M.lpoints_l0_step x10 x12 (M.lpoints_l0 x10 x12 k0 k2 n) k0 k2 x13
theorem lpoints_l0_step_eq {α : Type} (x9 : Value) (x10 : L3) (x11 : Value) (x12 : L3) (x13 : Int) (Q : Ex → St → Option α) : (loopStep E (exec E look_lpart noLps 400) 18 [false, true, false, true, true] 0 (codeAt E.P 18 [false, true, false, true, true])) (lpoints_S1 x9 x10 x11 x12 x13) Q = M.lpoints_l0_step x10 x12 (fun (x14 : Int) => Q .normal (lpoints_S1 x9 x10 x11 x12 x14)) (Q .ret (St.mk (nn 4 (some (SV.bool false) :: nn 21 ([]))) [])) (Q (.exit 0) (St.mk (nn 26 ([])) [])) x13 := by kernel_rfl
theorem lpoints_l0_iter {α : Type} (x9 : Value) (x10 : L3) (x11 : Value) (x12 : L3) (Q : Ex → St → Option α) : ∀ (n : Nat) (x13 : Int), iter (loopStep E (exec E look_lpart noLps 400) 18 [false, true, false, true, true] 0 (codeAt E.P 18 [false, true, false, true, true])) n (lpoints_S1 x9 x10 x11 x12 x13) Q = M.lpoints_l0 x10 x12 (Q .ret (St.mk (nn 4 (some (SV.bool false) :: nn 21 ([]))) [])) (Q (.exit 0) (St.mk (nn 26 ([])) [])) n x13
  | 0, _ => rfl
  | n + 1, x13 => (lpoints_l0_step_eq x9 x10 x11 x12 x13 (iterK (loopStep E (exec E look_lpart noLps 400) 18 [false, true, false, true, true] 0 (codeAt E.P 18 [false, true, false, true, true])) n Q)).trans (congrArg (fun kn => M.lpoints_l0_step x10 x12 kn (Q .ret (St.mk (nn 4 (some (SV.bool false) :: nn 21 ([]))) [])) (Q (.exit 0) (St.mk (nn 26 ([])) [])) x13) (funext fun x13 => lpoints_l0_iter x9 x10 x11 x12 Q n x13))
noncomputable def lpoints_l0_go {α : Type} (ds : List D) (Q : Ex → St → Option α) : Option α :=
  dV ds fun x9 ds => dL kP ds fun x10 ds => dV ds fun x11 ds => dL kP ds fun x12 ds => dI ds fun x13 ds => dE ds (M.lpoints_l0 x10 x12 (Q .ret (St.mk (nn 4 (some (SV.bool false) :: nn 21 ([]))) [])) (Q (.exit 0) (St.mk (nn 26 ([])) [])) (100 + x10.length + x12.length) x13)
theorem lpoints_l0_ok {α : Type} : LoopOk E.P 18 [false, true, false, true, true] 0 (lEnt (α := α) (St.mk (some (SV.ros undef kP []) :: some (SV.ros undef kP []) :: nn 3 (some (SV.int .i64 (0 : Int)) :: nn 20 ([]))) []) lpoints_l0_go) :=
  lEnt_ok E (exec_sound E E_ok (look_lpart_ok) (noLps_ok _) 400) fun ds Q r h S hS => by
    unfold lpoints_l0_go at h
    obtain ⟨x9, ds, rfl, h1⟩ := dV_inv h
    obtain ⟨x10, ds, rfl, h2⟩ := dL_inv h1
    obtain ⟨x11, ds, rfl, h3⟩ := dV_inv h2
    obtain ⟨x12, ds, rfl, h4⟩ := dL_inv h3
    obtain ⟨x13, ds, rfl, h5⟩ := dI_inv h4
    obtain ⟨rfl, hE⟩ := dE_inv h5
    have e : fillS (St.mk (some (SV.ros undef kP []) :: some (SV.ros undef kP []) :: nn 3 (some (SV.int .i64 (0 : Int)) :: nn 20 ([]))) []) [.v x9, .l kP x10, .v x11, .l kP x12, .i x13] = some (lpoints_S1 x9 x10 x11 x12 x13) := by kernel_rfl
    rw [e] at hS
    cases hS
    exact ⟨_, (lpoints_l0_iter x9 x10 x11 x12 Q _ x13).trans hE⟩
noncomputable def lpoints_l0_lps {α : Type} : LookL α := addLp 18 [false, true, false, true, true] 0 (lEnt (St.mk (some (SV.ros undef kP []) :: some (SV.ros undef kP []) :: nn 3 (some (SV.int .i64 (0 : Int)) :: nn 20 ([]))) []) lpoints_l0_go) noLps
theorem lpoints_l0_lps_ok {α : Type} : LoopsOk E.P (lpoints_l0_lps (α := α)) := addLp_ok lpoints_l0_ok (noLps_ok _)

noncomputable def _root_.Go.Proofs.Ytkjellhkamfciaa.M.lpoints {α : Type} (a : L3) (b : L3) (k0 : Bool → Option α) : Option α :=
  if (!cEq (↑(List.length a) : Int) (↑(List.length b) : Int)) = true then k0 false else M.lpoints_l0 a b (k0 false) (k0 true) ((100 : Nat) + List.length a + List.length b) (0 : Int)
theorem lpoints_eq {α : Type} (a : L3) (b : L3) (v15 : Value) (v16 : Value) (Q : SV → Hp → Option α) : callI E look_lpart (exec E look_lpart lpoints_l0_lps 400) 18 ([SV.ros v15 kP a, SV.ros v16 kP b]) ([]) Q = M.lpoints a b (fun (x17 : Bool) => Q (SV.bool x17) ([])) := by kernel_rfl
def lpoints_sp : List AS := [.ro (.st (.i .i64) [.i .i64, .i .i64]), .ro (.st (.i .i64) [.i .i64, .i .i64])]
/-- Are two lists the same? -/
def _root_.Go.Proofs.Ytkjellhkamfciaa.V.ptsEq (a b : List P3) : Bool := decide (a = b)
theorem drop_eq_iff {a b : List P3} (h : a.length = b.length) : ∀ (k i : Nat), a.length = i + k → ((a.drop i = b.drop i) ↔ ∀ j, i ≤ j → j < a.length → pt a j = pt b j)
  | 0, i, hk => by
    rw [List.drop_eq_nil_of_le (by omega), List.drop_eq_nil_of_le (by omega)]
    simp; intro j h1 h2; omega
  | k + 1, i, hk => by
    rw [drop_pt a i (by omega), drop_pt b i (by omega), List.cons.injEq, drop_eq_iff h k (i + 1) (by omega)]
    constructor
    · rintro ⟨h1, h2⟩ j h3 h4
      by_cases e : j = i
      · subst e; exact h1
      · exact h2 j (by omega) h4
    · intro h1
      exact ⟨h1 i (Nat.le_refl _) (by omega), fun j h2 h3 => h1 j (by omega) h3⟩
theorem lpoints_l0_val {α : Type} (a b : List P3) (hl : a.length < 1099511627776) (he : a.length = b.length) (k0 k2 : Option α) : ∀ (fuel i : Nat), i ≤ a.length → a.length - i < fuel →
    M.lpoints_l0 a b k0 k2 fuel (i : Int) = if a.drop i = b.drop i then k2 else k0
  | 0, i, h1, h2 => by omega
  | f + 1, i, h1, h2 => by
    unfold M.lpoints_l0 M.lpoints_l0_step
    rw [cLt_nat]
    by_cases hx : i < a.length
    · rw [w_next (by omega), lpoints_l0_val a b hl he k0 k2 f (i + 1) (by omega) (by omega)]
      have hb : ((0 : Int) ≤ (i : Int) ∧ (i : Int) < (b.length : Int)) = True := eq_true (by omega)
      simp only [hx, decide_true, if_true, inB hx, hb, toNat_nat, eq3]
      rw [drop_pt a i hx, drop_pt b i (by omega)]
      show (if (!decide (pt a i = pt b i)) = true then _ else _) = _
      by_cases hp : pt a i = pt b i
      · simp [hp]
      · simp [hp]
    · have : i = a.length := by omega
      subst this
      rw [if_neg (by simp), List.drop_eq_nil_of_le (Nat.le_refl _), List.drop_eq_nil_of_le (by omega), if_pos rfl]
theorem lpoints_v {α : Type} (a b : List P3) (hg : V.lenB a.length = true) (k0 : Bool → Option α) : M.lpoints a b k0 = k0 (V.ptsEq a b) := by
  unfold M.lpoints V.ptsEq
  rw [cEq_nat]
  by_cases h : a.length = b.length
  · simp only [h, decide_true, Bool.not_true, Bool.false_eq_true, if_false]
    refine (lpoints_l0_val a b (lenB_lt hg) h (k0 false) (k0 true) _ 0 (by omega) (by omega)).trans ?_
    rw [List.drop_zero, List.drop_zero]
    by_cases e : a = b <;> simp [e]
  · have : a ≠ b := fun e => h (by rw [e])
    simp [h, this]
noncomputable def lpoints_h {α : Type} (ds : List D) (Q : SV → Hp → Option α) : Option α :=
  dL kP ds fun a ds => dL kP ds fun b ds => dE ds (if V.lenB a.length = true then Q (.bool (V.ptsEq a b)) ([]) else none)
theorem lpoints_h_ok {α : Type} : FnOk E.P 18 (fEnt (α := α) lpoints_sp lpoints_h) :=
  fEntR_ok E (look_lpart_ok) (exec_sound E E_ok (look_lpart_ok) (lpoints_l0_lps_ok) 400) fun ds Q r h => by
    unfold lpoints_h at h
    obtain ⟨a, ds, rfl, h1⟩ := dL_inv h
    obtain ⟨b, ds, rfl, h2⟩ := dL_inv h1
    obtain ⟨rfl, hE⟩ := dE_inv h2
    split at hE
    · rename_i hg
      exact ⟨_, _, hE, fun vs => ⟨_, _, by kernel_rfl, (lpoints_eq a b (vs.headD undef) (vs.tail.headD undef) _).trans (lpoints_v a b hg _)⟩⟩
    · cases hE
noncomputable def look_lpoints {α : Type} : LookF α := addFn 18 (fEnt lpoints_sp lpoints_h) look_lpart
theorem look_lpoints_ok {α : Type} : LookOk E.P (look_lpoints (α := α)) := addFn_ok lpoints_h_ok (look_lpart_ok)
noncomputable def _root_.Go.Proofs.Ytkjellhkamfciaa.M.awake {α : Type} (k0 : Bool → Option α) : Option α :=
  if cEq (V.chk (4 : Int) (0 : Int) (0 : Int) (0 : Int) (0 : Int) [((0 : Int), (0 : Int), (0 : Int)), ((4 : Int), (0 : Int), (0 : Int)), ((0 : Int), (4 : Int), (0 : Int)), ((0 : Int), (0 : Int), (4 : Int))]) (0 : Int) = true then
  if V.lenB (List.length (V.corA (4 : Int) (0 : Int) (0 : Int) (0 : Int) (0 : Int) [((0 : Int), (0 : Int), (0 : Int)), ((4 : Int), (0 : Int), (0 : Int)), ((0 : Int), (4 : Int), (0 : Int)), ((0 : Int), (0 : Int), (4 : Int))])) = true then
    if V.ptsEq (V.corA (4 : Int) (0 : Int) (0 : Int) (0 : Int) (0 : Int) [((0 : Int), (0 : Int), (0 : Int)), ((4 : Int), (0 : Int), (0 : Int)), ((0 : Int), (4 : Int), (0 : Int)), ((0 : Int), (0 : Int), (4 : Int))]) [((0 : Int), (0 : Int), (-1 : Int)), ((0 : Int), (-1 : Int), (0 : Int)), ((-1 : Int), (0 : Int), (0 : Int)), ((1 : Int), (1 : Int), (1 : Int))] = true then
      if cEq (V.masE (1 : Int) (4096 : Int) (0 : Int) (0 : Int) (0 : Int) [] (4294967296 : Int)) (0 : Int) = true then
        if cEq (Prod.fst (V.masI (1 : Int) (4096 : Int) (0 : Int) (0 : Int) (0 : Int) [] (4294967296 : Int))) (1717986918 : Int) = true then
          if cEq (V.chk (4 : Int) (0 : Int) (0 : Int) (0 : Int) (0 : Int) [((0 : Int), (0 : Int), (0 : Int)), ((1 : Int), (0 : Int), (0 : Int)), ((0 : Int), (1 : Int), (0 : Int)), ((1 : Int), (1 : Int), (0 : Int))]) (51 : Int) = true then k0 (cEq (Prod.fst (V.pShort ((6 : Int), (-4 : Int), (0 : Int)))) (3 : Int) && (cEq (Prod.fst (Prod.snd (V.pShort ((6 : Int), (-4 : Int), (0 : Int))))) (-2 : Int) && (cEq (Prod.snd (Prod.snd (V.pShort ((6 : Int), (-4 : Int), (0 : Int))))) (0 : Int) && true)))
          else k0 false
        else k0 false
      else k0 false
    else k0 false
  else none
else k0 false
theorem awake_eq {α : Type} (Q : SV → Hp → Option α) : callI E look_lpoints (exec E look_lpoints noLps 400) 10 ([]) ([]) Q = M.awake (fun (x18 : Bool) => Q (SV.bool x18) ([])) := by kernel_rfl
def awake_sp : List AS := []
noncomputable def awake_go {α : Type} (ds : List D) (Q : SV → Hp → Option α) : Option α :=
  dE ds (M.awake (fun (x18 : Bool) => Q (SV.bool x18) ([])))
theorem awake_ok {α : Type} : FnOk E.P 10 (fEnt (α := α) awake_sp awake_go) :=
  fEnt_ok E (look_lpoints_ok) (exec_sound E E_ok (look_lpoints_ok) (noLps_ok _) 400) fun ds Q r h => by
    unfold awake_go at h
    obtain ⟨rfl, hE⟩ := dE_inv h
    exact ⟨[], [], fun vs => by kernel_rfl, (awake_eq Q).trans hE⟩
theorem short_eq' (p : P3) : V.pShort p = shortP p := hid_eq _
def tetra : List P3 := [(0, 0, 0), (4, 0, 0), (0, 4, 0), (0, 0, 4)]
theorem tetra_faces : (facesP tetra).1 = [(0, 0, -1), (0, -1, 0), (-1, 0, 0), (1, 1, 1)] := by
  have h : V.pShort = shortP := funext short_eq'
  have l4 : tetra.length = 4 := rfl
  unfold facesP
  rw [l4]
  simp only [iF, jF, kF, l4, Nat.reduceAdd, Nat.reduceSub, trip, addE, triA, h]
  decide +kernel
theorem tetra_chk : chkP 4 0 0 0 0 tetra = 0 := by
  have h : V.flatP tetra = false := by
    rw [Bool.eq_false_iff]
    intro h
    have := (flatP_iff tetra).1 h (0, 0, 0) (by decide) (4, 0, 0) (by decide) (0, 4, 0) (by decide) (0, 0, 4) (by decide)
    exact absurd this (by decide)
  unfold chkP
  rw [if_neg (by decide), if_neg (by decide), if_neg (by decide), if_pos rfl, if_pos (by decide), h]
  rfl
theorem square_chk : chkP 4 0 0 0 0 [(0, 0, 0), (1, 0, 0), (0, 1, 0), (1, 1, 0)] = 51 := by
  have h : V.flatP [(0, 0, 0), (1, 0, 0), (0, 1, 0), (1, 1, 0)] = true := by
    rw [flatP_iff]
    unfold Copl
    decide
  unfold chkP
  rw [if_neg (by decide), if_neg (by decide), if_neg (by decide), if_pos rfl, if_pos (by decide), h]
  rfl
theorem awake_v {α : Type} (k0 : Bool → Option α) : M.awake k0 = k0 true := by
  unfold M.awake
  have c1 : V.chk 4 0 0 0 0 tetra = 0 := (hid_eq _).trans tetra_chk
  have c2 : V.corA 4 0 0 0 0 tetra = [(0, 0, -1), (0, -1, 0), (-1, 0, 0), (1, 1, 1)] := by
    unfold V.corA
    rw [hid_eq, if_pos tetra_chk]
    unfold corAP
    rw [if_neg (by decide), if_pos rfl]
    exact tetra_faces
  have c3 : V.chk 4 0 0 0 0 [(0, 0, 0), (1, 0, 0), (0, 1, 0), (1, 1, 0)] = 51 := (hid_eq _).trans square_chk
  have m1 : masEP 1 4096 0 0 0 [] 4294967296 = 0 := by
    have : chkP 1 4096 0 0 0 [] = 0 := by unfold chkP; rw [if_pos rfl, if_pos (by decide)]
    unfold masEP
    rw [if_pos this, if_pos (by decide)]
  have c4 : V.masE 1 4096 0 0 0 [] 4294967296 = 0 := (hid_eq _).trans m1
  have c5 : (V.masI 1 4096 0 0 0 [] 4294967296).1 = 1717986918 := by
    unfold V.masI
    rw [hid_eq, if_pos m1]
    unfold massP
    rw [if_pos rfl]
    decide
  have c6 : V.pShort (6, -4, 0) = (3, -2, 0) := by rw [short_eq']; decide +kernel
  have lb : V.lenB (List.length ([(0, 0, -1), (0, -1, 0), (-1, 0, 0), (1, 1, 1)] : List P3)) = true := lenB_of (by decide)
  show (if cEq (V.chk 4 0 0 0 0 tetra) 0 = true then if V.lenB (List.length (V.corA 4 0 0 0 0 tetra)) = true then if V.ptsEq (V.corA 4 0 0 0 0 tetra) [(0, 0, -1), (0, -1, 0), (-1, 0, 0), (1, 1, 1)] = true then _ else _ else _ else _) = _
  rw [c1, c2, c3, c4, c5, c6, if_pos (by rw [cEq_eq]; decide), if_pos lb, if_pos (by decide), if_pos (by rw [cEq_eq]; decide), if_pos (by rw [cEq_eq]; decide), if_pos (by rw [cEq_eq]; decide)]
  simp [cEq_eq]
noncomputable def awake_h {α : Type} (ds : List D) (Q : SV → Hp → Option α) : Option α :=
  dE ds (Q (.bool true) ([]))
theorem awake_h_ok {α : Type} : FnOk E.P 10 (fEnt (α := α) awake_sp awake_h) :=
  fEnt_ok E (look_lpoints_ok) (exec_sound E E_ok (look_lpoints_ok) (noLps_ok _) 400) fun ds Q r h => by
    unfold awake_h at h
    obtain ⟨rfl, hE⟩ := dE_inv h
    exact ⟨[], [], fun vs => by kernel_rfl, (awake_eq Q).trans ((awake_v _).trans hE)⟩
noncomputable def look_awake {α : Type} : LookF α := addFn 10 (fEnt awake_sp awake_h) look_lpoints
theorem look_awake_ok {α : Type} : LookOk E.P (look_awake (α := α)) := addFn_ok awake_h_ok (look_lpoints_ok)
end Go.Proofs.Ytkjellhkamfciaa.Sx
end

section
/- the document's shape: small words, short directions. -/
namespace Go.Proofs.Ytkjellhkamfciaa.Sx
open Go
set_option maxRecDepth 20000
set_option linter.unusedVariables false
set_option linter.unusedSimpArgs false
noncomputable def _root_.Go.Proofs.Ytkjellhkamfciaa.M.dsize {α : Type} (n : Int) (k0 : Int → Option α) : Option α :=
  if cLt n (0 : Int) = true then k0 (IntKind.wrap .i64 ((0 : Int) - n)) else k0 n
theorem dsize_eq {α : Type} (n : Int) (Q : SV → Hp → Option α) : callI E look_awake (exec E look_awake noLps 400) 49 ([SV.int .i64 n]) ([]) Q = M.dsize n (fun (x0 : Int) => Q (SV.int .i64 x0) ([])) := by kernel_rfl
def dsize_sp : List AS := [.val (.int .i64 0)]
noncomputable def _root_.Go.Proofs.Ytkjellhkamfciaa.V.dsize_r0 (n : Int) : Int :=
  if cLt n (0 : Int) = true then IntKind.wrap .i64 ((0 : Int) - n) else n
theorem dsize_val {α : Type} (n : Int) (k0 : Int → Option α) : M.dsize n k0 = k0 (V.dsize_r0 n) := by
  unfold M.dsize V.dsize_r0
  repeat' first | rfl | (split <;> rename_i h <;> first | simp only [if_pos h] | simp only [if_neg h] | skip)
noncomputable def dsize_c {α : Type} (ds : List D) (Q : SV → Hp → Option α) : Option α :=
  dI ds fun n ds => dE ds (Q (SV.int .i64 (V.dsize_r0 n)) ([]))
theorem dsize_c_ok {α : Type} : FnOk E.P 49 (fEnt (α := α) dsize_sp dsize_c) :=
  fEnt_ok E (look_awake_ok) (exec_sound E E_ok (look_awake_ok) (noLps_ok _) 400) fun ds Q r h => by
    unfold dsize_c at h
    obtain ⟨n, ds, rfl, h1⟩ := dI_inv h
    obtain ⟨rfl, hE⟩ := dE_inv h1
    exact ⟨[SV.int .i64 n], [], fun vs => by kernel_rfl, (dsize_eq n Q).trans ((dsize_val n (fun (x0 : Int) => Q (SV.int .i64 x0) ([]))).trans hE)⟩
noncomputable def dsize_go {α : Type} (ds : List D) (Q : SV → Hp → Option α) : Option α :=
  dI ds fun n ds => dE ds (M.dsize n (fun (x0 : Int) => Q (SV.int .i64 x0) ([])))
theorem dsize_ok {α : Type} : FnOk E.P 49 (fEnt (α := α) dsize_sp dsize_go) :=
  fEnt_ok E (look_awake_ok) (exec_sound E E_ok (look_awake_ok) (noLps_ok _) 400) fun ds Q r h => by
    unfold dsize_go at h
    obtain ⟨n, ds, rfl, h1⟩ := dI_inv h
    obtain ⟨rfl, hE⟩ := dE_inv h1
    exact ⟨[SV.int .i64 n], [], fun vs => by kernel_rfl, (dsize_eq n Q).trans hE⟩
noncomputable def look_dsize {α : Type} : LookF α := addFn 49 (fEnt dsize_sp dsize_c) look_awake
theorem look_dsize_ok {α : Type} : LookOk E.P (look_dsize (α := α)) := addFn_ok dsize_c_ok (look_awake_ok)
noncomputable def _root_.Go.Proofs.Ytkjellhkamfciaa.M.din {α : Type} (n : Int) (lo : Int) (hi : Int) (k0 : Bool → Option α) : Option α :=
  if cLe lo n = true then k0 (cLe n hi) else k0 false
theorem din_eq {α : Type} (n : Int) (lo : Int) (hi : Int) (Q : SV → Hp → Option α) : callI E look_dsize (exec E look_dsize noLps 400) 47 ([SV.int .i64 n, SV.int .i64 lo, SV.int .i64 hi]) ([]) Q = M.din n lo hi (fun (x1 : Bool) => Q (SV.bool x1) ([])) := by kernel_rfl
def din_sp : List AS := [.val (.int .i64 0), .val (.int .i64 0), .val (.int .i64 0)]
noncomputable def din_go {α : Type} (ds : List D) (Q : SV → Hp → Option α) : Option α :=
  dI ds fun n ds => dI ds fun lo ds => dI ds fun hi ds => dE ds (M.din n lo hi (fun (x1 : Bool) => Q (SV.bool x1) ([])))
theorem din_ok {α : Type} : FnOk E.P 47 (fEnt (α := α) din_sp din_go) :=
  fEnt_ok E (look_dsize_ok) (exec_sound E E_ok (look_dsize_ok) (noLps_ok _) 400) fun ds Q r h => by
    unfold din_go at h
    obtain ⟨n, ds, rfl, h1⟩ := dI_inv h
    obtain ⟨lo, ds, rfl, h2⟩ := dI_inv h1
    obtain ⟨hi, ds, rfl, h3⟩ := dI_inv h2
    obtain ⟨rfl, hE⟩ := dE_inv h3
    exact ⟨[SV.int .i64 n, SV.int .i64 lo, SV.int .i64 hi], [], fun vs => by kernel_rfl, (din_eq n lo hi Q).trans hE⟩
theorem din_v {α : Type} (n lo hi : Int) (k0 : Bool → Option α) : M.din n lo hi k0 = k0 (V.shwithin_r0 n lo hi) := by
  unfold M.din V.shwithin_r0
  repeat' first | rfl | split
noncomputable def din_h {α : Type} (ds : List D) (Q : SV → Hp → Option α) : Option α :=
  dI ds fun n ds => dI ds fun lo ds => dI ds fun hi ds => dE ds (Q (.bool (V.shwithin_r0 n lo hi)) ([]))
theorem din_h_ok {α : Type} : FnOk E.P 47 (fEnt (α := α) din_sp din_h) :=
  fEnt_ok E (look_dsize_ok) (exec_sound E E_ok (look_dsize_ok) (noLps_ok _) 400) fun ds Q r h => by
    unfold din_h at h
    obtain ⟨n, ds, rfl, h1⟩ := dI_inv h
    obtain ⟨lo, ds, rfl, h2⟩ := dI_inv h1
    obtain ⟨hi, ds, rfl, h3⟩ := dI_inv h2
    obtain ⟨rfl, hE⟩ := dE_inv h3
    exact ⟨[SV.int .i64 n, SV.int .i64 lo, SV.int .i64 hi], [], fun vs => by kernel_rfl, (din_eq n lo hi Q).trans ((din_v n lo hi _).trans hE)⟩
noncomputable def look_din {α : Type} : LookF α := addFn 47 (fEnt din_sp din_h) look_dsize
theorem look_din_ok {α : Type} : LookOk E.P (look_din (α := α)) := addFn_ok din_h_ok (look_dsize_ok)
noncomputable def _root_.Go.Proofs.Ytkjellhkamfciaa.M.dminus {α : Type} (ax : Int) (ay : Int) (az : Int) (bx : Int) (b_y : Int) (bz : Int) (k0 : Int → Int → Int → Option α) : Option α :=
  k0 (IntKind.wrap .i64 (ax - bx)) (IntKind.wrap .i64 (ay - b_y)) (IntKind.wrap .i64 (az - bz))
theorem dminus_eq {α : Type} (ax : Int) (ay : Int) (az : Int) (bx : Int) (b_y : Int) (bz : Int) (Q : SV → Hp → Option α) : callI E look_din (exec E look_din noLps 400) 59 ([SV.agg [SV.int .i64 ax, SV.int .i64 ay, SV.int .i64 az], SV.agg [SV.int .i64 bx, SV.int .i64 b_y, SV.int .i64 bz]]) ([]) Q = M.dminus ax ay az bx b_y bz (fun (x2 : Int) (x3 : Int) (x4 : Int) => Q (SV.agg [SV.int .i64 x2, SV.int .i64 x3, SV.int .i64 x4]) ([])) := by kernel_rfl
def dminus_sp : List AS := [.val (.agg [.int .i64 0, .int .i64 0, .int .i64 0]), .val (.agg [.int .i64 0, .int .i64 0, .int .i64 0])]
noncomputable def dminus_go {α : Type} (ds : List D) (Q : SV → Hp → Option α) : Option α :=
  dI ds fun ax ds => dI ds fun ay ds => dI ds fun az ds => dI ds fun bx ds => dI ds fun b_y ds => dI ds fun bz ds => dE ds (M.dminus ax ay az bx b_y bz (fun (x2 : Int) (x3 : Int) (x4 : Int) => Q (SV.agg [SV.int .i64 x2, SV.int .i64 x3, SV.int .i64 x4]) ([])))
theorem dminus_ok {α : Type} : FnOk E.P 59 (fEnt (α := α) dminus_sp dminus_go) :=
  fEnt_ok E (look_din_ok) (exec_sound E E_ok (look_din_ok) (noLps_ok _) 400) fun ds Q r h => by
    unfold dminus_go at h
    obtain ⟨ax, ds, rfl, h1⟩ := dI_inv h
    obtain ⟨ay, ds, rfl, h2⟩ := dI_inv h1
    obtain ⟨az, ds, rfl, h3⟩ := dI_inv h2
    obtain ⟨bx, ds, rfl, h4⟩ := dI_inv h3
    obtain ⟨b_y, ds, rfl, h5⟩ := dI_inv h4
    obtain ⟨bz, ds, rfl, h6⟩ := dI_inv h5
    obtain ⟨rfl, hE⟩ := dE_inv h6
    exact ⟨[SV.agg [SV.int .i64 ax, SV.int .i64 ay, SV.int .i64 az], SV.agg [SV.int .i64 bx, SV.int .i64 b_y, SV.int .i64 bz]], [], fun vs => by kernel_rfl, (dminus_eq ax ay az bx b_y bz Q).trans hE⟩
noncomputable def dminus_h {α : Type} (ds : List D) (Q : SV → Hp → Option α) : Option α :=
  dI ds fun ax ds => dI ds fun ay ds => dI ds fun az ds => dI ds fun bx ds => dI ds fun b_y ds => dI ds fun bz ds => dE ds (Q (.agg [.int .i64 (V.pSub (ax, ay, az) (bx, b_y, bz)).1, .int .i64 (V.pSub (ax, ay, az) (bx, b_y, bz)).2.1, .int .i64 (V.pSub (ax, ay, az) (bx, b_y, bz)).2.2]) ([]))
theorem dminus_h_ok {α : Type} : FnOk E.P 59 (fEnt (α := α) dminus_sp dminus_h) :=
  fEnt_ok E (look_din_ok) (exec_sound E E_ok (look_din_ok) (noLps_ok _) 400) fun ds Q r h => by
    unfold dminus_h at h
    obtain ⟨ax, ds, rfl, h1⟩ := dI_inv h
    obtain ⟨ay, ds, rfl, h2⟩ := dI_inv h1
    obtain ⟨az, ds, rfl, h3⟩ := dI_inv h2
    obtain ⟨bx, ds, rfl, h4⟩ := dI_inv h3
    obtain ⟨b_y, ds, rfl, h5⟩ := dI_inv h4
    obtain ⟨bz, ds, rfl, h6⟩ := dI_inv h5
    obtain ⟨rfl, hE⟩ := dE_inv h6
    exact ⟨[SV.agg [SV.int .i64 ax, SV.int .i64 ay, SV.int .i64 az], SV.agg [SV.int .i64 bx, SV.int .i64 b_y, SV.int .i64 bz]], [], fun vs => by kernel_rfl, (dminus_eq ax ay az bx b_y bz Q).trans ((rfl).trans hE)⟩
noncomputable def look_dminus {α : Type} : LookF α := addFn 59 (fEnt dminus_sp dminus_h) look_din
theorem look_dminus_ok {α : Type} : LookOk E.P (look_dminus (α := α)) := addFn_ok dminus_h_ok (look_din_ok)
noncomputable def _root_.Go.Proofs.Ytkjellhkamfciaa.M.dcross {α : Type} (ax : Int) (ay : Int) (az : Int) (bx : Int) (b_y : Int) (bz : Int) (k0 : Int → Int → Int → Option α) : Option α :=
  k0 (IntKind.wrap .i64 (IntKind.wrap .i64 (ay * bz) - IntKind.wrap .i64 (az * b_y))) (IntKind.wrap .i64 (IntKind.wrap .i64 (az * bx) - IntKind.wrap .i64 (ax * bz))) (IntKind.wrap .i64 (IntKind.wrap .i64 (ax * b_y) - IntKind.wrap .i64 (ay * bx)))
theorem dcross_eq {α : Type} (ax : Int) (ay : Int) (az : Int) (bx : Int) (b_y : Int) (bz : Int) (Q : SV → Hp → Option α) : callI E look_dminus (exec E look_dminus noLps 400) 79 ([SV.agg [SV.int .i64 ax, SV.int .i64 ay, SV.int .i64 az], SV.agg [SV.int .i64 bx, SV.int .i64 b_y, SV.int .i64 bz]]) ([]) Q = M.dcross ax ay az bx b_y bz (fun (x5 : Int) (x6 : Int) (x7 : Int) => Q (SV.agg [SV.int .i64 x5, SV.int .i64 x6, SV.int .i64 x7]) ([])) := by kernel_rfl
def dcross_sp : List AS := [.val (.agg [.int .i64 0, .int .i64 0, .int .i64 0]), .val (.agg [.int .i64 0, .int .i64 0, .int .i64 0])]
noncomputable def dcross_go {α : Type} (ds : List D) (Q : SV → Hp → Option α) : Option α :=
  dI ds fun ax ds => dI ds fun ay ds => dI ds fun az ds => dI ds fun bx ds => dI ds fun b_y ds => dI ds fun bz ds => dE ds (M.dcross ax ay az bx b_y bz (fun (x5 : Int) (x6 : Int) (x7 : Int) => Q (SV.agg [SV.int .i64 x5, SV.int .i64 x6, SV.int .i64 x7]) ([])))
theorem dcross_ok {α : Type} : FnOk E.P 79 (fEnt (α := α) dcross_sp dcross_go) :=
  fEnt_ok E (look_dminus_ok) (exec_sound E E_ok (look_dminus_ok) (noLps_ok _) 400) fun ds Q r h => by
    unfold dcross_go at h
    obtain ⟨ax, ds, rfl, h1⟩ := dI_inv h
    obtain ⟨ay, ds, rfl, h2⟩ := dI_inv h1
    obtain ⟨az, ds, rfl, h3⟩ := dI_inv h2
    obtain ⟨bx, ds, rfl, h4⟩ := dI_inv h3
    obtain ⟨b_y, ds, rfl, h5⟩ := dI_inv h4
    obtain ⟨bz, ds, rfl, h6⟩ := dI_inv h5
    obtain ⟨rfl, hE⟩ := dE_inv h6
    exact ⟨[SV.agg [SV.int .i64 ax, SV.int .i64 ay, SV.int .i64 az], SV.agg [SV.int .i64 bx, SV.int .i64 b_y, SV.int .i64 bz]], [], fun vs => by kernel_rfl, (dcross_eq ax ay az bx b_y bz Q).trans hE⟩
noncomputable def dcross_h {α : Type} (ds : List D) (Q : SV → Hp → Option α) : Option α :=
  dI ds fun ax ds => dI ds fun ay ds => dI ds fun az ds => dI ds fun bx ds => dI ds fun b_y ds => dI ds fun bz ds => dE ds (Q (.agg [.int .i64 (V.pCross (ax, ay, az) (bx, b_y, bz)).1, .int .i64 (V.pCross (ax, ay, az) (bx, b_y, bz)).2.1, .int .i64 (V.pCross (ax, ay, az) (bx, b_y, bz)).2.2]) ([]))
theorem dcross_h_ok {α : Type} : FnOk E.P 79 (fEnt (α := α) dcross_sp dcross_h) :=
  fEnt_ok E (look_dminus_ok) (exec_sound E E_ok (look_dminus_ok) (noLps_ok _) 400) fun ds Q r h => by
    unfold dcross_h at h
    obtain ⟨ax, ds, rfl, h1⟩ := dI_inv h
    obtain ⟨ay, ds, rfl, h2⟩ := dI_inv h1
    obtain ⟨az, ds, rfl, h3⟩ := dI_inv h2
    obtain ⟨bx, ds, rfl, h4⟩ := dI_inv h3
    obtain ⟨b_y, ds, rfl, h5⟩ := dI_inv h4
    obtain ⟨bz, ds, rfl, h6⟩ := dI_inv h5
    obtain ⟨rfl, hE⟩ := dE_inv h6
    exact ⟨[SV.agg [SV.int .i64 ax, SV.int .i64 ay, SV.int .i64 az], SV.agg [SV.int .i64 bx, SV.int .i64 b_y, SV.int .i64 bz]], [], fun vs => by kernel_rfl, (dcross_eq ax ay az bx b_y bz Q).trans ((rfl).trans hE)⟩
noncomputable def look_dcross {α : Type} : LookF α := addFn 79 (fEnt dcross_sp dcross_h) look_dminus
theorem look_dcross_ok {α : Type} : LookOk E.P (look_dcross (α := α)) := addFn_ok dcross_h_ok (look_dminus_ok)
noncomputable def _root_.Go.Proofs.Ytkjellhkamfciaa.M.ddot {α : Type} (ax : Int) (ay : Int) (az : Int) (bx : Int) (b_y : Int) (bz : Int) (k0 : Int → Option α) : Option α :=
  k0 (IntKind.wrap .i64 (IntKind.wrap .i64 (IntKind.wrap .i64 (ax * bx) + IntKind.wrap .i64 (ay * b_y)) + IntKind.wrap .i64 (az * bz)))
theorem ddot_eq {α : Type} (ax : Int) (ay : Int) (az : Int) (bx : Int) (b_y : Int) (bz : Int) (Q : SV → Hp → Option α) : callI E look_dcross (exec E look_dcross noLps 400) 58 ([SV.agg [SV.int .i64 ax, SV.int .i64 ay, SV.int .i64 az], SV.agg [SV.int .i64 bx, SV.int .i64 b_y, SV.int .i64 bz]]) ([]) Q = M.ddot ax ay az bx b_y bz (fun (x8 : Int) => Q (SV.int .i64 x8) ([])) := by kernel_rfl
def ddot_sp : List AS := [.val (.agg [.int .i64 0, .int .i64 0, .int .i64 0]), .val (.agg [.int .i64 0, .int .i64 0, .int .i64 0])]
noncomputable def ddot_go {α : Type} (ds : List D) (Q : SV → Hp → Option α) : Option α :=
  dI ds fun ax ds => dI ds fun ay ds => dI ds fun az ds => dI ds fun bx ds => dI ds fun b_y ds => dI ds fun bz ds => dE ds (M.ddot ax ay az bx b_y bz (fun (x8 : Int) => Q (SV.int .i64 x8) ([])))
theorem ddot_ok {α : Type} : FnOk E.P 58 (fEnt (α := α) ddot_sp ddot_go) :=
  fEnt_ok E (look_dcross_ok) (exec_sound E E_ok (look_dcross_ok) (noLps_ok _) 400) fun ds Q r h => by
    unfold ddot_go at h
    obtain ⟨ax, ds, rfl, h1⟩ := dI_inv h
    obtain ⟨ay, ds, rfl, h2⟩ := dI_inv h1
    obtain ⟨az, ds, rfl, h3⟩ := dI_inv h2
    obtain ⟨bx, ds, rfl, h4⟩ := dI_inv h3
    obtain ⟨b_y, ds, rfl, h5⟩ := dI_inv h4
    obtain ⟨bz, ds, rfl, h6⟩ := dI_inv h5
    obtain ⟨rfl, hE⟩ := dE_inv h6
    exact ⟨[SV.agg [SV.int .i64 ax, SV.int .i64 ay, SV.int .i64 az], SV.agg [SV.int .i64 bx, SV.int .i64 b_y, SV.int .i64 bz]], [], fun vs => by kernel_rfl, (ddot_eq ax ay az bx b_y bz Q).trans hE⟩
noncomputable def ddot_h {α : Type} (ds : List D) (Q : SV → Hp → Option α) : Option α :=
  dI ds fun ax ds => dI ds fun ay ds => dI ds fun az ds => dI ds fun bx ds => dI ds fun b_y ds => dI ds fun bz ds => dE ds (Q (.int .i64 (V.pDot (ax, ay, az) (bx, b_y, bz))) ([]))
theorem ddot_h_ok {α : Type} : FnOk E.P 58 (fEnt (α := α) ddot_sp ddot_h) :=
  fEnt_ok E (look_dcross_ok) (exec_sound E E_ok (look_dcross_ok) (noLps_ok _) 400) fun ds Q r h => by
    unfold ddot_h at h
    obtain ⟨ax, ds, rfl, h1⟩ := dI_inv h
    obtain ⟨ay, ds, rfl, h2⟩ := dI_inv h1
    obtain ⟨az, ds, rfl, h3⟩ := dI_inv h2
    obtain ⟨bx, ds, rfl, h4⟩ := dI_inv h3
    obtain ⟨b_y, ds, rfl, h5⟩ := dI_inv h4
    obtain ⟨bz, ds, rfl, h6⟩ := dI_inv h5
    obtain ⟨rfl, hE⟩ := dE_inv h6
    exact ⟨[SV.agg [SV.int .i64 ax, SV.int .i64 ay, SV.int .i64 az], SV.agg [SV.int .i64 bx, SV.int .i64 b_y, SV.int .i64 bz]], [], fun vs => by kernel_rfl, (ddot_eq ax ay az bx b_y bz Q).trans ((rfl).trans hE)⟩
noncomputable def look_ddot {α : Type} : LookF α := addFn 58 (fEnt ddot_sp ddot_h) look_dcross
theorem look_ddot_ok {α : Type} : LookOk E.P (look_ddot (α := α)) := addFn_ok ddot_h_ok (look_dcross_ok)
noncomputable abbrev dbare_S1 (y1 y2 y3 y4 y5 y6 y7 y8 y9 : Int) (y10 : List Int) : St := St.mk (none :: some (SV.ptr (nat_lit 0) (nat_lit 0)) :: some (SV.ptr (nat_lit 1) (nat_lit 0)) :: none :: some (SV.sl (nat_lit 2)) :: some (SV.int .i64 y1) :: some (SV.int .i64 y2) :: some (SV.int .i64 y3) :: nn 44 ([])) [.cells [SV.int .i64 y4, SV.int .i64 y5, SV.int .i64 y6] (nat_lit 23), .cells [SV.int .i64 y7, SV.int .i64 y8, SV.int .i64 y9] (nat_lit 23), .seq (K.int IntKind.i64) y10 (nat_lit 3)]
noncomputable abbrev dbare_S2 (y1 y2 y3 y4 y5 y6 y7 y8 : Int) (y9 : List Int) : St := St.mk (none :: some (SV.ptr (nat_lit 0) (nat_lit 0)) :: some (SV.ptr (nat_lit 1) (nat_lit 0)) :: none :: some (SV.sl (nat_lit 2)) :: some (SV.int .i64 y1) :: some (SV.int .i64 y2) :: nn 45 ([])) [.cells [SV.int .i64 y3, SV.int .i64 y4, SV.int .i64 y5] (nat_lit 23), .cells [SV.int .i64 y6, SV.int .i64 y7, SV.int .i64 y8] (nat_lit 23), .seq (K.int IntKind.i64) y9 (nat_lit 3)]
noncomputable abbrev dbare_S3 : St := St.mk (none :: some (SV.ptr (nat_lit 0) (nat_lit 0)) :: some (SV.ptr (nat_lit 1) (nat_lit 0)) :: none :: some (SV.sl (nat_lit 2)) :: some (SV.int .i64 (0 : Int)) :: some (SV.int .i64 (0 : Int)) :: some (SV.int .i64 (0 : Int)) :: nn 44 ([])) [.cells [SV.int .i64 (0 : Int), SV.int .i64 (0 : Int), SV.int .i64 (0 : Int)] (nat_lit 23), .cells [SV.int .i64 (0 : Int), SV.int .i64 (0 : Int), SV.int .i64 (0 : Int)] (nat_lit 23), .seq (K.int IntKind.i64) [] (nat_lit 3)]
noncomputable abbrev dbare_S4 (y1 y2 y3 y4 y5 y6 y7 y8 : Int) (y9 : List Int) : St := St.mk (none :: some (SV.ptr (nat_lit 0) (nat_lit 0)) :: some (SV.ptr (nat_lit 1) (nat_lit 0)) :: some (SV.int .i64 y1) :: some (SV.sl (nat_lit 2)) :: some (SV.int .i64 y2) :: nn 46 ([])) [.cells [SV.int .i64 y3, SV.int .i64 y4, SV.int .i64 y5] (nat_lit 23), .cells [SV.int .i64 y6, SV.int .i64 y7, SV.int .i64 y8] (nat_lit 23), .seq (K.int IntKind.i64) y9 (nat_lit 3)]
noncomputable abbrev dbare_S5 (y1 y2 y3 y4 y5 y6 y7 : Int) : St := St.mk (none :: some (SV.ptr (nat_lit 0) (nat_lit 0)) :: some (SV.ptr (nat_lit 1) (nat_lit 0)) :: some (SV.int .i64 y1) :: nn 48 ([])) [.cells [SV.int .i64 y2, SV.int .i64 y3, SV.int .i64 y4] (nat_lit 23), .cells [SV.int .i64 y5, SV.int .i64 y6, SV.int .i64 y7] (nat_lit 23)]
noncomputable abbrev dbare_S6 : St := St.mk (none :: some (SV.ptr (nat_lit 0) (nat_lit 0)) :: some (SV.ptr (nat_lit 1) (nat_lit 0)) :: some (SV.int .i64 (0 : Int)) :: some (SV.sl (nat_lit 2)) :: some (SV.int .i64 (0 : Int)) :: nn 46 ([])) [.cells [SV.int .i64 (0 : Int), SV.int .i64 (0 : Int), SV.int .i64 (0 : Int)] (nat_lit 23), .cells [SV.int .i64 (0 : Int), SV.int .i64 (0 : Int), SV.int .i64 (0 : Int)] (nat_lit 23), .seq (K.int IntKind.i64) [] (nat_lit 3)]
abbrev dbare_P1 : List Bool := [false, false, true, true, false, false, true, false, false, true, false, true, true, true]
abbrev dbare_P2 : List Bool := [false, true, false, true, true, true]
noncomputable def _root_.Go.Proofs.Ytkjellhkamfciaa.M.dbare_l0_step {α : Type} (kn : Int → Int → Option α) (k1 : Int → Option α) (x38 : Int) (x39 : Int) : Option α :=
  if (!cEq x39 (0 : Int)) = true then if x39 = (0 : Int) then none else kn x39 (Int.tmod x38 x39) else k1 x38
noncomputable def _root_.Go.Proofs.Ytkjellhkamfciaa.M.dbare_l0 {α : Type} (k1 : Int → Option α) : Nat → Int → Int → Option α
  | 0, _, _ => none
  | n + 1, x38, x39 => M.dbare_l0_step (M.dbare_l0 k1 n) k1 x38 x39
theorem dbare_l0_step_eq {α : Type} (x37 : Int) (x38 : Int) (x39 : Int) (x40 : Int) (x41 : Int) (x42 : Int) (x43 : Int) (x44 : Int) (x45 : Int) (x46 : List Int) (Q : Ex → St → Option α) : (loopStep E (exec E look_ddot noLps 400) 48 dbare_P1 0 (codeAt E.P 48 dbare_P1)) (dbare_S1 x37 x38 x39 x40 x41 x42 x43 x44 x45 x46) Q = M.dbare_l0_step (fun (x48 : Int) (x49 : Int) => Q .normal (dbare_S1 x37 x48 x49 x40 x41 x42 x43 x44 x45 x46)) (fun (x47 : Int) => Q (.exit 2) (dbare_S2 x37 x47 x40 x41 x42 x43 x44 x45 x46)) x38 x39 := by kernel_rfl
theorem dbare_l0_iter {α : Type} (x37 : Int) (x40 : Int) (x41 : Int) (x42 : Int) (x43 : Int) (x44 : Int) (x45 : Int) (x46 : List Int) (Q : Ex → St → Option α) : ∀ (n : Nat) (x38 : Int) (x39 : Int), iter (loopStep E (exec E look_ddot noLps 400) 48 dbare_P1 0 (codeAt E.P 48 dbare_P1)) n (dbare_S1 x37 x38 x39 x40 x41 x42 x43 x44 x45 x46) Q = M.dbare_l0 (fun (x47 : Int) => Q (.exit 2) (dbare_S2 x37 x47 x40 x41 x42 x43 x44 x45 x46)) n x38 x39
  | 0, _, _ => rfl
  | n + 1, x38, x39 => (dbare_l0_step_eq x37 x38 x39 x40 x41 x42 x43 x44 x45 x46 (iterK (loopStep E (exec E look_ddot noLps 400) 48 dbare_P1 0 (codeAt E.P 48 dbare_P1)) n Q)).trans (congrArg (fun kn => M.dbare_l0_step kn (fun (x47 : Int) => Q (.exit 2) (dbare_S2 x37 x47 x40 x41 x42 x43 x44 x45 x46)) x38 x39) (funext fun x38 => funext fun x39 => dbare_l0_iter x37 x40 x41 x42 x43 x44 x45 x46 Q n x38 x39))
noncomputable def dbare_l0_go {α : Type} (ds : List D) (Q : Ex → St → Option α) : Option α :=
  dI ds fun x37 ds => dI ds fun x38 ds => dI ds fun x39 ds => dI ds fun x40 ds => dI ds fun x41 ds => dI ds fun x42 ds => dI ds fun x43 ds => dI ds fun x44 ds => dI ds fun x45 ds => dL (K.int IntKind.i64) ds fun x46 ds => dE ds (M.dbare_l0 (fun (x47 : Int) => Q (.exit 2) (dbare_S2 x37 x47 x40 x41 x42 x43 x44 x45 x46)) (100 + x46.length) x38 x39)
theorem dbare_l0_ok {α : Type} : LoopOk E.P 48 dbare_P1 0 (lEnt (α := α) (dbare_S3) dbare_l0_go) :=
  lEnt_ok E (exec_sound E E_ok (look_ddot_ok) (noLps_ok _) 400) fun ds Q r h S hS => by
    unfold dbare_l0_go at h
    obtain ⟨x37, ds, rfl, h1⟩ := dI_inv h
    obtain ⟨x38, ds, rfl, h2⟩ := dI_inv h1
    obtain ⟨x39, ds, rfl, h3⟩ := dI_inv h2
    obtain ⟨x40, ds, rfl, h4⟩ := dI_inv h3
    obtain ⟨x41, ds, rfl, h5⟩ := dI_inv h4
    obtain ⟨x42, ds, rfl, h6⟩ := dI_inv h5
    obtain ⟨x43, ds, rfl, h7⟩ := dI_inv h6
    obtain ⟨x44, ds, rfl, h8⟩ := dI_inv h7
    obtain ⟨x45, ds, rfl, h9⟩ := dI_inv h8
    obtain ⟨x46, ds, rfl, h10⟩ := dL_inv h9
    obtain ⟨rfl, hE⟩ := dE_inv h10
    have e : fillS (dbare_S3) [.i x37, .i x38, .i x39, .i x40, .i x41, .i x42, .i x43, .i x44, .i x45, .l (K.int IntKind.i64) x46] = some (dbare_S1 x37 x38 x39 x40 x41 x42 x43 x44 x45 x46) := by kernel_rfl
    rw [e] at hS
    cases hS
    exact ⟨_, (dbare_l0_iter x37 x40 x41 x42 x43 x44 x45 x46 Q _ x38 x39).trans hE⟩
noncomputable def dbare_l0_lps {α : Type} : LookL α := addLp 48 dbare_P1 0 (lEnt (dbare_S3) dbare_l0_go) noLps
theorem dbare_l0_lps_ok {α : Type} : LoopsOk E.P (dbare_l0_lps (α := α)) := addLp_ok dbare_l0_ok (noLps_ok _)

noncomputable def _root_.Go.Proofs.Ytkjellhkamfciaa.M.dbare_l1_step {α : Type} (x58 : List Int) (kn : Int → Int → Option α) (k1 : Int → Option α) (x50 : Int) (x51 : Int) : Option α :=
  if cLt x51 (3 : Int) = true then if (0 : Int) ≤ x51 ∧ x51 < (↑(List.length x58) : Int) then M.dbare_l0 (fun (x59 : Int) ↦ kn x59 (IntKind.wrap .i64 (x51 + (1 : Int)))) ((100 : Nat) + List.length x58) x50 (List.getD x58 (Int.toNat x51) (0 : Int)) else none else k1 x50
noncomputable def _root_.Go.Proofs.Ytkjellhkamfciaa.M.dbare_l1 {α : Type} (x58 : List Int) (k1 : Int → Option α) : Nat → Int → Int → Option α
  | 0, _, _ => none
  | n + 1, x50, x51 => M.dbare_l1_step x58 (M.dbare_l1 x58 k1 n) k1 x50 x51
theorem dbare_l1_step_eq {α : Type} (x50 : Int) (x51 : Int) (x52 : Int) (x53 : Int) (x54 : Int) (x55 : Int) (x56 : Int) (x57 : Int) (x58 : List Int) (Q : Ex → St → Option α) : (loopStep E (exec E look_ddot dbare_l0_lps 400) 48 dbare_P2 0 (codeAt E.P 48 dbare_P2)) (dbare_S4 x50 x51 x52 x53 x54 x55 x56 x57 x58) Q = M.dbare_l1_step x58 (fun (x61 : Int) (x62 : Int) => Q .normal (dbare_S4 x61 x62 x52 x53 x54 x55 x56 x57 x58)) (fun (x60 : Int) => Q (.exit 0) (dbare_S5 x60 x52 x53 x54 x55 x56 x57)) x50 x51 := by kernel_rfl
theorem dbare_l1_iter {α : Type} (x52 : Int) (x53 : Int) (x54 : Int) (x55 : Int) (x56 : Int) (x57 : Int) (x58 : List Int) (Q : Ex → St → Option α) : ∀ (n : Nat) (x50 : Int) (x51 : Int), iter (loopStep E (exec E look_ddot dbare_l0_lps 400) 48 dbare_P2 0 (codeAt E.P 48 dbare_P2)) n (dbare_S4 x50 x51 x52 x53 x54 x55 x56 x57 x58) Q = M.dbare_l1 x58 (fun (x60 : Int) => Q (.exit 0) (dbare_S5 x60 x52 x53 x54 x55 x56 x57)) n x50 x51
  | 0, _, _ => rfl
  | n + 1, x50, x51 => (dbare_l1_step_eq x50 x51 x52 x53 x54 x55 x56 x57 x58 (iterK (loopStep E (exec E look_ddot dbare_l0_lps 400) 48 dbare_P2 0 (codeAt E.P 48 dbare_P2)) n Q)).trans (congrArg (fun kn => M.dbare_l1_step x58 kn (fun (x60 : Int) => Q (.exit 0) (dbare_S5 x60 x52 x53 x54 x55 x56 x57)) x50 x51) (funext fun x50 => funext fun x51 => dbare_l1_iter x52 x53 x54 x55 x56 x57 x58 Q n x50 x51))
noncomputable def dbare_l1_go {α : Type} (ds : List D) (Q : Ex → St → Option α) : Option α :=
  dI ds fun x50 ds => dI ds fun x51 ds => dI ds fun x52 ds => dI ds fun x53 ds => dI ds fun x54 ds => dI ds fun x55 ds => dI ds fun x56 ds => dI ds fun x57 ds => dL (K.int IntKind.i64) ds fun x58 ds => dE ds (M.dbare_l1 x58 (fun (x60 : Int) => Q (.exit 0) (dbare_S5 x60 x52 x53 x54 x55 x56 x57)) (100 + x58.length) x50 x51)
theorem dbare_l1_ok {α : Type} : LoopOk E.P 48 dbare_P2 0 (lEnt (α := α) (dbare_S6) dbare_l1_go) :=
  lEnt_ok E (exec_sound E E_ok (look_ddot_ok) (dbare_l0_lps_ok) 400) fun ds Q r h S hS => by
    unfold dbare_l1_go at h
    obtain ⟨x50, ds, rfl, h1⟩ := dI_inv h
    obtain ⟨x51, ds, rfl, h2⟩ := dI_inv h1
    obtain ⟨x52, ds, rfl, h3⟩ := dI_inv h2
    obtain ⟨x53, ds, rfl, h4⟩ := dI_inv h3
    obtain ⟨x54, ds, rfl, h5⟩ := dI_inv h4
    obtain ⟨x55, ds, rfl, h6⟩ := dI_inv h5
    obtain ⟨x56, ds, rfl, h7⟩ := dI_inv h6
    obtain ⟨x57, ds, rfl, h8⟩ := dI_inv h7
    obtain ⟨x58, ds, rfl, h9⟩ := dL_inv h8
    obtain ⟨rfl, hE⟩ := dE_inv h9
    have e : fillS (dbare_S6) [.i x50, .i x51, .i x52, .i x53, .i x54, .i x55, .i x56, .i x57, .l (K.int IntKind.i64) x58] = some (dbare_S4 x50 x51 x52 x53 x54 x55 x56 x57 x58) := by kernel_rfl
    rw [e] at hS
    cases hS
    exact ⟨_, (dbare_l1_iter x52 x53 x54 x55 x56 x57 x58 Q _ x50 x51).trans hE⟩
noncomputable def dbare_l1_lps {α : Type} : LookL α := addLp 48 dbare_P2 0 (lEnt (dbare_S6) dbare_l1_go) dbare_l0_lps
theorem dbare_l1_lps_ok {α : Type} : LoopsOk E.P (dbare_l1_lps (α := α)) := addLp_ok dbare_l1_ok (dbare_l0_lps_ok)

noncomputable def _root_.Go.Proofs.Ytkjellhkamfciaa.M.dbare {α : Type} (ax : Int) (ay : Int) (az : Int) (k0 : Int → Int → Int → Option α) : Option α :=
  M.dbare_l1 [V.dsize_r0 ax, V.dsize_r0 ay, V.dsize_r0 az] (fun (x63 : Int) ↦ if cEq x63 (0 : Int) = true then k0 ax ay az else if x63 = (0 : Int) then none else if x63 = (0 : Int) then none else if x63 = (0 : Int) then none else k0 (IntKind.wrap .i64 (Int.tdiv ax x63)) (IntKind.wrap .i64 (Int.tdiv ay x63)) (IntKind.wrap .i64 (Int.tdiv az x63))) ((100 : Nat) + ((2 : Nat) + (1 : Nat))) (0 : Int) (0 : Int)
theorem dbare_eq {α : Type} (ax : Int) (ay : Int) (az : Int) (Q : SV → Hp → Option α) : callI E look_ddot (exec E look_ddot dbare_l1_lps 400) 48 ([SV.agg [SV.int .i64 ax, SV.int .i64 ay, SV.int .i64 az]]) ([]) Q = M.dbare ax ay az (fun (x64 : Int) (x65 : Int) (x66 : Int) => Q (SV.agg [SV.int .i64 x64, SV.int .i64 x65, SV.int .i64 x66]) ([])) := by kernel_rfl
def dbare_sp : List AS := [.val (.agg [.int .i64 0, .int .i64 0, .int .i64 0])]
noncomputable def dbare_go {α : Type} (ds : List D) (Q : SV → Hp → Option α) : Option α :=
  dI ds fun ax ds => dI ds fun ay ds => dI ds fun az ds => dE ds (M.dbare ax ay az (fun (x64 : Int) (x65 : Int) (x66 : Int) => Q (SV.agg [SV.int .i64 x64, SV.int .i64 x65, SV.int .i64 x66]) ([])))
theorem dbare_ok {α : Type} : FnOk E.P 48 (fEnt (α := α) dbare_sp dbare_go) :=
  fEnt_ok E (look_ddot_ok) (exec_sound E E_ok (look_ddot_ok) (dbare_l1_lps_ok) 400) fun ds Q r h => by
    unfold dbare_go at h
    obtain ⟨ax, ds, rfl, h1⟩ := dI_inv h
    obtain ⟨ay, ds, rfl, h2⟩ := dI_inv h1
    obtain ⟨az, ds, rfl, h3⟩ := dI_inv h2
    obtain ⟨rfl, hE⟩ := dE_inv h3
    exact ⟨[SV.agg [SV.int .i64 ax, SV.int .i64 ay, SV.int .i64 az]], [], fun vs => by kernel_rfl, (dbare_eq ax ay az Q).trans hE⟩
theorem dgcd_val {α : Type} (k1 : Int → Option α) : ∀ (k f a b : Nat), b < 2 ^ k → 2 * k + 1 ≤ f → M.dbare_l0 k1 f (a : Int) (b : Int) = k1 ((Nat.gcd a b : Nat) : Int) := by
  intro k
  induction k with
  | zero =>
    intro f a b hb hf
    obtain ⟨f, rfl⟩ : ∃ g, f = g + 1 := ⟨f - 1, by omega⟩
    have h0 : b = 0 := by simp at hb; exact hb
    subst h0
    simp [M.dbare_l0, M.dbare_l0_step, cEq_eq]
  | succ k ih =>
    intro f a b hb hf
    obtain ⟨f, rfl⟩ : ∃ g, f = g + 2 := ⟨f - 2, by omega⟩
    by_cases h0 : b = 0
    · subst h0
      simp [M.dbare_l0, M.dbare_l0_step, cEq_eq]
    · have hbi : (b : Int) ≠ 0 := by omega
      have t1 : Int.tmod (a : Int) (b : Int) = ((a % b : Nat) : Int) := rfl
      by_cases h1 : a % b = 0
      · have e : Nat.gcd a b = b := by rw [Nat.gcd_comm, Nat.gcd_rec, h1, Nat.gcd_zero_left]
        simp [M.dbare_l0, M.dbare_l0_step, cEq_eq, hbi, t1, h1, e, h0]
      · have h1i : ((a % b : Nat) : Int) ≠ 0 := by omega
        have t2 : Int.tmod (b : Int) ((a % b : Nat) : Int) = ((b % (a % b) : Nat) : Int) := rfl
        have hh := mod_half (Nat.pos_of_ne_zero h1) (Nat.mod_lt a (Nat.pos_of_ne_zero h0))
        have e : Nat.gcd (a % b) (b % (a % b)) = Nat.gcd a b := by rw [Nat.gcd_comm (a % b), ← Nat.gcd_rec, ← Nat.gcd_rec, Nat.gcd_comm]
        have hi := ih f (a % b) (b % (a % b)) (by rw [Nat.pow_succ] at hb; omega) (by omega)
        rw [e] at hi
        rw [← hi]
        show M.dbare_l0_step _ k1 _ _ = _
        unfold M.dbare_l0_step
        rw [cEq_eq, if_pos (by simpa using h0), if_neg hbi, t1]
        show M.dbare_l0_step _ k1 _ _ = _
        unfold M.dbare_l0_step
        rw [cEq_eq, if_pos (by simp only [Bool.not_eq_true', beq_eq_false_iff_ne, ne_eq]; exact h1i), if_neg h1i, t2]
theorem dsz_abs {n : Int} (h : -9223372036854775807 ≤ n ∧ n ≤ 9223372036854775807) : V.dsize_r0 n = (n.natAbs : Int) := by
  unfold V.dsize_r0
  rw [cLt_eq, IntWalk.i64_in _ (by omega)]
  by_cases hn : n < 0
  · rw [if_pos (by simpa using hn)]; omega
  · rw [if_neg (by simpa using hn)]; omega
noncomputable def _root_.Go.Proofs.Ytkjellhkamfciaa.V.brB (p : P3) : Bool := hid (!bigP p 4398046511104)
noncomputable def _root_.Go.Proofs.Ytkjellhkamfciaa.V.pBare (p : P3) : P3 := hid (bareP p)
theorem brB_iff {p : P3} : V.brB p = true ↔ bigP p 4398046511104 = false := by unfold V.brB; rw [hid_eq]; simp
theorem dbare_v {α : Type} (ax ay az : Int) (hg : V.brB (ax, ay, az) = true) (k0 : Int → Int → Int → Option α) : M.dbare ax ay az k0 = k0 (V.pBare (ax, ay, az)).1 (V.pBare (ax, ay, az)).2.1 (V.pBare (ax, ay, az)).2.2 := by
  have hb := brB_iff.1 hg
  obtain ⟨h1, h2, h3⟩ := bigP_false hb
  simp only at h1 h2 h3
  unfold M.dbare V.pBare
  rw [hid_eq, dsz_abs (by omega), dsz_abs (by omega), dsz_abs (by omega)]
  have w0 : IntKind.wrap .i64 (0 + 1) = 1 := by decide
  have w1 : IntKind.wrap .i64 (1 + 1) = 2 := by decide
  have w2 : IntKind.wrap .i64 (2 + 1) = 3 := by decide
  have l0 : cLt (0 : Int) 3 = true := by rw [cLt_eq]; decide
  have l1 : cLt (1 : Int) 3 = true := by rw [cLt_eq]; decide
  have l2 : cLt (2 : Int) 3 = true := by rw [cLt_eq]; decide
  have l3 : ¬ cLt (3 : Int) 3 = true := by rw [cLt_eq]; decide
  have c0 : (0 : Int) ≤ 0 ∧ (0 : Int) < ((List.length [(ax.natAbs : Int), (ay.natAbs : Int), (az.natAbs : Int)] : Nat) : Int) := by simp
  have c1 : (0 : Int) ≤ 1 ∧ (1 : Int) < ((List.length [(ax.natAbs : Int), (ay.natAbs : Int), (az.natAbs : Int)] : Nat) : Int) := by simp
  have c2 : (0 : Int) ≤ 2 ∧ (2 : Int) < ((List.length [(ax.natAbs : Int), (ay.natAbs : Int), (az.natAbs : Int)] : Nat) : Int) := by simp
  rw [show (100 : Nat) + (2 + 1) = 99 + 4 from rfl]
  unfold M.dbare_l1 M.dbare_l1_step
  rw [if_pos l0, if_pos c0]
  refine Eq.trans (dgcd_val _ 49 _ 0 ax.natAbs (by omega) (by simp)) ?_
  rw [w0]
  unfold M.dbare_l1 M.dbare_l1_step
  rw [if_pos l1, if_pos c1]
  refine Eq.trans (dgcd_val _ 49 _ _ ay.natAbs (by omega) (by simp)) ?_
  rw [w1]
  unfold M.dbare_l1 M.dbare_l1_step
  rw [if_pos l2, if_pos c2]
  refine Eq.trans (dgcd_val _ 49 _ _ az.natAbs (by omega) (by simp)) ?_
  rw [w2]
  unfold M.dbare_l1 M.dbare_l1_step
  have hgd : Nat.gcd (Nat.gcd ax.natAbs ay.natAbs) az.natAbs = gcd3 (ax, ay, az) := rfl
  rw [if_neg l3, Nat.gcd_zero_left, hgd]
  show (if cEq ((gcd3 (ax, ay, az) : Nat) : Int) 0 = true then k0 ax ay az else if ((gcd3 (ax, ay, az) : Nat) : Int) = 0 then none else if ((gcd3 (ax, ay, az) : Nat) : Int) = 0 then none else if ((gcd3 (ax, ay, az) : Nat) : Int) = 0 then none else k0 (IntKind.wrap .i64 (Int.tdiv ax (gcd3 (ax, ay, az)))) (IntKind.wrap .i64 (Int.tdiv ay (gcd3 (ax, ay, az)))) (IntKind.wrap .i64 (Int.tdiv az (gcd3 (ax, ay, az))))) = _
  by_cases h0 : (ax, ay, az) = ((0, 0, 0) : P3)
  · cases h0
    rw [if_pos (by rw [cEq_eq]; decide)]
    rfl
  · have hp := gcd3_pos h0
    have hq : (gcd3 (ax, ay, az) : Int) ≠ 0 := by omega
    rw [if_neg (by rw [cEq_eq]; simpa using hq)]
    have hd := bigP_false (bigP_div (gcd3 (ax, ay, az)) hb)
    simp only [divP] at hd
    rw [if_neg hq, if_neg hq, if_neg hq]
    rw [IntWalk.i64_in _ (by omega), IntWalk.i64_in _ (by omega), IntWalk.i64_in _ (by omega)]
    rfl
noncomputable def dbare_h {α : Type} (ds : List D) (Q : SV → Hp → Option α) : Option α :=
  dI ds fun ax ds => dI ds fun ay ds => dI ds fun az ds => dE ds (if V.brB (ax, ay, az) = true then Q (.agg [.int .i64 (V.pBare (ax, ay, az)).1, .int .i64 (V.pBare (ax, ay, az)).2.1, .int .i64 (V.pBare (ax, ay, az)).2.2]) ([]) else none)
theorem dbare_h_ok {α : Type} : FnOk E.P 48 (fEnt (α := α) dbare_sp dbare_h) :=
  fEnt_ok E (look_ddot_ok) (exec_sound E E_ok (look_ddot_ok) (dbare_l1_lps_ok) 400) fun ds Q r h => by
    unfold dbare_h at h
    obtain ⟨ax, ds, rfl, h1⟩ := dI_inv h
    obtain ⟨ay, ds, rfl, h2⟩ := dI_inv h1
    obtain ⟨az, ds, rfl, h3⟩ := dI_inv h2
    obtain ⟨rfl, hE⟩ := dE_inv h3
    split at hE
    · rename_i hg
      exact ⟨[SV.agg [SV.int .i64 ax, SV.int .i64 ay, SV.int .i64 az]], [], fun vs => by kernel_rfl, (dbare_eq ax ay az Q).trans ((dbare_v ax ay az hg _).trans hE)⟩
    · cases hE
noncomputable def look_dbare {α : Type} : LookF α := addFn 48 (fEnt dbare_sp dbare_h) look_ddot
theorem look_dbare_ok {α : Type} : LookOk E.P (look_dbare (α := α)) := addFn_ok dbare_h_ok (look_ddot_ok)
end Go.Proofs.Ytkjellhkamfciaa.Sx
end
