/- shape: points that are apart; points of one plane. -/
import Derived.Test.YtkjellhkamfciaaShC
namespace Go.Proofs.Ytkjellhkamfciaa.Sx
open Go
set_option maxRecDepth 20000
set_option linter.unusedVariables false
set_option linter.unusedSimpArgs false
/-! Plain words. -/
def apF : List P3 → List P3 → Bool
  | _, [] => true
  | pre, p :: l => !bigP p 65536 && !decide (p ∈ pre) && apF (pre ++ [p]) l
theorem apF_eq : ∀ (l pre : List P3), apF pre l = decide ((∀ p ∈ l, bigP p 65536 = false) ∧ l.Nodup ∧ ∀ p ∈ l, p ∉ pre)
  | [], pre => by simp [apF]
  | p :: l, pre => by
    unfold apF
    rw [apF_eq l, Bool.eq_iff_iff]
    simp only [Bool.and_eq_true, Bool.not_eq_true', decide_eq_false_iff_not, decide_eq_true_eq, List.mem_cons, forall_eq_or_imp, List.nodup_cons, List.mem_append, List.mem_singleton, not_or]
    constructor
    · rintro ⟨⟨h1, h2⟩, h3, h4, h5⟩
      exact ⟨⟨h1, h3⟩, ⟨fun hp => (h5 p hp).2.1 rfl, h4⟩, h2, fun q hq => (h5 q hq).1⟩
    · rintro ⟨⟨h1, h2⟩, ⟨h3, h4⟩, h5, h6⟩
      exact ⟨⟨h1, h5⟩, h2, h4, fun q hq => ⟨h6 q hq, (fun e => h3 (e ▸ hq)), by simp⟩⟩
def sub3 (a b : P3) : P3 := (a.1 - b.1, a.2.1 - b.2.1, a.2.2 - b.2.2)
def cr3 (a b : P3) : P3 := (a.2.1 * b.2.2 - a.2.2 * b.2.1, a.2.2 * b.1 - a.1 * b.2.2, a.1 * b.2.1 - a.2.1 * b.1)
def dt3 (a b : P3) : Int := a.1 * b.1 + a.2.1 * b.2.1 + a.2.2 * b.2.2
def det (a b c d : P3) : Int := dt3 (cr3 (sub3 b a) (sub3 c a)) (sub3 d a)
def Copl (l : List P3) : Prop := ∀ a ∈ l, ∀ b ∈ l, ∀ c ∈ l, ∀ d ∈ l, det a b c d = 0
noncomputable def _root_.Go.Proofs.Ytkjellhkamfciaa.V.flatP (l : List P3) : Bool := open Classical in hid (decide (Copl l))
theorem flatP_iff (l : List P3) : V.flatP l = true ↔ Copl l := by unfold V.flatP; rw [hid_eq]; simp
/-- parts at most so great -/
def Sm (p : P3) (n : Int) : Prop := (-n ≤ p.1 ∧ p.1 ≤ n) ∧ (-n ≤ p.2.1 ∧ p.2.1 ≤ n) ∧ (-n ≤ p.2.2 ∧ p.2.2 ≤ n)
theorem sub_sm {a b : P3} (ha : Sm a 65536) (hb : Sm b 65536) : V.pSub a b = sub3 a b ∧ Sm (sub3 a b) 131072 := by
  unfold V.pSub sub3 Sm at *
  simp only
  rw [IntWalk.i64_in _ (by omega), IntWalk.i64_in _ (by omega), IntWalk.i64_in _ (by omega)]
  exact ⟨rfl, by omega⟩
theorem mul_sm {x y n m : Int} (hx : -n ≤ x ∧ x ≤ n) (hy : -m ≤ y ∧ y ≤ m) : -(n * m) ≤ x * y ∧ x * y ≤ n * m := by
  have h : (x * y).natAbs ≤ (n * m).natAbs := by
    rw [Int.natAbs_mul, Int.natAbs_mul]; exact Nat.mul_le_mul (by omega) (by omega)
  have : 0 ≤ n * m := Int.mul_nonneg (by omega) (by omega)
  omega
theorem cr_sm {a b : P3} (ha : Sm a 131072) (hb : Sm b 131072) : V.pCross a b = cr3 a b ∧ Sm (cr3 a b) 34359738368 := by
  obtain ⟨a1, a2, a3⟩ := ha
  obtain ⟨b1, b2, b3⟩ := hb
  have h1 := mul_sm a2 b3
  have h2 := mul_sm a3 b2
  have h3 := mul_sm a3 b1
  have h4 := mul_sm a1 b3
  have h5 := mul_sm a1 b2
  have h6 := mul_sm a2 b1
  unfold V.pCross cr3 Sm
  simp only
  generalize a.2.1 * b.2.2 = p1 at *
  generalize a.2.2 * b.2.1 = p2 at *
  generalize a.2.2 * b.1 = p3 at *
  generalize a.1 * b.2.2 = p4 at *
  generalize a.1 * b.2.1 = p5 at *
  generalize a.2.1 * b.1 = p6 at *
  rw [IntWalk.i64_in p1 (by omega), IntWalk.i64_in p2 (by omega), IntWalk.i64_in p3 (by omega), IntWalk.i64_in p4 (by omega), IntWalk.i64_in p5 (by omega), IntWalk.i64_in p6 (by omega)]
  rw [IntWalk.i64_in _ (by omega), IntWalk.i64_in _ (by omega), IntWalk.i64_in _ (by omega)]
  exact ⟨rfl, by omega⟩
theorem dt_sm {a b : P3} (ha : Sm a 34359738368) (hb : Sm b 131072) : V.pDot a b = dt3 a b := by
  obtain ⟨a1, a2, a3⟩ := ha
  obtain ⟨b1, b2, b3⟩ := hb
  have h1 := mul_sm a1 b1
  have h2 := mul_sm a2 b2
  have h3 := mul_sm a3 b3
  unfold V.pDot dt3
  generalize a.1 * b.1 = p1 at *
  generalize a.2.1 * b.2.1 = p2 at *
  generalize a.2.2 * b.2.2 = p3 at *
  rw [IntWalk.i64_in p1 (by omega), IntWalk.i64_in p2 (by omega), IntWalk.i64_in p3 (by omega)]
  rw [IntWalk.i64_in (p1 + p2) (by omega), IntWalk.i64_in _ (by omega)]
theorem zero3 {p : P3} : p = (0, 0, 0) ↔ p.1 = 0 ∧ p.2.1 = 0 ∧ p.2.2 = 0 := by
  obtain ⟨x, y, z⟩ := p; simp
/-- Three ways across one that isn't noughts lie in a plane. -/
theorem det_perp {n u v w : P3} (hn : n ≠ (0, 0, 0)) (hu : dt3 n u = 0) (hv : dt3 n v = 0) (hw : dt3 n w = 0) : dt3 (cr3 u v) w = 0 := by
  unfold dt3 cr3 at *
  simp only at *
  have e1 : (dt3 (cr3 u v) w) * n.1 = 0 := by unfold dt3 cr3; grind
  have e2 : (dt3 (cr3 u v) w) * n.2.1 = 0 := by unfold dt3 cr3; grind
  have e3 : (dt3 (cr3 u v) w) * n.2.2 = 0 := by unfold dt3 cr3; grind
  rcases Int.mul_eq_zero.1 e1 with h | h1
  · exact h
  rcases Int.mul_eq_zero.1 e2 with h | h2
  · exact h
  rcases Int.mul_eq_zero.1 e3 with h | h3
  · exact h
  exact absurd (zero3.2 ⟨h1, h2, h3⟩) hn
/-- Two ways along a third one, that isn't noughts, are along each other. -/
theorem cr_along {n u v : P3} (hn : n ≠ (0, 0, 0)) (hu : cr3 n u = (0, 0, 0)) (hv : cr3 n v = (0, 0, 0)) : cr3 u v = (0, 0, 0) := by
  simp only [zero3, cr3] at hu hv ⊢
  obtain ⟨u1, u2, u3⟩ := hu
  obtain ⟨v1, v2, v3⟩ := hv
  have key : ∀ k, k = n.1 ∨ k = n.2.1 ∨ k = n.2.2 → (u.2.1 * v.2.2 - u.2.2 * v.2.1) * k = 0 ∧ (u.2.2 * v.1 - u.1 * v.2.2) * k = 0 ∧ (u.1 * v.2.1 - u.2.1 * v.1) * k = 0 := by
    rintro k (rfl | rfl | rfl) <;> refine ⟨?_, ?_, ?_⟩ <;> grind
  have fin : ∀ k, k ≠ 0 → (k = n.1 ∨ k = n.2.1 ∨ k = n.2.2) → u.2.1 * v.2.2 - u.2.2 * v.2.1 = 0 ∧ u.2.2 * v.1 - u.1 * v.2.2 = 0 ∧ u.1 * v.2.1 - u.2.1 * v.1 = 0 := by
    intro k hk h
    obtain ⟨a, b, c⟩ := key k h
    exact ⟨(Int.mul_eq_zero.1 a).resolve_right hk, (Int.mul_eq_zero.1 b).resolve_right hk, (Int.mul_eq_zero.1 c).resolve_right hk⟩
  by_cases h1 : n.1 = 0
  · by_cases h2 : n.2.1 = 0
    · by_cases h3 : n.2.2 = 0
      · exact absurd (zero3.2 ⟨h1, h2, h3⟩) hn
      · exact fin _ h3 (.inr (.inr rfl))
    · exact fin _ h2 (.inr (.inl rfl))
  · exact fin _ h1 (.inl rfl)
theorem sub_sub (a b c : P3) : sub3 a b = sub3 (sub3 a c) (sub3 b c) := by
  unfold sub3; simp only; ext <;> simp only <;> omega
theorem dt_sub (n a b : P3) : dt3 n (sub3 a b) = dt3 n a - dt3 n b := by
  unfold dt3 sub3; simp only; grind
theorem cr_sub (n a b : P3) : cr3 n (sub3 a b) = sub3 (cr3 n a) (cr3 n b) := by
  unfold cr3 sub3; simp only; ext <;> simp only <;> grind
/-- The first way across, that isn't noughts. -/
def firstN (ln p0 : P3) : List P3 → P3 → P3
  | [], n => n
  | p :: l, n => firstN ln p0 l (if n = (0, 0, 0) then V.pCross ln (V.pSub p p0) else n)
theorem firstN_cons (ln p0 p : P3) (l : List P3) (n : P3) : firstN ln p0 (p :: l) n = firstN ln p0 l (if n = (0, 0, 0) then V.pCross ln (V.pSub p p0) else n) := rfl
theorem firstN_stay (ln p0 : P3) : ∀ (l : List P3) (n : P3), n ≠ (0, 0, 0) → firstN ln p0 l n = n
  | [], n, h => rfl
  | p :: l, n, h => by rw [firstN_cons, if_neg h, firstN_stay ln p0 l n h]
theorem firstN_spec (ln p0 : P3) : ∀ (l : List P3), (firstN ln p0 l (0, 0, 0) = (0, 0, 0) ∧ ∀ p ∈ l, V.pCross ln (V.pSub p p0) = (0, 0, 0)) ∨ (firstN ln p0 l (0, 0, 0) ≠ (0, 0, 0) ∧ ∃ p ∈ l, firstN ln p0 l (0, 0, 0) = V.pCross ln (V.pSub p p0))
  | [] => .inl ⟨rfl, by simp⟩
  | p :: l => by
    rw [firstN_cons, if_pos rfl]
    by_cases h : V.pCross ln (V.pSub p p0) = (0, 0, 0)
    · rw [h]
      rcases firstN_spec ln p0 l with ⟨h1, h2⟩ | ⟨h1, q, h2, h3⟩
      · exact .inl ⟨h1, by simp only [List.mem_cons, forall_eq_or_imp]; exact ⟨h, h2⟩⟩
      · exact .inr ⟨h1, q, by simp [h2], h3⟩
    · rw [firstN_stay _ _ _ _ h]
      exact .inr ⟨h, p, by simp, rfl⟩
theorem sm_of {p : P3} {n : Int} (h : bigP p n = false) : Sm p n := bigP_false h
theorem flat_plain (a b : P3) (l : List P3) (hs : ∀ p ∈ a :: b :: l, bigP p 65536 = false) (hab : a ≠ b) :
    (∀ p ∈ a :: b :: l, V.pDot (firstN (V.pSub b a) a l (0, 0, 0)) (V.pSub p a) = 0) ↔ Copl (a :: b :: l) := by
  have sa := sm_of (hs a (by simp))
  have sb := sm_of (hs b (by simp))
  obtain ⟨e1, s1⟩ := sub_sm sb sa
  have hln : sub3 b a ≠ (0, 0, 0) := by
    intro h
    apply hab
    simp only [zero3, sub3] at h
    obtain ⟨a1, a2, a3⟩ := a
    obtain ⟨b1, b2, b3⟩ := b
    simp only at h
    rw [show a1 = b1 by omega, show a2 = b2 by omega, show a3 = b3 by omega]
  have hn : ∀ p ∈ a :: b :: l, V.pCross (V.pSub b a) (V.pSub p a) = cr3 (sub3 b a) (sub3 p a) ∧ Sm (cr3 (sub3 b a) (sub3 p a)) 34359738368 := by
    intro p hp
    obtain ⟨e2, s2⟩ := sub_sm (sm_of (hs p hp)) sa
    rw [e1, e2]
    exact cr_sm s1 s2
  rcases firstN_spec (V.pSub b a) a l with ⟨h1, h2⟩ | ⟨h1, q, hq, h3⟩
  · -- all in one line
    rw [h1]
    constructor
    · intro _ x hx y hy z hz w hw
      have al : ∀ p ∈ a :: b :: l, cr3 (sub3 b a) (sub3 p a) = (0, 0, 0) := by
        intro p hp
        rcases List.mem_cons.1 hp with rfl | hp'
        · simp only [zero3, cr3, sub3]; grind
        · rcases List.mem_cons.1 hp' with rfl | hp''
          · simp only [zero3, cr3, sub3]; grind
          · rw [← (hn p hp).1]; exact h2 p hp''
      have al2 : ∀ p ∈ a :: b :: l, ∀ q ∈ a :: b :: l, cr3 (sub3 b a) (sub3 p q) = (0, 0, 0) := by
        intro p hp q hq
        rw [sub_sub p q a, cr_sub, al p hp, al q hq]; rfl
      unfold det
      rw [cr_along hln (al2 y hy x hx) (al2 z hz x hx)]
      simp [dt3]
    · intro _ p _
      simp [V.pDot]
      decide
  · have hq' : q ∈ a :: b :: l := by simp [hq]
    obtain ⟨e3, s3⟩ := hn q hq'
    rw [h3] at h1 ⊢
    rw [e3] at h1 ⊢
    have hd : ∀ p ∈ a :: b :: l, V.pDot (cr3 (sub3 b a) (sub3 q a)) (V.pSub p a) = dt3 (cr3 (sub3 b a) (sub3 q a)) (sub3 p a) := by
      intro p hp
      obtain ⟨e2, s2⟩ := sub_sm (sm_of (hs p hp)) sa
      rw [e2]; exact dt_sm s3 s2
    constructor
    · intro h x hx y hy z hz w hw
      have h' : ∀ p ∈ a :: b :: l, ∀ r ∈ a :: b :: l, dt3 (cr3 (sub3 b a) (sub3 q a)) (sub3 p r) = 0 := by
        intro p hp r hr
        have g1 := h p hp
        have g2 := h r hr
        rw [hd p hp] at g1
        rw [hd r hr] at g2
        rw [sub_sub p r a, dt_sub, g1, g2]; rfl
      exact det_perp h1 (h' y hy x hx) (h' z hz x hx) (h' w hw x hx)
    · intro h p hp
      rw [hd p hp]
      exact h a (by simp) b (by simp) q hq' p hp
noncomputable def _root_.Go.Proofs.Ytkjellhkamfciaa.M.apart_l0_step {α : Type} (x8 : L3) (x10 : L3) (x11 : Int) (kn : Int → Option α) (k0 : Option α) (k2 : Option α) (x12 : Int) : Option α :=
  if cLt x12 x11 = true then
  if (0 : Int) ≤ x12 ∧ x12 < (↑(List.length x10) : Int) then
    if V.shbeyond_r0 (Prod.fst (List.getD x10 (Int.toNat x12) ((0 : Int), (0 : Int), (0 : Int)))) (Prod.fst (Prod.snd (List.getD x10 (Int.toNat x12) ((0 : Int), (0 : Int), (0 : Int))))) (Prod.snd (Prod.snd (List.getD x10 (Int.toNat x12) ((0 : Int), (0 : Int), (0 : Int))))) (65536 : Int) = true then k0
    else if (0 : Int) ≤ (0 : Int) ∧ (0 : Int) ≤ x12 ∧ x12 ≤ (↑(List.length x8) : Int) then if V.lenB (List.length (List.take (Int.toNat (x12 - (0 : Int))) (List.drop (0 : Nat) x8))) = true then if V.hasP (List.take (Int.toNat (x12 - (0 : Int))) (List.drop (0 : Nat) x8)) (List.getD x10 (Int.toNat x12) ((0 : Int), (0 : Int), (0 : Int))) = true then k0 else kn (IntKind.wrap .i64 (x12 + (1 : Int))) else none else none
  else none
else k2
noncomputable def _root_.Go.Proofs.Ytkjellhkamfciaa.M.apart_l0 {α : Type} (x8 : L3) (x10 : L3) (x11 : Int) (k0 : Option α) (k2 : Option α) : Nat → Int → Option α
  | 0, _ => none
  | n + 1, x12 => M.apart_l0_step x8 x10 x11 (M.apart_l0 x8 x10 x11 k0 k2 n) k0 k2 x12
theorem apart_l0_step_eq {α : Type} (x7 : Value) (x8 : L3) (x9 : Value) (x10 : L3) (x11 : Int) (x12 : Int) (Q : Ex → St → Option α) : (loopStep E (exec E look_side noLps 400) 25 [false, true, false, true] 0 (codeAt E.P 25 [false, true, false, true])) (St.mk (some (SV.ros x7 kP x8) :: nn 4 (some (SV.ros x9 kP x10) :: some (SV.int .i64 x11) :: some (SV.int .i64 x12) :: nn 14 ([]))) []) Q = M.apart_l0_step x8 x10 x11 (fun (x13 : Int) => Q .normal (St.mk (some (SV.ros x7 kP x8) :: nn 4 (some (SV.ros x9 kP x10) :: some (SV.int .i64 x11) :: some (SV.int .i64 x13) :: nn 14 ([]))) [])) (Q .ret (St.mk (none :: none :: some (SV.bool false) :: nn 19 ([])) [])) (Q (.exit 0) (St.mk (nn 22 ([])) [])) x12 := by kernel_rfl
theorem apart_l0_iter {α : Type} (x7 : Value) (x8 : L3) (x9 : Value) (x10 : L3) (x11 : Int) (Q : Ex → St → Option α) : ∀ (n : Nat) (x12 : Int), iter (loopStep E (exec E look_side noLps 400) 25 [false, true, false, true] 0 (codeAt E.P 25 [false, true, false, true])) n (St.mk (some (SV.ros x7 kP x8) :: nn 4 (some (SV.ros x9 kP x10) :: some (SV.int .i64 x11) :: some (SV.int .i64 x12) :: nn 14 ([]))) []) Q = M.apart_l0 x8 x10 x11 (Q .ret (St.mk (none :: none :: some (SV.bool false) :: nn 19 ([])) [])) (Q (.exit 0) (St.mk (nn 22 ([])) [])) n x12
  | 0, _ => rfl
  | n + 1, x12 => (apart_l0_step_eq x7 x8 x9 x10 x11 x12 (iterK (loopStep E (exec E look_side noLps 400) 25 [false, true, false, true] 0 (codeAt E.P 25 [false, true, false, true])) n Q)).trans (congrArg (fun kn => M.apart_l0_step x8 x10 x11 kn (Q .ret (St.mk (none :: none :: some (SV.bool false) :: nn 19 ([])) [])) (Q (.exit 0) (St.mk (nn 22 ([])) [])) x12) (funext fun x12 => apart_l0_iter x7 x8 x9 x10 x11 Q n x12))
noncomputable def apart_l0_go {α : Type} (ds : List D) (Q : Ex → St → Option α) : Option α :=
  dV ds fun x7 ds => dL kP ds fun x8 ds => dV ds fun x9 ds => dL kP ds fun x10 ds => dI ds fun x11 ds => dI ds fun x12 ds => dE ds (M.apart_l0 x8 x10 x11 (Q .ret (St.mk (none :: none :: some (SV.bool false) :: nn 19 ([])) [])) (Q (.exit 0) (St.mk (nn 22 ([])) [])) (100 + x8.length + x10.length) x12)
theorem apart_l0_ok {α : Type} : LoopOk E.P 25 [false, true, false, true] 0 (lEnt (α := α) (St.mk (some (SV.ros undef kP []) :: nn 4 (some (SV.ros undef kP []) :: some (SV.int .i64 (0 : Int)) :: some (SV.int .i64 (0 : Int)) :: nn 14 ([]))) []) apart_l0_go) :=
  lEnt_ok E (exec_sound E E_ok (look_side_ok) (noLps_ok _) 400) fun ds Q r h S hS => by
    unfold apart_l0_go at h
    obtain ⟨x7, ds, rfl, h1⟩ := dV_inv h
    obtain ⟨x8, ds, rfl, h2⟩ := dL_inv h1
    obtain ⟨x9, ds, rfl, h3⟩ := dV_inv h2
    obtain ⟨x10, ds, rfl, h4⟩ := dL_inv h3
    obtain ⟨x11, ds, rfl, h5⟩ := dI_inv h4
    obtain ⟨x12, ds, rfl, h6⟩ := dI_inv h5
    obtain ⟨rfl, hE⟩ := dE_inv h6
    have e : fillS (St.mk (some (SV.ros undef kP []) :: nn 4 (some (SV.ros undef kP []) :: some (SV.int .i64 (0 : Int)) :: some (SV.int .i64 (0 : Int)) :: nn 14 ([]))) []) [.v x7, .l kP x8, .v x9, .l kP x10, .i x11, .i x12] = some (St.mk (some (SV.ros x7 kP x8) :: nn 4 (some (SV.ros x9 kP x10) :: some (SV.int .i64 x11) :: some (SV.int .i64 x12) :: nn 14 ([]))) []) := by kernel_rfl
    rw [e] at hS
    cases hS
    exact ⟨_, (apart_l0_iter x7 x8 x9 x10 x11 Q _ x12).trans hE⟩
noncomputable def apart_l0_lps {α : Type} : LookL α := addLp 25 [false, true, false, true] 0 (lEnt (St.mk (some (SV.ros undef kP []) :: nn 4 (some (SV.ros undef kP []) :: some (SV.int .i64 (0 : Int)) :: some (SV.int .i64 (0 : Int)) :: nn 14 ([]))) []) apart_l0_go) noLps
theorem apart_l0_lps_ok {α : Type} : LoopsOk E.P (apart_l0_lps (α := α)) := addLp_ok apart_l0_ok (noLps_ok _)

noncomputable def _root_.Go.Proofs.Ytkjellhkamfciaa.M.apart {α : Type} (l : L3) (k0 : Bool → Option α) : Option α :=
  M.apart_l0 l l (↑(List.length l) : Int) (k0 false) (k0 true) ((100 : Nat) + List.length l + List.length l) (0 : Int)
theorem apart_eq {α : Type} (l : L3) (v14 : Value) (Q : SV → Hp → Option α) : callI E look_side (exec E look_side apart_l0_lps 400) 25 ([SV.ros v14 kP l]) ([]) Q = M.apart l (fun (x15 : Bool) => Q (SV.bool x15) ([])) := by kernel_rfl
def apart_sp : List AS := [.ro (.st (.i .i64) [.i .i64, .i .i64])]
theorem apart_l0_val {α : Type} (l : List P3) (hl : l.length < 1099511627776) (k0 k2 : Option α) : ∀ (fuel i : Nat), i ≤ l.length → l.length - i < fuel →
    M.apart_l0 l l (l.length : Int) k0 k2 fuel (i : Int) = if apF (l.take i) (l.drop i) = true then k2 else k0
  | 0, i, h1, h2 => by omega
  | f + 1, i, h1, h2 => by
    unfold M.apart_l0 M.apart_l0_step
    rw [cLt_nat]
    by_cases hx : i < l.length
    · rw [w_next (by omega), apart_l0_val l hl k0 k2 f (i + 1) (by omega) (by omega)]
      have hb := beyond_eq (pt l i) 65536 (by omega)
      unfold pt at hb
      have hc : (0 : Int) ≤ (0 : Int) ∧ (0 : Int) ≤ (i : Int) ∧ (i : Int) ≤ (l.length : Int) := by omega
      have ht : List.take (Int.toNat ((i : Int) - 0)) (List.drop 0 l) = l.take i := by rw [Int.sub_zero, toNat_nat, List.drop_zero]
      simp only [hx, decide_true, if_true, inB hx, toNat_nat, hb, if_pos hc, ht]
      rw [if_pos (lenB_of (by rw [List.length_take]; omega)), drop_pt l i hx]
      have e : apF (l.take i) (pt l i :: l.drop (i + 1)) = (!bigP (pt l i) 65536 && !decide (pt l i ∈ l.take i) && apF (l.take i ++ [pt l i]) (l.drop (i + 1))) := rfl
      have e2 : l.take (i + 1) = l.take i ++ [pt l i] := by rw [pt_eq l i hx, List.take_add_one, List.getElem?_eq_getElem hx]; rfl
      rw [e, e2]
      unfold V.hasP
      show (if bigP (pt l i) 65536 = true then k0 else if decide (pt l i ∈ l.take i) = true then k0 else _) = _
      cases bigP (pt l i) 65536 with
      | true => simp
      | false =>
        cases decide (pt l i ∈ l.take i) with
        | true => simp
        | false => simp
    · have : i = l.length := by omega
      subst this
      simp [apF]
theorem apart_v {α : Type} (l : List P3) (hg : V.lenB l.length = true) (k0 : Bool → Option α) : M.apart l k0 = k0 (V.apartP l) := by
  unfold M.apart V.apartP
  refine (apart_l0_val l (lenB_lt hg) (k0 false) (k0 true) (100 + l.length + l.length) 0 (by omega) (by omega)).trans ?_
  rw [List.take_zero, List.drop_zero, apF_eq]
  simp only [List.not_mem_nil, not_false_eq_true, implies_true, and_true]
  cases decide ((∀ p ∈ l, bigP p 65536 = false) ∧ l.Nodup) <;> rfl
noncomputable def apart_h {α : Type} (ds : List D) (Q : SV → Hp → Option α) : Option α :=
  dL kP ds fun l ds => dE ds (if V.lenB l.length = true then Q (.bool (V.apartP l)) ([]) else none)
theorem apart_h_ok {α : Type} : FnOk E.P 25 (fEnt (α := α) apart_sp apart_h) :=
  fEntR_ok E (look_side_ok) (exec_sound E E_ok (look_side_ok) (apart_l0_lps_ok) 400) fun ds Q r h => by
    unfold apart_h at h
    obtain ⟨l, ds, rfl, h1⟩ := dL_inv h
    obtain ⟨rfl, hE⟩ := dE_inv h1
    split at hE
    · rename_i hg
      exact ⟨_, _, hE, fun vs => ⟨_, _, by kernel_rfl, (apart_eq l (vs.headD undef) _).trans (apart_v l hg _)⟩⟩
    · cases hE
noncomputable def look_apart {α : Type} : LookF α := addFn 25 (fEnt apart_sp apart_h) look_side
theorem look_apart_ok {α : Type} : LookOk E.P (look_apart (α := α)) := addFn_ok apart_h_ok (look_side_ok)
noncomputable def _root_.Go.Proofs.Ytkjellhkamfciaa.M.flat_l0_step {α : Type} (x30 : L3) (x31 : Int) (x34 : L3) (x35 : Int) (x36 : Int) (x37 : Int) (kn : Int → Int → Int → Int → Option α) (k1 : Int → Int → Int → Option α) (x32 : Int) (x38 : Int) (x39 : Int) (x40 : Int) : Option α :=
  if cLt x32 x31 = true then
  if (0 : Int) ≤ x32 ∧ x32 < (↑(List.length x30) : Int) then
    if (cEq x38 (0 : Int) && (cEq x39 (0 : Int) && (cEq x40 (0 : Int) && true))) = true then
      if (0 : Int) ≤ (0 : Int) ∧ (0 : Int) < (↑(List.length x34) : Int) then
        kn (IntKind.wrap .i64 (x32 + (1 : Int))) (Prod.fst (V.pCross (x35, x36, x37) (V.pSub (List.getD x30 (Int.toNat x32) ((0 : Int), (0 : Int), (0 : Int))) (List.getD x34 (0 : Nat) ((0 : Int), (0 : Int), (0 : Int)))))) (Prod.fst (Prod.snd (V.pCross (x35, x36, x37) (V.pSub (List.getD x30 (Int.toNat x32) ((0 : Int), (0 : Int), (0 : Int))) (List.getD x34 (0 : Nat) ((0 : Int), (0 : Int), (0 : Int)))))))
          (Prod.snd (Prod.snd (V.pCross (x35, x36, x37) (V.pSub (List.getD x30 (Int.toNat x32) ((0 : Int), (0 : Int), (0 : Int))) (List.getD x34 (0 : Nat) ((0 : Int), (0 : Int), (0 : Int)))))))
      else none
    else kn (IntKind.wrap .i64 (x32 + (1 : Int))) x38 x39 x40
  else none
else k1 x38 x39 x40
noncomputable def _root_.Go.Proofs.Ytkjellhkamfciaa.M.flat_l0 {α : Type} (x30 : L3) (x31 : Int) (x34 : L3) (x35 : Int) (x36 : Int) (x37 : Int) (k1 : Int → Int → Int → Option α) : Nat → Int → Int → Int → Int → Option α
  | 0, _, _, _, _ => none
  | n + 1, x32, x38, x39, x40 => M.flat_l0_step x30 x31 x34 x35 x36 x37 (M.flat_l0 x30 x31 x34 x35 x36 x37 k1 n) k1 x32 x38 x39 x40
theorem flat_l0_step_eq {α : Type} (x29 : Value) (x30 : L3) (x31 : Int) (x32 : Int) (x33 : Value) (x34 : L3) (x35 : Int) (x36 : Int) (x37 : Int) (x38 : Int) (x39 : Int) (x40 : Int) (Q : Ex → St → Option α) : (loopStep E (exec E look_apart noLps 400) 26 [false, true, false, true, true, true] 0 (codeAt E.P 26 [false, true, false, true, true, true])) (St.mk (none :: some (SV.ptr (nat_lit 0) (nat_lit 0)) :: none :: some (SV.ptr (nat_lit 1) (nat_lit 0)) :: some (SV.ptr (nat_lit 2) (nat_lit 0)) :: nn 10 (some (SV.ros x29 kP x30) :: some (SV.int .i64 x31) :: some (SV.int .i64 x32) :: nn 18 ([])))
  [.cells [SV.ros x33 kP x34] (nat_lit 24), .cells [SV.int .i64 x35, SV.int .i64 x36, SV.int .i64 x37] (nat_lit 23), .cells [SV.int .i64 x38, SV.int .i64 x39, SV.int .i64 x40] (nat_lit 23)]) Q = M.flat_l0_step x30 x31 x34 x35 x36 x37 (fun (x44 : Int) (x45 : Int) (x46 : Int) (x47 : Int) => Q .normal (St.mk (none :: some (SV.ptr (nat_lit 0) (nat_lit 0)) :: none :: some (SV.ptr (nat_lit 1) (nat_lit 0)) :: some (SV.ptr (nat_lit 2) (nat_lit 0)) :: nn 10 (some (SV.ros x29 kP x30) :: some (SV.int .i64 x31) :: some (SV.int .i64 x44) :: nn 18 ([])))
  [.cells [SV.ros x33 kP x34] (nat_lit 24), .cells [SV.int .i64 x35, SV.int .i64 x36, SV.int .i64 x37] (nat_lit 23), .cells [SV.int .i64 x45, SV.int .i64 x46, SV.int .i64 x47] (nat_lit 23)])) (fun (x41 : Int) (x42 : Int) (x43 : Int) => Q (.exit 0) (St.mk (none :: some (SV.ptr (nat_lit 0) (nat_lit 0)) :: none :: none :: some (SV.ptr (nat_lit 1) (nat_lit 0)) :: nn 31 ([])) [.cells [SV.ros x33 kP x34] (nat_lit 24), .cells [SV.int .i64 x41, SV.int .i64 x42, SV.int .i64 x43] (nat_lit 23)])) x32 x38 x39 x40 := by kernel_rfl
theorem flat_l0_iter {α : Type} (x29 : Value) (x30 : L3) (x31 : Int) (x33 : Value) (x34 : L3) (x35 : Int) (x36 : Int) (x37 : Int) (Q : Ex → St → Option α) : ∀ (n : Nat) (x32 : Int) (x38 : Int) (x39 : Int) (x40 : Int), iter (loopStep E (exec E look_apart noLps 400) 26 [false, true, false, true, true, true] 0 (codeAt E.P 26 [false, true, false, true, true, true])) n (St.mk (none :: some (SV.ptr (nat_lit 0) (nat_lit 0)) :: none :: some (SV.ptr (nat_lit 1) (nat_lit 0)) :: some (SV.ptr (nat_lit 2) (nat_lit 0)) :: nn 10 (some (SV.ros x29 kP x30) :: some (SV.int .i64 x31) :: some (SV.int .i64 x32) :: nn 18 ([])))
  [.cells [SV.ros x33 kP x34] (nat_lit 24), .cells [SV.int .i64 x35, SV.int .i64 x36, SV.int .i64 x37] (nat_lit 23), .cells [SV.int .i64 x38, SV.int .i64 x39, SV.int .i64 x40] (nat_lit 23)]) Q = M.flat_l0 x30 x31 x34 x35 x36 x37 (fun (x41 : Int) (x42 : Int) (x43 : Int) => Q (.exit 0) (St.mk (none :: some (SV.ptr (nat_lit 0) (nat_lit 0)) :: none :: none :: some (SV.ptr (nat_lit 1) (nat_lit 0)) :: nn 31 ([])) [.cells [SV.ros x33 kP x34] (nat_lit 24), .cells [SV.int .i64 x41, SV.int .i64 x42, SV.int .i64 x43] (nat_lit 23)])) n x32 x38 x39 x40
  | 0, _, _, _, _ => rfl
  | n + 1, x32, x38, x39, x40 => (flat_l0_step_eq x29 x30 x31 x32 x33 x34 x35 x36 x37 x38 x39 x40 (iterK (loopStep E (exec E look_apart noLps 400) 26 [false, true, false, true, true, true] 0 (codeAt E.P 26 [false, true, false, true, true, true])) n Q)).trans (congrArg (fun kn => M.flat_l0_step x30 x31 x34 x35 x36 x37 kn (fun (x41 : Int) (x42 : Int) (x43 : Int) => Q (.exit 0) (St.mk (none :: some (SV.ptr (nat_lit 0) (nat_lit 0)) :: none :: none :: some (SV.ptr (nat_lit 1) (nat_lit 0)) :: nn 31 ([])) [.cells [SV.ros x33 kP x34] (nat_lit 24), .cells [SV.int .i64 x41, SV.int .i64 x42, SV.int .i64 x43] (nat_lit 23)])) x32 x38 x39 x40) (funext fun x32 => funext fun x38 => funext fun x39 => funext fun x40 => flat_l0_iter x29 x30 x31 x33 x34 x35 x36 x37 Q n x32 x38 x39 x40))
noncomputable def flat_l0_go {α : Type} (ds : List D) (Q : Ex → St → Option α) : Option α :=
  dV ds fun x29 ds => dL kP ds fun x30 ds => dI ds fun x31 ds => dI ds fun x32 ds => dV ds fun x33 ds => dL kP ds fun x34 ds => dI ds fun x35 ds => dI ds fun x36 ds => dI ds fun x37 ds => dI ds fun x38 ds => dI ds fun x39 ds => dI ds fun x40 ds => dE ds (M.flat_l0 x30 x31 x34 x35 x36 x37 (fun (x41 : Int) (x42 : Int) (x43 : Int) => Q (.exit 0) (St.mk (none :: some (SV.ptr (nat_lit 0) (nat_lit 0)) :: none :: none :: some (SV.ptr (nat_lit 1) (nat_lit 0)) :: nn 31 ([])) [.cells [SV.ros x33 kP x34] (nat_lit 24), .cells [SV.int .i64 x41, SV.int .i64 x42, SV.int .i64 x43] (nat_lit 23)])) (100 + x30.length + x34.length) x32 x38 x39 x40)
theorem flat_l0_ok {α : Type} : LoopOk E.P 26 [false, true, false, true, true, true] 0 (lEnt (α := α) (St.mk (none :: some (SV.ptr (nat_lit 0) (nat_lit 0)) :: none :: some (SV.ptr (nat_lit 1) (nat_lit 0)) :: some (SV.ptr (nat_lit 2) (nat_lit 0)) :: nn 10 (some (SV.ros undef kP []) :: some (SV.int .i64 (0 : Int)) :: some (SV.int .i64 (0 : Int)) :: nn 18 ([])))
  [.cells [SV.ros undef kP []] (nat_lit 24), .cells [SV.int .i64 (0 : Int), SV.int .i64 (0 : Int), SV.int .i64 (0 : Int)] (nat_lit 23), .cells [SV.int .i64 (0 : Int), SV.int .i64 (0 : Int), SV.int .i64 (0 : Int)] (nat_lit 23)]) flat_l0_go) :=
  lEnt_ok E (exec_sound E E_ok (look_apart_ok) (noLps_ok _) 400) fun ds Q r h S hS => by
    unfold flat_l0_go at h
    obtain ⟨x29, ds, rfl, h1⟩ := dV_inv h
    obtain ⟨x30, ds, rfl, h2⟩ := dL_inv h1
    obtain ⟨x31, ds, rfl, h3⟩ := dI_inv h2
    obtain ⟨x32, ds, rfl, h4⟩ := dI_inv h3
    obtain ⟨x33, ds, rfl, h5⟩ := dV_inv h4
    obtain ⟨x34, ds, rfl, h6⟩ := dL_inv h5
    obtain ⟨x35, ds, rfl, h7⟩ := dI_inv h6
    obtain ⟨x36, ds, rfl, h8⟩ := dI_inv h7
    obtain ⟨x37, ds, rfl, h9⟩ := dI_inv h8
    obtain ⟨x38, ds, rfl, h10⟩ := dI_inv h9
    obtain ⟨x39, ds, rfl, h11⟩ := dI_inv h10
    obtain ⟨x40, ds, rfl, h12⟩ := dI_inv h11
    obtain ⟨rfl, hE⟩ := dE_inv h12
    have e : fillS (St.mk (none :: some (SV.ptr (nat_lit 0) (nat_lit 0)) :: none :: some (SV.ptr (nat_lit 1) (nat_lit 0)) :: some (SV.ptr (nat_lit 2) (nat_lit 0)) :: nn 10 (some (SV.ros undef kP []) :: some (SV.int .i64 (0 : Int)) :: some (SV.int .i64 (0 : Int)) :: nn 18 ([])))
  [.cells [SV.ros undef kP []] (nat_lit 24), .cells [SV.int .i64 (0 : Int), SV.int .i64 (0 : Int), SV.int .i64 (0 : Int)] (nat_lit 23), .cells [SV.int .i64 (0 : Int), SV.int .i64 (0 : Int), SV.int .i64 (0 : Int)] (nat_lit 23)]) [.v x29, .l kP x30, .i x31, .i x32, .v x33, .l kP x34, .i x35, .i x36, .i x37, .i x38, .i x39, .i x40] = some (St.mk (none :: some (SV.ptr (nat_lit 0) (nat_lit 0)) :: none :: some (SV.ptr (nat_lit 1) (nat_lit 0)) :: some (SV.ptr (nat_lit 2) (nat_lit 0)) :: nn 10 (some (SV.ros x29 kP x30) :: some (SV.int .i64 x31) :: some (SV.int .i64 x32) :: nn 18 ([])))
  [.cells [SV.ros x33 kP x34] (nat_lit 24), .cells [SV.int .i64 x35, SV.int .i64 x36, SV.int .i64 x37] (nat_lit 23), .cells [SV.int .i64 x38, SV.int .i64 x39, SV.int .i64 x40] (nat_lit 23)]) := by kernel_rfl
    rw [e] at hS
    cases hS
    exact ⟨_, (flat_l0_iter x29 x30 x31 x33 x34 x35 x36 x37 Q _ x32 x38 x39 x40).trans hE⟩
noncomputable def flat_l0_lps {α : Type} : LookL α := addLp 26 [false, true, false, true, true, true] 0 (lEnt (St.mk (none :: some (SV.ptr (nat_lit 0) (nat_lit 0)) :: none :: some (SV.ptr (nat_lit 1) (nat_lit 0)) :: some (SV.ptr (nat_lit 2) (nat_lit 0)) :: nn 10 (some (SV.ros undef kP []) :: some (SV.int .i64 (0 : Int)) :: some (SV.int .i64 (0 : Int)) :: nn 18 ([])))
  [.cells [SV.ros undef kP []] (nat_lit 24), .cells [SV.int .i64 (0 : Int), SV.int .i64 (0 : Int), SV.int .i64 (0 : Int)] (nat_lit 23), .cells [SV.int .i64 (0 : Int), SV.int .i64 (0 : Int), SV.int .i64 (0 : Int)] (nat_lit 23)]) flat_l0_go) noLps
theorem flat_l0_lps_ok {α : Type} : LoopsOk E.P (flat_l0_lps (α := α)) := addLp_ok flat_l0_ok (noLps_ok _)

noncomputable def _root_.Go.Proofs.Ytkjellhkamfciaa.M.flat_l1_step {α : Type} (x62 : L3) (x63 : Int) (x66 : L3) (x67 : Int) (x68 : Int) (x69 : Int) (kn : Int → Option α) (k0 : Int → Option α) (k2 : Option α) (x64 : Int) : Option α :=
  if cLt x64 x63 = true then if (0 : Int) ≤ x64 ∧ x64 < (↑(List.length x62) : Int) then if (0 : Int) ≤ (0 : Int) ∧ (0 : Int) < (↑(List.length x66) : Int) then if (!cEq (V.pDot (x67, x68, x69) (V.pSub (List.getD x62 (Int.toNat x64) ((0 : Int), (0 : Int), (0 : Int))) (List.getD x66 (0 : Nat) ((0 : Int), (0 : Int), (0 : Int))))) (0 : Int)) = true then k0 x64 else kn (IntKind.wrap .i64 (x64 + (1 : Int))) else none else none else k2
noncomputable def _root_.Go.Proofs.Ytkjellhkamfciaa.M.flat_l1 {α : Type} (x62 : L3) (x63 : Int) (x66 : L3) (x67 : Int) (x68 : Int) (x69 : Int) (k0 : Int → Option α) (k2 : Option α) : Nat → Int → Option α
  | 0, _ => none
  | n + 1, x64 => M.flat_l1_step x62 x63 x66 x67 x68 x69 (M.flat_l1 x62 x63 x66 x67 x68 x69 k0 k2 n) k0 k2 x64
theorem flat_l1_step_eq {α : Type} (x61 : Value) (x62 : L3) (x63 : Int) (x64 : Int) (x65 : Value) (x66 : L3) (x67 : Int) (x68 : Int) (x69 : Int) (Q : Ex → St → Option α) : (loopStep E (exec E look_apart flat_l0_lps 400) 78 [false, true, false, true] 2 (codeAt E.P 78 [false, true, false, true])) (St.mk (some (SV.ros x61 kP x62) :: some (SV.fn (nat_lit 54) [] [SV.ptr (nat_lit 1) (nat_lit 0), SV.ptr (nat_lit 0) (nat_lit 0)]) :: nn 5 (some (SV.int .i64 x63) :: some (SV.int .i64 x64) :: nn 10 ([])))
  [.cells [SV.ros x65 kP x66] (nat_lit 24), .cells [SV.int .i64 x67, SV.int .i64 x68, SV.int .i64 x69] (nat_lit 23)]) Q = M.flat_l1_step x62 x63 x66 x67 x68 x69 (fun (x71 : Int) => Q .normal (St.mk (some (SV.ros x61 kP x62) :: some (SV.fn (nat_lit 54) [] [SV.ptr (nat_lit 1) (nat_lit 0), SV.ptr (nat_lit 0) (nat_lit 0)]) :: nn 5 (some (SV.int .i64 x63) :: some (SV.int .i64 x71) :: nn 10 ([])))
  [.cells [SV.ros x65 kP x66] (nat_lit 24), .cells [SV.int .i64 x67, SV.int .i64 x68, SV.int .i64 x69] (nat_lit 23)])) (fun (x70 : Int) => Q .ret (St.mk (nn 4 (some (SV.int .i64 x70) :: nn 14 ([]))) [.cells [SV.ros x65 kP x66] (nat_lit 24), .cells [SV.int .i64 x67, SV.int .i64 x68, SV.int .i64 x69] (nat_lit 23)])) (Q (.exit 0) (St.mk (nn 19 ([])) [.cells [SV.ros x65 kP x66] (nat_lit 24), .cells [SV.int .i64 x67, SV.int .i64 x68, SV.int .i64 x69] (nat_lit 23)])) x64 := by kernel_rfl
theorem flat_l1_iter {α : Type} (x61 : Value) (x62 : L3) (x63 : Int) (x65 : Value) (x66 : L3) (x67 : Int) (x68 : Int) (x69 : Int) (Q : Ex → St → Option α) : ∀ (n : Nat) (x64 : Int), iter (loopStep E (exec E look_apart flat_l0_lps 400) 78 [false, true, false, true] 2 (codeAt E.P 78 [false, true, false, true])) n (St.mk (some (SV.ros x61 kP x62) :: some (SV.fn (nat_lit 54) [] [SV.ptr (nat_lit 1) (nat_lit 0), SV.ptr (nat_lit 0) (nat_lit 0)]) :: nn 5 (some (SV.int .i64 x63) :: some (SV.int .i64 x64) :: nn 10 ([])))
  [.cells [SV.ros x65 kP x66] (nat_lit 24), .cells [SV.int .i64 x67, SV.int .i64 x68, SV.int .i64 x69] (nat_lit 23)]) Q = M.flat_l1 x62 x63 x66 x67 x68 x69 (fun (x70 : Int) => Q .ret (St.mk (nn 4 (some (SV.int .i64 x70) :: nn 14 ([]))) [.cells [SV.ros x65 kP x66] (nat_lit 24), .cells [SV.int .i64 x67, SV.int .i64 x68, SV.int .i64 x69] (nat_lit 23)])) (Q (.exit 0) (St.mk (nn 19 ([])) [.cells [SV.ros x65 kP x66] (nat_lit 24), .cells [SV.int .i64 x67, SV.int .i64 x68, SV.int .i64 x69] (nat_lit 23)])) n x64
  | 0, _ => rfl
  | n + 1, x64 => (flat_l1_step_eq x61 x62 x63 x64 x65 x66 x67 x68 x69 (iterK (loopStep E (exec E look_apart flat_l0_lps 400) 78 [false, true, false, true] 2 (codeAt E.P 78 [false, true, false, true])) n Q)).trans (congrArg (fun kn => M.flat_l1_step x62 x63 x66 x67 x68 x69 kn (fun (x70 : Int) => Q .ret (St.mk (nn 4 (some (SV.int .i64 x70) :: nn 14 ([]))) [.cells [SV.ros x65 kP x66] (nat_lit 24), .cells [SV.int .i64 x67, SV.int .i64 x68, SV.int .i64 x69] (nat_lit 23)])) (Q (.exit 0) (St.mk (nn 19 ([])) [.cells [SV.ros x65 kP x66] (nat_lit 24), .cells [SV.int .i64 x67, SV.int .i64 x68, SV.int .i64 x69] (nat_lit 23)])) x64) (funext fun x64 => flat_l1_iter x61 x62 x63 x65 x66 x67 x68 x69 Q n x64))
noncomputable def flat_l1_go {α : Type} (ds : List D) (Q : Ex → St → Option α) : Option α :=
  dV ds fun x61 ds => dL kP ds fun x62 ds => dI ds fun x63 ds => dI ds fun x64 ds => dV ds fun x65 ds => dL kP ds fun x66 ds => dI ds fun x67 ds => dI ds fun x68 ds => dI ds fun x69 ds => dE ds (M.flat_l1 x62 x63 x66 x67 x68 x69 (fun (x70 : Int) => Q .ret (St.mk (nn 4 (some (SV.int .i64 x70) :: nn 14 ([]))) [.cells [SV.ros x65 kP x66] (nat_lit 24), .cells [SV.int .i64 x67, SV.int .i64 x68, SV.int .i64 x69] (nat_lit 23)])) (Q (.exit 0) (St.mk (nn 19 ([])) [.cells [SV.ros x65 kP x66] (nat_lit 24), .cells [SV.int .i64 x67, SV.int .i64 x68, SV.int .i64 x69] (nat_lit 23)])) (100 + x62.length + x66.length) x64)
theorem flat_l1_ok {α : Type} : LoopOk E.P 78 [false, true, false, true] 2 (lEnt (α := α) (St.mk (some (SV.ros undef kP []) :: some (SV.fn (nat_lit 54) [] [SV.ptr (nat_lit 1) (nat_lit 0), SV.ptr (nat_lit 0) (nat_lit 0)]) :: nn 5 (some (SV.int .i64 (0 : Int)) :: some (SV.int .i64 (0 : Int)) :: nn 10 ([])))
  [.cells [SV.ros undef kP []] (nat_lit 24), .cells [SV.int .i64 (0 : Int), SV.int .i64 (0 : Int), SV.int .i64 (0 : Int)] (nat_lit 23)]) flat_l1_go) :=
  lEnt_ok E (exec_sound E E_ok (look_apart_ok) (flat_l0_lps_ok) 400) fun ds Q r h S hS => by
    unfold flat_l1_go at h
    obtain ⟨x61, ds, rfl, h1⟩ := dV_inv h
    obtain ⟨x62, ds, rfl, h2⟩ := dL_inv h1
    obtain ⟨x63, ds, rfl, h3⟩ := dI_inv h2
    obtain ⟨x64, ds, rfl, h4⟩ := dI_inv h3
    obtain ⟨x65, ds, rfl, h5⟩ := dV_inv h4
    obtain ⟨x66, ds, rfl, h6⟩ := dL_inv h5
    obtain ⟨x67, ds, rfl, h7⟩ := dI_inv h6
    obtain ⟨x68, ds, rfl, h8⟩ := dI_inv h7
    obtain ⟨x69, ds, rfl, h9⟩ := dI_inv h8
    obtain ⟨rfl, hE⟩ := dE_inv h9
    have e : fillS (St.mk (some (SV.ros undef kP []) :: some (SV.fn (nat_lit 54) [] [SV.ptr (nat_lit 1) (nat_lit 0), SV.ptr (nat_lit 0) (nat_lit 0)]) :: nn 5 (some (SV.int .i64 (0 : Int)) :: some (SV.int .i64 (0 : Int)) :: nn 10 ([])))
  [.cells [SV.ros undef kP []] (nat_lit 24), .cells [SV.int .i64 (0 : Int), SV.int .i64 (0 : Int), SV.int .i64 (0 : Int)] (nat_lit 23)]) [.v x61, .l kP x62, .i x63, .i x64, .v x65, .l kP x66, .i x67, .i x68, .i x69] = some (St.mk (some (SV.ros x61 kP x62) :: some (SV.fn (nat_lit 54) [] [SV.ptr (nat_lit 1) (nat_lit 0), SV.ptr (nat_lit 0) (nat_lit 0)]) :: nn 5 (some (SV.int .i64 x63) :: some (SV.int .i64 x64) :: nn 10 ([])))
  [.cells [SV.ros x65 kP x66] (nat_lit 24), .cells [SV.int .i64 x67, SV.int .i64 x68, SV.int .i64 x69] (nat_lit 23)]) := by kernel_rfl
    rw [e] at hS
    cases hS
    exact ⟨_, (flat_l1_iter x61 x62 x63 x65 x66 x67 x68 x69 Q _ x64).trans hE⟩
noncomputable def flat_l1_lps {α : Type} : LookL α := addLp 78 [false, true, false, true] 2 (lEnt (St.mk (some (SV.ros undef kP []) :: some (SV.fn (nat_lit 54) [] [SV.ptr (nat_lit 1) (nat_lit 0), SV.ptr (nat_lit 0) (nat_lit 0)]) :: nn 5 (some (SV.int .i64 (0 : Int)) :: some (SV.int .i64 (0 : Int)) :: nn 10 ([])))
  [.cells [SV.ros undef kP []] (nat_lit 24), .cells [SV.int .i64 (0 : Int), SV.int .i64 (0 : Int), SV.int .i64 (0 : Int)] (nat_lit 23)]) flat_l1_go) flat_l0_lps
theorem flat_l1_lps_ok {α : Type} : LoopsOk E.P (flat_l1_lps (α := α)) := addLp_ok flat_l1_ok (flat_l0_lps_ok)

noncomputable def _root_.Go.Proofs.Ytkjellhkamfciaa.M.flat {α : Type} (l : L3) (k0 : Bool → Option α) : Option α :=
  if (0 : Int) ≤ (1 : Int) ∧ (1 : Int) < (↑(List.length l) : Int) then
  if (0 : Int) ≤ (0 : Int) ∧ (0 : Int) < (↑(List.length l) : Int) then
    if (0 : Int) ≤ (2 : Int) ∧ (2 : Int) ≤ (↑(List.length l) : Int) ∧ (↑(List.length l) : Int) ≤ (↑(List.length l) : Int) then
      M.flat_l0 (List.take (Int.toNat ((↑(List.length l) : Int) - (2 : Int))) (List.drop (2 : Nat) l)) (↑(List.length (List.take (Int.toNat ((↑(List.length l) : Int) - (2 : Int))) (List.drop (2 : Nat) l))) : Int) l (Prod.fst (V.pSub (List.getD l (1 : Nat) ((0 : Int), (0 : Int), (0 : Int))) (List.getD l (0 : Nat) ((0 : Int), (0 : Int), (0 : Int))))) (Prod.fst (Prod.snd (V.pSub (List.getD l (1 : Nat) ((0 : Int), (0 : Int), (0 : Int))) (List.getD l (0 : Nat) ((0 : Int), (0 : Int), (0 : Int))))))
        (Prod.snd (Prod.snd (V.pSub (List.getD l (1 : Nat) ((0 : Int), (0 : Int), (0 : Int))) (List.getD l (0 : Nat) ((0 : Int), (0 : Int), (0 : Int)))))) (fun (x73 x74 x75 : Int) ↦ M.flat_l1 l (↑(List.length l) : Int) l x73 x74 x75 (fun (x76 : Int) ↦ k0 !cLe (0 : Int) x76) (k0 !cLe (0 : Int) (-1 : Int)) ((100 : Nat) + List.length l + List.length l) (0 : Int)) ((100 : Nat) + List.length (List.take (Int.toNat ((↑(List.length l) : Int) - (2 : Int))) (List.drop (2 : Nat) l)) + List.length l)
        (0 : Int) (0 : Int) (0 : Int) (0 : Int)
    else none
  else none
else none
theorem flat_eq {α : Type} (l : L3) (v72 : Value) (Q : SV → Hp → Option α) : callI E look_apart (exec E look_apart flat_l1_lps 400) 26 ([SV.ros v72 kP l]) ([]) Q = M.flat l (fun (x77 : Bool) => Q (SV.bool x77) ([])) := by kernel_rfl
def flat_sp : List AS := [.ro (.st (.i .i64) [.i .i64, .i .i64])]
theorem flat_l0_val {α : Type} (m l : List P3) (hm : m.length < 1099511627776) (h0 : 0 < l.length) (ln : P3) (k1 : Int → Int → Int → Option α) : ∀ (fuel i : Nat) (n : P3), i ≤ m.length → m.length - i < fuel →
    M.flat_l0 m (m.length : Int) l ln.1 ln.2.1 ln.2.2 k1 fuel (i : Int) n.1 n.2.1 n.2.2 = k1 (firstN ln (pt l 0) (m.drop i) n).1 (firstN ln (pt l 0) (m.drop i) n).2.1 (firstN ln (pt l 0) (m.drop i) n).2.2
  | 0, i, n, h1, h2 => by omega
  | f + 1, i, n, h1, h2 => by
    unfold M.flat_l0 M.flat_l0_step
    rw [cLt_nat]
    by_cases hx : i < m.length
    · rw [w_next (by omega)]
      have hc : (0 : Int) ≤ (0 : Int) ∧ (0 : Int) < (l.length : Int) := by omega
      have he : (cEq n.1 (0 : Int) && (cEq n.2.1 (0 : Int) && (cEq n.2.2 (0 : Int) && true))) = decide (n = (0, 0, 0)) := eq3 n.1 n.2.1 n.2.2 (0, 0, 0)
      simp only [hx, decide_true, if_true, inB hx, toNat_nat, if_pos hc, he, decide_eq_true_eq]
      rw [drop_pt m i hx, firstN_cons]
      split
      · rw [← flat_l0_val m l hm h0 ln k1 f (i + 1) (V.pCross ln (V.pSub (pt m i) (pt l 0))) (by omega) (by omega)]
        rfl
      · rw [← flat_l0_val m l hm h0 ln k1 f (i + 1) n (by omega) (by omega)]
    · have : i = m.length := by omega
      subst this
      simp [firstN]
theorem flat_l1_val {α : Type} (l : List P3) (hl : l.length < 1099511627776) (h0 : 0 < l.length) (n : P3) (k0 : Int → Option α) (k2 : Option α) : ∀ (fuel i : Nat), i ≤ l.length → l.length - i < fuel →
    ∃ j : Int, 0 ≤ j ∧ M.flat_l1 l (l.length : Int) l n.1 n.2.1 n.2.2 k0 k2 fuel (i : Int) = if (l.drop i).all (fun p => V.pDot n (V.pSub p (pt l 0)) == 0) = true then k2 else k0 j
  | 0, i, h1, h2 => by omega
  | f + 1, i, h1, h2 => by
    unfold M.flat_l1 M.flat_l1_step
    rw [cLt_nat]
    by_cases hx : i < l.length
    · obtain ⟨j, hj, ih⟩ := flat_l1_val l hl h0 n k0 k2 f (i + 1) (by omega) (by omega)
      rw [w_next (by omega), ih]
      have hc : (0 : Int) ≤ (0 : Int) ∧ (0 : Int) < (l.length : Int) := by omega
      simp only [hx, decide_true, if_true, inB hx, toNat_nat, if_pos hc, cEq_eq]
      rw [drop_pt l i hx, List.all_cons]
      show ∃ j', 0 ≤ j' ∧ (if (!(V.pDot n (V.pSub (pt l i) (pt l 0)) == 0)) = true then k0 (i : Int) else _) = _
      cases (V.pDot n (V.pSub (pt l i) (pt l 0)) == 0) with
      | true => exact ⟨j, hj, by simp only [Bool.not_true, Bool.false_eq_true, if_false, Bool.true_and]⟩
      | false => exact ⟨i, by omega, by simp⟩
    · have : i = l.length := by omega
      subst this
      exact ⟨0, by omega, by simp⟩
/-- What is asked of points ahead of the question whether they are flat. (By choice.) -/
noncomputable def _root_.Go.Proofs.Ytkjellhkamfciaa.V.ptsB (l : List P3) : Bool := hid (V.apartP l && decide (2 ≤ l.length) && decide (l.length < 1099511627776))
theorem ptsB_of {l : List P3} (h1 : V.apartP l = true) (h2 : 2 ≤ l.length) (h3 : l.length < 1099511627776) : V.ptsB l = true := by
  unfold V.ptsB; rw [hid_eq]; simp [h1, h2, h3]
theorem ptsB_iff {l : List P3} (h : V.ptsB l = true) : (∀ p ∈ l, bigP p 65536 = false) ∧ l.Nodup ∧ 2 ≤ l.length ∧ l.length < 1099511627776 := by
  unfold V.ptsB at h; rw [hid_eq] at h
  simp only [Bool.and_eq_true, V.apartP, decide_eq_true_eq] at h
  exact ⟨h.1.1.1, h.1.1.2, h.1.2, h.2⟩
theorem flat_v {α : Type} (l : List P3) (hg : V.ptsB l = true) (k0 : Bool → Option α) : M.flat l k0 = k0 (V.flatP l) := by
  obtain ⟨g1, g2, g3, g4⟩ := ptsB_iff hg
  unfold M.flat
  rw [if_pos (by omega : (0 : Int) ≤ 1 ∧ (1 : Int) < (l.length : Int)), if_pos (by omega : (0 : Int) ≤ 0 ∧ (0 : Int) < (l.length : Int)), if_pos (by omega : (0 : Int) ≤ 2 ∧ (2 : Int) ≤ (l.length : Int) ∧ (l.length : Int) ≤ (l.length : Int))]
  have ht : List.take (Int.toNat ((l.length : Int) - 2)) (List.drop 2 l) = l.drop 2 := List.take_of_length_le (by rw [List.length_drop]; omega)
  rw [ht]
  have h1 := flat_l0_val (l.drop 2) l (by rw [List.length_drop]; omega) (by omega) (V.pSub (pt l 1) (pt l 0)) (fun (x113 x114 x115 : Int) => M.flat_l1 l (l.length : Int) l x113 x114 x115 (fun (x116 : Int) => k0 !cLe (0 : Int) x116) (k0 !cLe (0 : Int) (-1 : Int)) ((100 : Nat) + l.length + l.length) (0 : Int)) (100 + (l.drop 2).length + l.length) 0 (0, 0, 0) (by omega) (by omega)
  refine Eq.trans h1 ?_
  rw [List.drop_zero]
  obtain ⟨j, hj, h2⟩ := flat_l1_val l g4 (by omega) (firstN (V.pSub (pt l 1) (pt l 0)) (pt l 0) (l.drop 2) (0, 0, 0)) (fun (x116 : Int) => k0 !cLe (0 : Int) x116) (k0 !cLe (0 : Int) (-1 : Int)) (100 + l.length + l.length) 0 (by omega) (by omega)
  refine Eq.trans h2 ?_
  rw [List.drop_zero]
  match l, g1, g2, g3 with
  | a :: b :: m, g1, g2, g3 =>
    have hab : a ≠ b := by intro e; subst e; simp at g2
    have hp := flat_plain a b m g1 hab
    have hf := flatP_iff (a :: b :: m)
    have e : (a :: b :: m).all (fun p => V.pDot (firstN (V.pSub (pt (a :: b :: m) 1) (pt (a :: b :: m) 0)) (pt (a :: b :: m) 0) ((a :: b :: m).drop 2) (0, 0, 0)) (V.pSub p (pt (a :: b :: m) 0)) == 0) = V.flatP (a :: b :: m) := by
      rw [Bool.eq_iff_iff, hf, ← hp, List.all_eq_true]
      simp only [beq_iff_eq]
      rfl
    rw [e]
    simp only [cLe_eq]
    cases V.flatP (a :: b :: m) with
    | true => rfl
    | false => simp [hj]
noncomputable def flat_h {α : Type} (ds : List D) (Q : SV → Hp → Option α) : Option α :=
  dL kP ds fun l ds => dE ds (if V.ptsB l = true then Q (.bool (V.flatP l)) ([]) else none)
theorem flat_h_ok {α : Type} : FnOk E.P 26 (fEnt (α := α) flat_sp flat_h) :=
  fEntR_ok E (look_apart_ok) (exec_sound E E_ok (look_apart_ok) (flat_l1_lps_ok) 400) fun ds Q r h => by
    unfold flat_h at h
    obtain ⟨l, ds, rfl, h1⟩ := dL_inv h
    obtain ⟨rfl, hE⟩ := dE_inv h1
    split at hE
    · rename_i hg
      exact ⟨_, _, hE, fun vs => ⟨_, _, by kernel_rfl, (flat_eq l (vs.headD undef) _).trans (flat_v l hg _)⟩⟩
    · cases hE
noncomputable def look_flat {α : Type} : LookF α := addFn 26 (fEnt flat_sp flat_h) look_apart
theorem look_flat_ok {α : Type} : LookOk E.P (look_flat (α := α)) := addFn_ok flat_h_ok (look_apart_ok)
end Go.Proofs.Ytkjellhkamfciaa.Sx
