/- Texts of the walk, merged. -/
import Derived.Test.YtkjellhkamfciaaMg5
section
/- the document's short directions. -/
namespace Go.Proofs.Ytkjellhkamfciaa.Sx
open Go
set_option maxRecDepth 20000
set_option linter.unusedVariables false
set_option linter.unusedSimpArgs false
noncomputable abbrev dshort_S1 (y1 y2 y3 y4 y5 y6 : Int) : St := St.mk (none :: none :: some (SV.ptr (nat_lit 0) (nat_lit 0)) :: some (SV.ptr (nat_lit 1) (nat_lit 0)) :: nn 47 ([])) [.cells [SV.int .i64 y1, SV.int .i64 y2, SV.int .i64 y3] (nat_lit 23), .cells [SV.int .i64 y4, SV.int .i64 y5, SV.int .i64 y6] (nat_lit 23)]
noncomputable abbrev dshort_S2 : St := St.mk (none :: none :: some (SV.ptr (nat_lit 0) (nat_lit 0)) :: some (SV.ptr (nat_lit 1) (nat_lit 0)) :: nn 47 ([])) [.cells [SV.int .i64 (0 : Int), SV.int .i64 (0 : Int), SV.int .i64 (0 : Int)] (nat_lit 23), .cells [SV.int .i64 (0 : Int), SV.int .i64 (0 : Int), SV.int .i64 (0 : Int)] (nat_lit 23)]
noncomputable def _root_.Go.Proofs.Ytkjellhkamfciaa.M.dshort_l0_step {α : Type} (kn : Int → Int → Int → Option α) (k1 : Int → Int → Int → Option α) (x9 : Int) (x10 : Int) (x11 : Int) : Option α :=
  if cLt (1048576 : Int) (V.dsize_r0 x9) = true then kn (IntKind.wrap .i64 (Int.tdiv x9 (2 : Int))) (IntKind.wrap .i64 (Int.tdiv x10 (2 : Int))) (IntKind.wrap .i64 (Int.tdiv x11 (2 : Int)))
else if cLt (1048576 : Int) (V.dsize_r0 x10) = true then kn (IntKind.wrap .i64 (Int.tdiv x9 (2 : Int))) (IntKind.wrap .i64 (Int.tdiv x10 (2 : Int))) (IntKind.wrap .i64 (Int.tdiv x11 (2 : Int))) else if cLt (1048576 : Int) (V.dsize_r0 x11) = true then kn (IntKind.wrap .i64 (Int.tdiv x9 (2 : Int))) (IntKind.wrap .i64 (Int.tdiv x10 (2 : Int))) (IntKind.wrap .i64 (Int.tdiv x11 (2 : Int))) else k1 x9 x10 x11
noncomputable def _root_.Go.Proofs.Ytkjellhkamfciaa.M.dshort_l0 {α : Type} (k1 : Int → Int → Int → Option α) : Nat → Int → Int → Int → Option α
  | 0, _, _, _ => none
  | n + 1, x9, x10, x11 => M.dshort_l0_step (M.dshort_l0 k1 n) k1 x9 x10 x11
theorem dshort_l0_step_eq {α : Type} (x6 : Int) (x7 : Int) (x8 : Int) (x9 : Int) (x10 : Int) (x11 : Int) (Q : Ex → St → Option α) : (loopStep E (exec E look_dbare noLps 400) 22 [false, false, true, true, true] 0 (codeAt E.P 22 [false, false, true, true, true])) (dshort_S1 x6 x7 x8 x9 x10 x11) Q = M.dshort_l0_step (fun (x15 : Int) (x16 : Int) (x17 : Int) => Q .normal (dshort_S1 x6 x7 x8 x15 x16 x17)) (fun (x12 : Int) (x13 : Int) (x14 : Int) => Q (.exit 0) (dshort_S1 x6 x7 x8 x12 x13 x14)) x9 x10 x11 := by kernel_rfl
theorem dshort_l0_iter {α : Type} (x6 : Int) (x7 : Int) (x8 : Int) (Q : Ex → St → Option α) : ∀ (n : Nat) (x9 : Int) (x10 : Int) (x11 : Int), iter (loopStep E (exec E look_dbare noLps 400) 22 [false, false, true, true, true] 0 (codeAt E.P 22 [false, false, true, true, true])) n (dshort_S1 x6 x7 x8 x9 x10 x11) Q = M.dshort_l0 (fun (x12 : Int) (x13 : Int) (x14 : Int) => Q (.exit 0) (dshort_S1 x6 x7 x8 x12 x13 x14)) n x9 x10 x11
  | 0, _, _, _ => rfl
  | n + 1, x9, x10, x11 => (dshort_l0_step_eq x6 x7 x8 x9 x10 x11 (iterK (loopStep E (exec E look_dbare noLps 400) 22 [false, false, true, true, true] 0 (codeAt E.P 22 [false, false, true, true, true])) n Q)).trans (congrArg (fun kn => M.dshort_l0_step kn (fun (x12 : Int) (x13 : Int) (x14 : Int) => Q (.exit 0) (dshort_S1 x6 x7 x8 x12 x13 x14)) x9 x10 x11) (funext fun x9 => funext fun x10 => funext fun x11 => dshort_l0_iter x6 x7 x8 Q n x9 x10 x11))
noncomputable def dshort_l0_go {α : Type} (ds : List D) (Q : Ex → St → Option α) : Option α :=
  dI ds fun x6 ds => dI ds fun x7 ds => dI ds fun x8 ds => dI ds fun x9 ds => dI ds fun x10 ds => dI ds fun x11 ds => dE ds (M.dshort_l0 (fun (x12 : Int) (x13 : Int) (x14 : Int) => Q (.exit 0) (dshort_S1 x6 x7 x8 x12 x13 x14)) (100) x9 x10 x11)
theorem dshort_l0_ok {α : Type} : LoopOk E.P 22 [false, false, true, true, true] 0 (lEnt (α := α) (dshort_S2) dshort_l0_go) :=
  lEnt_ok E (exec_sound E E_ok (look_dbare_ok) (noLps_ok _) 400) fun ds Q r h S hS => by
    unfold dshort_l0_go at h
    obtain ⟨x6, ds, rfl, h1⟩ := dI_inv h
    obtain ⟨x7, ds, rfl, h2⟩ := dI_inv h1
    obtain ⟨x8, ds, rfl, h3⟩ := dI_inv h2
    obtain ⟨x9, ds, rfl, h4⟩ := dI_inv h3
    obtain ⟨x10, ds, rfl, h5⟩ := dI_inv h4
    obtain ⟨x11, ds, rfl, h6⟩ := dI_inv h5
    obtain ⟨rfl, hE⟩ := dE_inv h6
    have e : fillS (dshort_S2) [.i x6, .i x7, .i x8, .i x9, .i x10, .i x11] = some (dshort_S1 x6 x7 x8 x9 x10 x11) := by kernel_rfl
    rw [e] at hS
    cases hS
    exact ⟨_, (dshort_l0_iter x6 x7 x8 Q _ x9 x10 x11).trans hE⟩
noncomputable def dshort_l0_lps {α : Type} : LookL α := addLp 22 [false, false, true, true, true] 0 (lEnt (dshort_S2) dshort_l0_go) noLps
theorem dshort_l0_lps_ok {α : Type} : LoopsOk E.P (dshort_l0_lps (α := α)) := addLp_ok dshort_l0_ok (noLps_ok _)

noncomputable def _root_.Go.Proofs.Ytkjellhkamfciaa.M.dshort {α : Type} (ax : Int) (ay : Int) (az : Int) (k0 : Int → Int → Int → Option α) : Option α :=
  if (!V.shwithin_r0 ax (-4398046511104 : Int) (4398046511104 : Int)) = true then k0 (0 : Int) (0 : Int) (0 : Int)
else
  if (!V.shwithin_r0 ay (-4398046511104 : Int) (4398046511104 : Int)) = true then k0 (0 : Int) (0 : Int) (0 : Int)
  else
    if (!V.shwithin_r0 az (-4398046511104 : Int) (4398046511104 : Int)) = true then k0 (0 : Int) (0 : Int) (0 : Int)
    else if V.brB (ax, ay, az) = true then M.dshort_l0 (fun (x18 x19 x20 : Int) ↦ if V.brB (x18, x19, x20) = true then k0 (Prod.fst (V.pBare (x18, x19, x20))) (Prod.fst (Prod.snd (V.pBare (x18, x19, x20)))) (Prod.snd (Prod.snd (V.pBare (x18, x19, x20)))) else none) (100 : Nat) (Prod.fst (V.pBare (ax, ay, az))) (Prod.fst (Prod.snd (V.pBare (ax, ay, az)))) (Prod.snd (Prod.snd (V.pBare (ax, ay, az)))) else none
theorem dshort_eq {α : Type} (ax : Int) (ay : Int) (az : Int) (Q : SV → Hp → Option α) : callI E look_dbare (exec E look_dbare dshort_l0_lps 400) 22 ([SV.agg [SV.int .i64 ax, SV.int .i64 ay, SV.int .i64 az]]) ([]) Q = M.dshort ax ay az (fun (x21 : Int) (x22 : Int) (x23 : Int) => Q (SV.agg [SV.int .i64 x21, SV.int .i64 x22, SV.int .i64 x23]) ([])) := by kernel_rfl
def dshort_sp : List AS := [.val (.agg [.int .i64 0, .int .i64 0, .int .i64 0])]
noncomputable def dshort_go {α : Type} (ds : List D) (Q : SV → Hp → Option α) : Option α :=
  dI ds fun ax ds => dI ds fun ay ds => dI ds fun az ds => dE ds (M.dshort ax ay az (fun (x21 : Int) (x22 : Int) (x23 : Int) => Q (SV.agg [SV.int .i64 x21, SV.int .i64 x22, SV.int .i64 x23]) ([])))
theorem dshort_ok {α : Type} : FnOk E.P 22 (fEnt (α := α) dshort_sp dshort_go) :=
  fEnt_ok E (look_dbare_ok) (exec_sound E E_ok (look_dbare_ok) (dshort_l0_lps_ok) 400) fun ds Q r h => by
    unfold dshort_go at h
    obtain ⟨ax, ds, rfl, h1⟩ := dI_inv h
    obtain ⟨ay, ds, rfl, h2⟩ := dI_inv h1
    obtain ⟨az, ds, rfl, h3⟩ := dI_inv h2
    obtain ⟨rfl, hE⟩ := dE_inv h3
    exact ⟨[SV.agg [SV.int .i64 ax, SV.int .i64 ay, SV.int .i64 az]], [], fun vs => by kernel_rfl, (dshort_eq ax ay az Q).trans hE⟩
theorem bigP_abs (p : P3) (n : Nat) : bigP p (n : Int) = (decide ((n : Int) < (p.1.natAbs : Int)) || (decide ((n : Int) < (p.2.1.natAbs : Int)) || decide ((n : Int) < (p.2.2.natAbs : Int)))) := by
  rw [Bool.eq_iff_iff]
  simp only [bigP, Bool.or_eq_true, decide_eq_true_eq]
  omega
theorem dshort_l0_val {α : Type} (k1 : Int → Int → Int → Option α) : ∀ (k fuel : Nat) (p : P3), bigP p (lim k) = false → bigP p 4398046511104 = false → k < fuel →
    M.dshort_l0 k1 fuel p.1 p.2.1 p.2.2 = k1 (shrinkP k p).1 (shrinkP k p).2.1 (shrinkP k p).2.2
  | k, 0, p, h, h2, h3 => by omega
  | k, f + 1, p, h, h2, h3 => by
    unfold M.dshort_l0 M.dshort_l0_step
    have h4 := bigP_false h2
    have h5 := bigP_false (bigP_div 2 h2)
    simp only [divP] at h5
    rw [dsz_abs (by omega), dsz_abs (by omega), dsz_abs (by omega), IntWalk.i64_in _ (by omega : -9223372036854775808 ≤ Int.tdiv p.1 2 ∧ _), IntWalk.i64_in _ (by omega : -9223372036854775808 ≤ Int.tdiv p.2.1 2 ∧ _), IntWalk.i64_in _ (by omega : -9223372036854775808 ≤ Int.tdiv p.2.2 2 ∧ _)]
    simp only [cLt_eq]
    have hb := bigP_abs p 1048576
    simp only [Int.cast_ofNat_Int] at hb
    have step : ∀ (X Y : Option α), (if decide ((1048576 : Int) < (p.1.natAbs : Int)) = true then X else if decide ((1048576 : Int) < (p.2.1.natAbs : Int)) = true then X else if decide ((1048576 : Int) < (p.2.2.natAbs : Int)) = true then X else Y) = if bigP p 1048576 = true then X else Y := by
      intro X Y
      rw [show bigP p 1048576 = (decide ((1048576 : Int) < (p.1.natAbs : Int)) || (decide ((1048576 : Int) < (p.2.1.natAbs : Int)) || decide ((1048576 : Int) < (p.2.2.natAbs : Int)))) from hb]
      cases decide ((1048576 : Int) < (p.1.natAbs : Int)) <;> cases decide ((1048576 : Int) < (p.2.1.natAbs : Int)) <;> cases decide ((1048576 : Int) < (p.2.2.natAbs : Int)) <;> rfl
    rw [step]
    by_cases hb : bigP p 1048576 = true
    · rw [if_pos hb]
      cases k with
      | zero => exact absurd hb (by rw [← lim_zero, h]; decide)
      | succ k =>
        have ih := dshort_l0_val k1 k f (divP p 2) (halved h) (bigP_div 2 h2) (by omega)
        have e : shrinkP (k + 1) p = shrinkP k (divP p 2) := by simp [shrinkP, hb]
        rw [e, ← ih]
        rfl
    · rw [if_neg hb, shrink_stop k (by simpa using hb)]
theorem dshort_v {α : Type} (ax ay az : Int) (k0 : Int → Int → Int → Option α) : M.dshort ax ay az k0 = k0 (V.pShort (ax, ay, az)).1 (V.pShort (ax, ay, az)).2.1 (V.pShort (ax, ay, az)).2.2 := by
  unfold M.dshort V.pShort
  rw [hid_eq]
  simp only [within_eq]
  unfold shortP
  by_cases h1 : bigP (ax, ay, az) 4398046511104 = true
  · rw [if_pos h1]
    have : ¬ (inZ ax (-4398046511104) 4398046511104 = true ∧ inZ ay (-4398046511104) 4398046511104 = true ∧ inZ az (-4398046511104) 4398046511104 = true) := by
      simp [bigP] at h1; simp [inZ]; omega
    cases a : inZ ax (-4398046511104) 4398046511104 <;> cases b : inZ ay (-4398046511104) 4398046511104 <;> cases c : inZ az (-4398046511104) 4398046511104 <;> simp_all
  · have h1' : bigP (ax, ay, az) 4398046511104 = false := by simpa using h1
    have hf := bigP_false h1'
    simp only at hf
    have a : inZ ax (-4398046511104) 4398046511104 = true := by simp [inZ]; omega
    have b : inZ ay (-4398046511104) 4398046511104 = true := by simp [inZ]; omega
    have c : inZ az (-4398046511104) 4398046511104 = true := by simp [inZ]; omega
    rw [a, b, c, if_neg (by decide), if_neg (by decide), if_neg (by decide), if_neg h1, if_pos (brB_iff.2 h1')]
    have hs : bigP (bareP (ax, ay, az)) 4398046511104 = false := bigP_div _ h1'
    have e0 : V.pBare (ax, ay, az) = bareP (ax, ay, az) := hid_eq _
    rw [e0]
    have hl := dshort_l0_val (fun (x21 x22 x23 : Int) => if V.brB (x21, x22, x23) = true then k0 (V.pBare (x21, x22, x23)).1 (V.pBare (x21, x22, x23)).2.1 (V.pBare (x21, x22, x23)).2.2 else none) 64 100 (bareP (ax, ay, az)) (by
      have := bigP_false hs
      apply bigP_eq_false
      have e := lim_64
      omega) hs (by omega)
    refine Eq.trans hl ?_
    have e1 : V.pBare (shrinkP 64 (bareP (ax, ay, az))) = bareP (shrinkP 64 (bareP (ax, ay, az))) := hid_eq _
    show (if V.brB (shrinkP 64 (bareP (ax, ay, az))) = true then k0 (V.pBare (shrinkP 64 (bareP (ax, ay, az)))).1 (V.pBare (shrinkP 64 (bareP (ax, ay, az)))).2.1 (V.pBare (shrinkP 64 (bareP (ax, ay, az)))).2.2 else none) = _
    rw [if_pos (brB_iff.2 (shrink_big _ _ _ hs)), e1]
noncomputable def dshort_h {α : Type} (ds : List D) (Q : SV → Hp → Option α) : Option α :=
  dI ds fun ax ds => dI ds fun ay ds => dI ds fun az ds => dE ds (Q (.agg [.int .i64 (V.pShort (ax, ay, az)).1, .int .i64 (V.pShort (ax, ay, az)).2.1, .int .i64 (V.pShort (ax, ay, az)).2.2]) ([]))
theorem dshort_h_ok {α : Type} : FnOk E.P 22 (fEnt (α := α) dshort_sp dshort_h) :=
  fEnt_ok E (look_dbare_ok) (exec_sound E E_ok (look_dbare_ok) (dshort_l0_lps_ok) 400) fun ds Q r h => by
    unfold dshort_h at h
    obtain ⟨ax, ds, rfl, h1⟩ := dI_inv h
    obtain ⟨ay, ds, rfl, h2⟩ := dI_inv h1
    obtain ⟨az, ds, rfl, h3⟩ := dI_inv h2
    obtain ⟨rfl, hE⟩ := dE_inv h3
    exact ⟨[SV.agg [SV.int .i64 ax, SV.int .i64 ay, SV.int .i64 az]], [], fun vs => by kernel_rfl, (dshort_eq ax ay az Q).trans ((dshort_v ax ay az _).trans hE)⟩
noncomputable def look_dshort {α : Type} : LookF α := addFn 22 (fEnt dshort_sp dshort_h) look_dbare
theorem look_dshort_ok {α : Type} : LookOk E.P (look_dshort (α := α)) := addFn_ok dshort_h_ok (look_dbare_ok)
end Go.Proofs.Ytkjellhkamfciaa.Sx
end

section
/- shape, plainly: short directions; tidy cores; the order of points; weights. -/
namespace Go.Proofs.Ytkjellhkamfciaa.Sx
open Go
set_option linter.unusedVariables false
set_option linter.unusedSimpArgs false
def negT (p : P3) : P3 := (-p.1, -p.2.1, -p.2.2)
theorem gcd3_neg (p : P3) : gcd3 (negT p) = gcd3 p := by simp [gcd3, negT]
theorem divP_neg (p : P3) (n : Int) : divP (negT p) n = negT (divP p n) := by simp [divP, negT, Int.neg_tdiv]
theorem bareP_neg (p : P3) : bareP (negT p) = negT (bareP p) := by unfold bareP; rw [gcd3_neg, divP_neg]
theorem bigP_neg (p : P3) (n : Int) : bigP (negT p) n = bigP p n := by
  obtain ⟨x, y, z⟩ := p
  show (decide (n < -x) || decide (-x < -n) || decide (n < -y) || decide (-y < -n) || decide (n < -z) || decide (-z < -n)) = (decide (n < x) || decide (x < -n) || decide (n < y) || decide (y < -n) || decide (n < z) || decide (z < -n))
  rw [Bool.eq_iff_iff]; simp only [Bool.or_eq_true, decide_eq_true_eq]; omega
theorem shrinkP_neg : ∀ (n : Nat) (p : P3), shrinkP n (negT p) = negT (shrinkP n p)
  | 0, p => rfl
  | n + 1, p => by
    simp only [shrinkP, bigP_neg]
    split
    · rw [divP_neg, shrinkP_neg n]
    · rfl
theorem shortP_neg (p : P3) : shortP (negT p) = negT (shortP p) := by
  unfold shortP
  rw [bigP_neg]
  split
  · rfl
  · rw [bareP_neg, shrinkP_neg, bareP_neg]
theorem gcd3_bare {p : P3} (h : p ≠ (0, 0, 0)) : gcd3 (bareP p) = 1 := by
  have hp := gcd3_pos h
  have d1 : gcd3 p ∣ p.1.natAbs := Nat.dvd_trans (Nat.gcd_dvd_left _ _) (Nat.gcd_dvd_left _ _)
  have d2 : gcd3 p ∣ p.2.1.natAbs := Nat.dvd_trans (Nat.gcd_dvd_left _ _) (Nat.gcd_dvd_right _ _)
  have d3 : gcd3 p ∣ p.2.2.natAbs := Nat.gcd_dvd_right _ _
  have e : ∀ x : Int, (x.tdiv (gcd3 p : Int)).natAbs = x.natAbs / gcd3 p := fun x => by rw [Int.natAbs_tdiv]; rfl
  have h1 : gcd3 (bareP p) = Nat.gcd (Nat.gcd (p.1.natAbs / gcd3 p) (p.2.1.natAbs / gcd3 p)) (p.2.2.natAbs / gcd3 p) := by
    show Nat.gcd (Nat.gcd (p.1.tdiv (gcd3 p : Int)).natAbs (p.2.1.tdiv (gcd3 p : Int)).natAbs) (p.2.2.tdiv (gcd3 p : Int)).natAbs = _
    rw [e, e, e]
  rw [h1, Nat.gcd_div d1 d2, Nat.gcd_div (Nat.dvd_gcd d1 d2) d3]
  exact Nat.div_self hp
theorem bareP_one {p : P3} (h : gcd3 p = 1) : bareP p = p := by
  unfold bareP divP
  rw [h]
  simp
theorem bareP_zero : bareP (0, 0, 0) = (0, 0, 0) := by decide
theorem shortP_zero : shortP (0, 0, 0) = (0, 0, 0) := by decide +kernel
/-- What is short is bare and not great, or noughts. -/
theorem shortP_form (p : P3) : shortP p = (0, 0, 0) ∨ (gcd3 (shortP p) = 1 ∧ bigP (shortP p) 1048576 = false ∧ p ≠ (0, 0, 0) ∧ bigP p 4398046511104 = false) := by
  unfold shortP
  split
  · exact .inl rfl
  · rename_i h
    have h' : bigP p 4398046511104 = false := by simpa using h
    by_cases h0 : p = (0, 0, 0)
    · subst h0
      exact .inl shortP_zero
    · have h1 := divP_ne h0
      have h2 := shrink_ne 64 _ h1
      refine .inr ⟨gcd3_bare h2, bigP_div _ ?_, h0, h'⟩
      refine shrink_small 64 64 _ ?_ (Nat.le_refl _)
      have h3 := bigP_false (bigP_div (gcd3 p) h')
      apply bigP_eq_false
      have e := lim_64
      unfold bareP
      omega
theorem big_mono {p : P3} {m n : Int} (h : bigP p m = false) (hmn : m ≤ n) : bigP p n = false := by
  have := bigP_false h
  apply bigP_eq_false; omega
theorem shortP_stay {p : P3} (h1 : gcd3 p = 1) (h2 : bigP p 1048576 = false) : shortP p = p := by
  unfold shortP
  rw [if_neg (by rw [big_mono h2 (by omega)]; decide), bareP_one h1, shrink_stop 64 h2, bareP_one h1]
theorem shortP_idem (p : P3) : shortP (shortP p) = shortP p := by
  rcases shortP_form p with h | ⟨h1, h2, _⟩
  · rw [h, shortP_zero]
  · exact shortP_stay h1 h2
theorem shortP_small (p : P3) : bigP (shortP p) 1048576 = false := by
  rcases shortP_form p with h | ⟨_, h2, _⟩
  · rw [h]; decide
  · exact h2
theorem cEq_self (a : Int) : cEq a a = true := by rw [cEq_eq]; simp
/-! What stays through all triples of a hull. -/
theorem kF_ind (Q : St2 → Prop) (l : List P3) (i j : Nat) (h : ∀ k st, j < k → k < l.length → Q st → Q (trip l i j k st)) : ∀ (m k : Nat) (st : St2), j < k → k + m ≤ l.length → Q st → Q (kF l i j m k st)
  | 0, k, st, _, _, hq => hq
  | m + 1, k, st, hk, hm, hq => kF_ind Q l i j h m (k + 1) _ (by omega) (by omega) (h k st hk (by omega) hq)
theorem jF_ind (Q : St2 → Prop) (l : List P3) (i : Nat) (h : ∀ j k st, i < j → j < k → k < l.length → Q st → Q (trip l i j k st)) : ∀ (m j : Nat) (st : St2), i < j → j + m ≤ l.length → Q st → Q (jF l i m j st)
  | 0, j, st, _, _, hq => hq
  | m + 1, j, st, hj, hm, hq => jF_ind Q l i h m (j + 1) _ (by omega) (by omega) (kF_ind Q l i j (fun k st hk hl hq => h j k st hj hk hl hq) _ _ _ (by omega) (by omega) hq)
theorem iF_ind (Q : St2 → Prop) (l : List P3) (h : ∀ i j k st, i < j → j < k → k < l.length → Q st → Q (trip l i j k st)) : ∀ (m i : Nat) (st : St2), i + m ≤ l.length → Q st → Q (iF l m i st)
  | 0, i, st, _, hq => hq
  | m + 1, i, st, hm, hq => iF_ind Q l h m (i + 1) _ (by omega) (jF_ind Q l i (fun j k st hj hk hl hq => h i j k st hj hk hl hq) _ _ _ (by omega) (by omega) hq)
theorem facesP_ind (Q : St2 → Prop) (l : List P3) (h : ∀ i j k st, i < j → j < k → k < l.length → Q st → Q (trip l i j k st)) (h0 : Q ([], [])) : Q (facesP l) :=
  iF_ind Q l h _ _ _ (by omega) h0
/-- Which triples bear an axis. -/
def Sup (l : List P3) (i j k : Nat) : Prop := triN l i j k ≠ (0, 0, 0) ∧ triS l i j k ≠ 0
theorem trip_mem (l : List P3) (i j k : Nat) (st : St2) (a : P3) : a ∈ (trip l i j k st).1 ↔ a ∈ st.1 ∨ (Sup l i j k ∧ a = triA l i j k) := by
  unfold trip Sup
  by_cases h1 : triN l i j k = (0, 0, 0)
  · simp [h1]
  · by_cases h2 : triS l i j k = 0
    · simp [h1, h2]
    · simp only [h1, h2, if_false, not_false_eq_true, ne_eq, and_self, true_and]
      split
      · constructor
        · exact .inl
        · rintro (h | rfl)
          · exact h
          · assumption
      · simp
theorem kF_mem (l : List P3) (i j : Nat) (a : P3) : ∀ (m k : Nat) (st : St2), a ∈ (kF l i j m k st).1 ↔ a ∈ st.1 ∨ ∃ k', k ≤ k' ∧ k' < k + m ∧ Sup l i j k' ∧ a = triA l i j k'
  | 0, k, st => by
    simp only [kF]
    constructor
    · exact .inl
    · rintro (h | ⟨k', h1, h2, _⟩)
      · exact h
      · omega
  | m + 1, k, st => by
    simp only [kF]
    rw [kF_mem l i j a m (k + 1), trip_mem]
    constructor
    · rintro ((h | ⟨h1, h2⟩) | ⟨k', h1, h2, h3⟩)
      · exact .inl h
      · exact .inr ⟨k, Nat.le_refl _, by omega, h1, h2⟩
      · exact .inr ⟨k', by omega, by omega, h3⟩
    · rintro (h | ⟨k', h1, h2, h3⟩)
      · exact .inl (.inl h)
      · by_cases e : k' = k
        · subst e; exact .inl (.inr h3)
        · exact .inr ⟨k', by omega, by omega, h3⟩
theorem jF_mem (l : List P3) (i : Nat) (a : P3) : ∀ (m j : Nat) (st : St2), a ∈ (jF l i m j st).1 ↔ a ∈ st.1 ∨ ∃ j' k', j ≤ j' ∧ j' < j + m ∧ j' < k' ∧ k' < l.length ∧ Sup l i j' k' ∧ a = triA l i j' k'
  | 0, j, st => by
    simp only [jF]
    constructor
    · exact .inl
    · rintro (h | ⟨j', k', h1, h2, _⟩)
      · exact h
      · omega
  | m + 1, j, st => by
    simp only [jF]
    rw [jF_mem l i a m (j + 1), kF_mem]
    constructor
    · rintro ((h | ⟨k', h1, h2, h3⟩) | ⟨j', k', h1, h2, h3⟩)
      · exact .inl h
      · exact .inr ⟨j, k', Nat.le_refl _, by omega, by omega, by omega, h3⟩
      · exact .inr ⟨j', k', by omega, by omega, h3⟩
    · rintro (h | ⟨j', k', h1, h2, h3, h4, h5⟩)
      · exact .inl (.inl h)
      · by_cases e : j' = j
        · subst e; exact .inl (.inr ⟨k', by omega, by omega, h5⟩)
        · exact .inr ⟨j', k', by omega, by omega, h3, h4, h5⟩
theorem iF_mem (l : List P3) (a : P3) : ∀ (m i : Nat) (st : St2), a ∈ (iF l m i st).1 ↔ a ∈ st.1 ∨ ∃ i' j' k', i ≤ i' ∧ i' < i + m ∧ i' < j' ∧ j' < k' ∧ k' < l.length ∧ Sup l i' j' k' ∧ a = triA l i' j' k'
  | 0, i, st => by
    simp only [iF]
    constructor
    · exact .inl
    · rintro (h | ⟨i', j', k', h1, h2, _⟩)
      · exact h
      · omega
  | m + 1, i, st => by
    simp only [iF]
    rw [iF_mem l a m (i + 1), jF_mem]
    constructor
    · rintro ((h | ⟨j', k', h1, h2, h3⟩) | ⟨i', j', k', h1, h2, h3⟩)
      · exact .inl h
      · exact .inr ⟨i, j', k', Nat.le_refl _, by omega, by omega, h3⟩
      · exact .inr ⟨i', j', k', by omega, by omega, h3⟩
    · rintro (h | ⟨i', j', k', h1, h2, h3, h4, h5⟩)
      · exact .inl (.inl h)
      · by_cases e : i' = i
        · subst e; exact .inl (.inr ⟨j', k', by omega, by omega, h4, h5⟩)
        · exact .inr ⟨i', j', k', by omega, by omega, h3, h4, h5⟩
theorem facesP_mem (l : List P3) (a : P3) : a ∈ (facesP l).1 ↔ ∃ i j k, i < j ∧ j < k ∧ k < l.length ∧ Sup l i j k ∧ a = triA l i j k := by
  unfold facesP
  rw [iF_mem]
  constructor
  · rintro (h | ⟨i, j, k, h1, h2, h3⟩)
    · simp at h
    · exact ⟨i, j, k, h3⟩
  · rintro ⟨i, j, k, h1, h2, h3, h4⟩
    exact .inr ⟨i, j, k, by omega, by omega, h1, h2, h3, h4⟩
/-! Neat directions. -/
def Neat (p : P3) : Prop := p ≠ (0, 0, 0) ∧ shortP p = p ∧ bigP p 1048576 = false
theorem short_neat {p : P3} (h0 : p ≠ (0, 0, 0)) (hb : bigP p 4398046511104 = false) : Neat (shortP p) := by
  refine ⟨?_, shortP_idem p, shortP_small p⟩
  unfold shortP
  rw [if_neg (by rw [hb]; decide)]
  exact divP_ne (shrink_ne 64 _ (divP_ne h0))
theorem Sm.big {p : P3} {n m : Int} (h : Sm p n) (hnm : n ≤ m) : bigP p m = false := by
  unfold Sm at h; exact bigP_eq_false (by omega)
theorem Sm.mono {p : P3} {n m : Int} (h : Sm p n) (hnm : n ≤ m) : Sm p m := by unfold Sm at *; omega
theorem sub3_ne {a b : P3} (h : a ≠ b) : sub3 a b ≠ (0, 0, 0) := by
  intro e
  apply h
  simp only [zero3, sub3] at e
  obtain ⟨a1, a2, a3⟩ := a
  obtain ⟨b1, b2, b3⟩ := b
  simp only at e
  rw [show a1 = b1 by omega, show a2 = b2 by omega, show a3 = b3 by omega]
structure Pts (l : List P3) : Prop where
  sm : ∀ p ∈ l, Sm p 65536
  nd : l.Nodup
theorem pts_of {l : List P3} (h : V.apartP l = true) : Pts l := by
  simp only [V.apartP, decide_eq_true_eq] at h
  exact ⟨fun p hp => sm_of (h.1 p hp), h.2⟩
theorem Pts.ne {l : List P3} (h : Pts l) {i j : Nat} (hij : i < j) (hj : j < l.length) : pt l j ≠ pt l i := by
  rw [pt_eq l i (by omega), pt_eq l j hj]
  intro e
  have := (List.getElem_inj h.nd).1 e
  omega
theorem Pts.at {l : List P3} (h : Pts l) {i : Nat} (hi : i < l.length) : Sm (pt l i) 65536 := h.sm _ (pt_mem l i hi)
theorem Pts.sub {l : List P3} (h : Pts l) {i j : Nat} (hi : i < l.length) (hj : j < l.length) : V.pSub (pt l j) (pt l i) = sub3 (pt l j) (pt l i) ∧ Sm (sub3 (pt l j) (pt l i)) 131072 := sub_sm (h.at hj) (h.at hi)
theorem Pts.triN {l : List P3} (h : Pts l) {i j k : Nat} (hi : i < l.length) (hj : j < l.length) (hk : k < l.length) :
    triN l i j k = cr3 (sub3 (pt l j) (pt l i)) (sub3 (pt l k) (pt l i)) ∧ Sm (cr3 (sub3 (pt l j) (pt l i)) (sub3 (pt l k) (pt l i))) 34359738368 := by
  obtain ⟨e1, s1⟩ := h.sub hi hj
  obtain ⟨e2, s2⟩ := h.sub hi hk
  unfold Sx.triN
  rw [e1, e2]
  exact cr_sm s1 s2
theorem negP_eq {p : P3} (h : bigP p 1048576 = false) : negP p = negT p := by
  have := bigP_false h
  unfold negP V.pSub negT
  simp only
  rw [IntWalk.i64_in _ (by omega), IntWalk.i64_in _ (by omega), IntWalk.i64_in _ (by omega)]
  simp
theorem sideP_cases (l : List P3) (n a : P3) : V.sideP l n a = 1 ∨ V.sideP l n a = -1 ∨ V.sideP l n a = 0 := by
  unfold V.sideP
  split
  · exact .inl rfl
  · split
    · exact .inr (.inl rfl)
    · exact .inr (.inr rfl)
theorem mulP_one {n : P3} (h : Sm n 34359738368) : mulP 1 n = n := by
  unfold Sm at h; unfold mulP
  simp only [Int.one_mul]
  rw [IntWalk.i64_in _ (by omega), IntWalk.i64_in _ (by omega), IntWalk.i64_in _ (by omega)]
theorem mulP_neg {n : P3} (h : Sm n 34359738368) : mulP (-1) n = negT n := by
  unfold Sm at h; unfold mulP negT
  simp only [Int.neg_mul, Int.one_mul]
  rw [IntWalk.i64_in _ (by omega), IntWalk.i64_in _ (by omega), IntWalk.i64_in _ (by omega)]
theorem Sm.neg {p : P3} {n : Int} (h : Sm p n) : Sm (negT p) n := by
  unfold Sm at *; simp only [negT]; omega
theorem negT_ne {p : P3} (h : p ≠ (0, 0, 0)) : negT p ≠ (0, 0, 0) := by
  intro e; apply h
  rw [zero3] at e ⊢
  simp only [negT] at e
  omega
/-- An axis is neat. -/
theorem triA_neat {l : List P3} (h : Pts l) {i j k : Nat} (hi : i < l.length) (hj : j < l.length) (hk : k < l.length) (hs : Sup l i j k) : Neat (triA l i j k) := by
  obtain ⟨e, s⟩ := h.triN hi hj hk
  unfold triA
  rw [short_eq']
  rcases sideP_cases l (triN l i j k) (pt l i) with hc | hc | hc
  · rw [show triS l i j k = 1 from hc, mulP_one (by rw [e]; exact s)]
    exact short_neat hs.1 (by rw [e]; exact s.big (by omega))
  · rw [show triS l i j k = -1 from hc, mulP_neg (by rw [e]; exact s)]
    exact short_neat (negT_ne hs.1) (by rw [e]; exact s.neg.big (by omega))
  · exact absurd hc hs.2
theorem triE_neat {l : List P3} (h : Pts l) {i j k : Nat} (hij : i < j) (hjk : j < k) (hk : k < l.length) : ∀ e ∈ triE l i j k, Neat (V.pShort e) := by
  have key : ∀ a b, a < b → b < l.length → Neat (V.pShort (V.pSub (pt l b) (pt l a))) := by
    intro a b hab hb
    obtain ⟨e1, s1⟩ := h.sub (i := a) (j := b) (by omega) hb
    rw [short_eq', e1]
    exact short_neat (sub3_ne (h.ne hab hb)) (s1.big (by omega))
  intro e he
  simp only [triE, List.mem_cons, List.not_mem_nil, or_false] at he
  rcases he with rfl | rfl | rfl
  · exact key i j hij (by omega)
  · exact key i k (by omega) hk
  · exact key j k hjk hk
theorem negT_negT (p : P3) : negT (negT p) = p := by simp [negT]
theorem negT_self {p : P3} (h : p ≠ (0, 0, 0)) : p ≠ negT p := by
  intro e
  apply h
  have := congrArg (fun q : P3 => q.1) e
  have h2 := congrArg (fun q : P3 => q.2.1) e
  have h3 := congrArg (fun q : P3 => q.2.2) e
  simp only [negT] at this h2 h3
  exact zero3.2 (by omega)
/-- Lists of edges: neat, none twice, none the other way round. -/
structure EOk (es : List P3) : Prop where
  neat : ∀ e ∈ es, Neat e
  nd : es.Nodup
  neg : ∀ e ∈ es, negT e ∉ es
theorem EOk.add {es : List P3} (h : EOk es) {e : P3} (he : Neat (V.pShort e)) : EOk (addE es e) := by
  unfold addE
  split
  · exact h
  · rename_i hc
    rw [not_or, negP_eq he.2.2] at hc
    generalize V.pShort e = d at *
    refine ⟨?_, ?_, ?_⟩
    · intro x hx
      rcases List.mem_append.1 hx with hx | hx
      · exact h.neat x hx
      · rw [List.mem_singleton.1 hx]; exact he
    · rw [List.nodup_append]
      exact ⟨h.nd, by simp, fun a ha b hb => by rw [List.mem_singleton.1 hb]; rintro rfl; exact hc.1 ha⟩
    · intro x hx hn
      rcases List.mem_append.1 hx with hx | hx <;> rcases List.mem_append.1 hn with hn | hn
      · exact h.neg x hx hn
      · have e1 := List.mem_singleton.1 hn
        apply hc.2
        rw [← e1, negT_negT]; exact hx
      · rw [List.mem_singleton.1 hx] at hn; exact hc.2 hn
      · rw [List.mem_singleton.1 hx] at hn
        exact negT_self he.1 (List.mem_singleton.1 hn).symm
theorem EOk.adds : ∀ {l es : List P3}, EOk es → (∀ e ∈ l, Neat (V.pShort e)) → EOk (l.foldl addE es)
  | [], es, h, _ => h
  | e :: l, es, h, hl => EOk.adds (l := l) (es := addE es e) (h.add (hl e (by simp))) (fun x hx => hl x (by simp [hx]))
theorem faces_tidy {l : List P3} (h : Pts l) : (facesP l).1.Nodup ∧ (∀ a ∈ (facesP l).1, Neat a) ∧ EOk (facesP l).2 := by
  refine facesP_ind (fun st => st.1.Nodup ∧ (∀ a ∈ st.1, Neat a) ∧ EOk st.2) l ?_ ⟨by simp, by simp, ⟨by simp, by simp, by simp⟩⟩
  rintro i j k st hij hjk hk ⟨h1, h2, h3⟩
  by_cases c1 : triN l i j k = (0, 0, 0)
  · have e : trip l i j k st = st := by unfold trip; rw [if_pos c1]
    rw [e]; exact ⟨h1, h2, h3⟩
  by_cases c2 : triS l i j k = 0
  · have e : trip l i j k st = st := by unfold trip; rw [if_neg c1, if_pos c2]
    rw [e]; exact ⟨h1, h2, h3⟩
  have e : trip l i j k st = (if triA l i j k ∈ st.1 then st.1 else st.1 ++ [triA l i j k], (triE l i j k).foldl addE st.2) := by unfold trip; rw [if_neg c1, if_neg c2]
  rw [e]
  have hn := triA_neat h (by omega) (by omega) hk ⟨c1, c2⟩
  refine ⟨?_, ?_, h3.adds (triE_neat h hij hjk hk)⟩
  · simp only
    split
    · exact h1
    · rename_i hc
      rw [List.nodup_append]
      exact ⟨h1, by simp, fun a ha b hb => by rw [List.mem_singleton.1 hb]; rintro rfl; exact hc ha⟩
  · simp only
    split
    · exact h2
    · intro a ha
      rcases List.mem_append.1 ha with ha | ha
      · exact h2 a ha
      · rw [List.mem_singleton.1 ha]; exact hn
/-! Cores that may be are tidy. -/
theorem one_neat : Neat (1, 0, 0) ∧ Neat (0, 1, 0) ∧ Neat (0, 0, 1) := by
  refine ⟨⟨by decide, by decide +kernel, by decide⟩, ⟨by decide, by decide +kernel, by decide⟩, ⟨by decide, by decide +kernel, by decide⟩⟩
theorem three_ok : EOk [(1, 0, 0), (0, 1, 0), (0, 0, 1)] := by
  obtain ⟨h1, h2, h3⟩ := one_neat
  refine ⟨?_, by decide, by decide⟩
  intro e he
  simp only [List.mem_cons, List.not_mem_nil, or_false] at he
  rcases he with rfl | rfl | rfl <;> assumption
theorem core_tidy {k r hx hy hz : Int} {l : List P3} (hc : chkP k r hx hy hz l = 0) :
    (corAP k l).Nodup ∧ (∀ a ∈ corAP k l, Neat a) ∧ EOk (corEP k l) := by
  unfold corAP corEP
  rcases chk_range hc with ⟨rfl, _⟩ | ⟨rfl, _⟩ | ⟨rfl, _⟩ | ⟨rfl, _, _, h3, _⟩
  · simp only [Int.reduceEq, if_false]
    exact ⟨by simp, by simp, ⟨by simp, by simp, by simp⟩⟩
  · simp only [Int.reduceEq, if_false, if_true]
    refine ⟨by simp, by simp, ⟨?_, by simp, by decide⟩⟩
    intro e he
    rw [List.mem_singleton.1 he]; exact one_neat.1
  · simp only [Int.reduceEq, if_false, if_true]
    exact ⟨three_ok.nd, three_ok.neat, three_ok⟩
  · simp only [Int.reduceEq, if_false, if_true]
    exact faces_tidy (pts_of h3)
/-! The order of a hull's points bears on nothing. -/
theorem wid_mem {f : P3 → Int} {l t : List P3} (hl : 0 < l.length) (ht : 0 < t.length) (h : ∀ p, p ∈ l ↔ p ∈ t) : wid f l = wid f t := by
  have key : ∀ {l t : List P3}, 0 < l.length → (∀ p, p ∈ l ↔ p ∈ t) → loF f t (f (pt t 0)) ≤ loF f l (f (pt l 0)) ∧ hiF f l (f (pt l 0)) ≤ hiF f t (f (pt t 0)) := by
    intro l t hl h
    have a := loF_spec f l (f (pt l 0))
    have b := loF_spec f t (f (pt t 0))
    have c := hiF_spec f l (f (pt l 0))
    have d := hiF_spec f t (f (pt t 0))
    constructor
    · rcases a.2.2 with e | ⟨p, hp, e⟩
      · rw [e]; exact b.2.1 _ ((h _).1 (pt_mem l 0 hl))
      · rw [e]; exact b.2.1 _ ((h _).1 hp)
    · rcases c.2.2 with e | ⟨p, hp, e⟩
      · rw [e]; exact d.2.1 _ ((h _).1 (pt_mem l 0 hl))
      · rw [e]; exact d.2.1 _ ((h _).1 hp)
  have h1 := key hl h
  have h2 := key ht (fun p => (h p).symm)
  unfold wid; omega
theorem copl_mem {l t : List P3} (h : ∀ p, p ∈ l ↔ p ∈ t) : Copl l ↔ Copl t := by
  unfold Copl
  constructor
  · intro hl a ha b hb c hc d hd
    exact hl a ((h a).2 ha) b ((h b).2 hb) c ((h c).2 hc) d ((h d).2 hd)
  · intro hl a ha b hb c hc d hd
    exact hl a ((h a).1 ha) b ((h b).1 hb) c ((h c).1 hc) d ((h d).1 hd)
theorem flatP_mem {l t : List P3} (h : ∀ p, p ∈ l ↔ p ∈ t) : V.flatP l = V.flatP t := by
  rw [Bool.eq_iff_iff, flatP_iff, flatP_iff]; exact copl_mem h
theorem chk_perm {k r hx hy hz : Int} {l t : List P3} (h : l.Perm t) : chkP k r hx hy hz l = chkP k r hx hy hz t := by
  have h1 : l.length = t.length := h.length_eq
  have h2 : V.flatP l = V.flatP t := flatP_mem fun p => h.mem_iff
  have h3 : V.apartP l = V.apartP t := by
    unfold V.apartP
    rw [Bool.eq_iff_iff, decide_eq_true_eq, decide_eq_true_eq, h.nodup_iff]
    constructor
    · rintro ⟨a, b⟩; exact ⟨fun p hp => a p (h.mem_iff.2 hp), b⟩
    · rintro ⟨a, b⟩; exact ⟨fun p hp => a p (h.mem_iff.1 hp), b⟩
  unfold chkP
  rw [h1, h2, h3]
theorem mass_perm {r hx hy hz m : Int} {l t : List P3} (hl : 0 < l.length) (h : l.Perm t) : massP 4 r hx hy hz l m = massP 4 r hx hy hz t m := by
  have ht : 0 < t.length := by rw [← h.length_eq]; exact hl
  have hw : ∀ f : P3 → Int, halfP f l r = halfP f t r := fun f => by unfold halfP; rw [wid_mem hl ht fun p => h.mem_iff]
  unfold massP corPP
  simp only [Int.reduceEq, if_false]
  rw [hw, hw, hw]
/-! A heavier or wider body has no less inertia. -/
theorem sq_mono {m n a b : Int} (hm : 0 ≤ m) (hmn : m ≤ n) (ha : 0 ≤ a) (hab : a ≤ b) : sqP m a ≤ sqP n b ∧ 0 ≤ sqP m a := by
  have h1 : a * a ≤ b * b := Int.mul_le_mul hab hab ha (by omega)
  have h0 : 0 ≤ a * a := Int.mul_nonneg ha ha
  have h2 : a * a / 4294967296 ≤ b * b / 4294967296 := by omega
  have h3 : 0 ≤ a * a / 4294967296 := by omega
  unfold sqP
  generalize a * a / 4294967296 = p at *
  generalize b * b / 4294967296 = q at *
  have h4 : m * p ≤ n * q := Int.mul_le_mul hmn h2 h3 (by omega)
  have h5 : 0 ≤ m * p := Int.mul_nonneg hm h3
  omega
theorem atl_mono {a b : Int} (h : a ≤ b) : atl a ≤ atl b := by unfold atl; split <;> split <;> omega
theorem half_mono {f : P3 → Int} {l : List P3} {r s : Int} (hr : 0 ≤ r) (h : r ≤ s) : halfP f l r ≤ halfP f l s ∧ 0 ≤ halfP f l r := by
  have := wid_nonneg f l
  unfold halfP; omega
def LeP (a b : P3) : Prop := a.1 ≤ b.1 ∧ a.2.1 ≤ b.2.1 ∧ a.2.2 ≤ b.2.2
theorem mass_mono {k r s hx hy hz m n : Int} {l : List P3} (hr : 0 ≤ r) (hrs : r ≤ s) (hm : 0 ≤ m) (hmn : m ≤ n) : LeP (massP k r hx hy hz l m) (massP k s hx hy hz l n) := by
  unfold massP
  split
  · have := sq_mono (a := r * 1048576) (b := s * 1048576) hm hmn (by omega) (by omega)
    have h := atl_mono (a := sqP m (r * 1048576) * 2 / 5) (b := sqP n (s * 1048576) * 2 / 5) (by omega)
    exact ⟨h, h, h⟩
  · have hf : ∀ f : P3 → Int, sqP m (halfP f (corPP k hx hy hz l) r) ≤ sqP n (halfP f (corPP k hx hy hz l) s) ∧ 0 ≤ sqP m (halfP f (corPP k hx hy hz l) r) := fun f => by
      have := half_mono (f := f) (l := corPP k hx hy hz l) hr hrs
      exact sq_mono hm hmn this.2 this.1
    unfold massQ LeP
    have a := hf (fun p => p.1)
    have b := hf (fun p => p.2.1)
    have c := hf (fun p => p.2.2)
    exact ⟨atl_mono (by omega), atl_mono (by omega), atl_mono (by omega)⟩
theorem atl_ge (n : Int) : 4096 ≤ atl n := by unfold atl; split <;> omega
theorem mass_ge (k r hx hy hz : Int) (l : List P3) (m : Int) : 4096 ≤ (massP k r hx hy hz l m).1 ∧ 4096 ≤ (massP k r hx hy hz l m).2.1 ∧ 4096 ≤ (massP k r hx hy hz l m).2.2 := by
  unfold massP massQ
  split <;> exact ⟨atl_ge _, atl_ge _, atl_ge _⟩
end Go.Proofs.Ytkjellhkamfciaa.Sx
end

section
/- shape, plainly: the axes of a hull. -/
namespace Go.Proofs.Ytkjellhkamfciaa.Sx
open Go
set_option linter.unusedVariables false
set_option linter.unusedSimpArgs false
/-! The axes of a hull, whatever the order of its points. -/
def nrm (A B C : P3) : P3 := cr3 (sub3 B A) (sub3 C A)
def AxOf (l : List P3) (A B C a : P3) : Prop := nrm A B C ≠ (0, 0, 0) ∧ V.sideP l (nrm A B C) A ≠ 0 ∧ a = shortP (mulP (V.sideP l (nrm A B C) A) (nrm A B C))
theorem nrm_sm {A B C : P3} (ha : Sm A 65536) (hb : Sm B 65536) (hc : Sm C 65536) : Sm (nrm A B C) 34359738368 := (cr_sm (sub_sm hb ha).2 (sub_sm hc ha).2).2
theorem ahead_eq {n a p : P3} (hn : Sm n 34359738368) (ha : Sm a 65536) (hp : Sm p 65536) : ahead n a p = dt3 n (sub3 p a) := by
  unfold ahead
  rw [(sub_sm hp ha).1]
  exact dt_sm hn (sub_sm hp ha).2
/-- Points not in one plane. -/
theorem not_all {l : List P3} (hs : ∀ p ∈ l, Sm p 65536) (hn : ¬ Copl l) {n a : P3} (h0 : n ≠ (0, 0, 0)) (h : ∀ p ∈ l, dt3 n (sub3 p a) = 0) : False := by
  apply hn
  have h' : ∀ p ∈ l, ∀ r ∈ l, dt3 n (sub3 p r) = 0 := by
    intro p hp r hr
    rw [sub_sub p r a, dt_sub, h p hp, h r hr]; rfl
  intro x hx y hy z hz w hw
  exact det_perp h0 (h' y hy x hx) (h' z hz x hx) (h' w hw x hx)
theorem dt_neg (n v : P3) : dt3 (negT n) v = - dt3 n v := by unfold dt3 negT; simp only; grind
theorem side_one {l : List P3} (hs : ∀ p ∈ l, Sm p 65536) {n a : P3} (hn : Sm n 34359738368) (ha : a ∈ l) : V.sideP l n a = if ∀ p ∈ l, dt3 n (sub3 p a) ≤ 0 then 1 else if ∀ p ∈ l, 0 ≤ dt3 n (sub3 p a) then -1 else 0 := by
  have e1 : (∀ p ∈ l, ahead n a p ≤ 0) ↔ ∀ p ∈ l, dt3 n (sub3 p a) ≤ 0 := by
    constructor <;> intro h p hp
    · rw [← ahead_eq hn (hs a ha) (hs p hp)]; exact h p hp
    · rw [ahead_eq hn (hs a ha) (hs p hp)]; exact h p hp
  have e2 : (∀ p ∈ l, 0 ≤ ahead n a p) ↔ ∀ p ∈ l, 0 ≤ dt3 n (sub3 p a) := by
    constructor <;> intro h p hp
    · rw [← ahead_eq hn (hs a ha) (hs p hp)]; exact h p hp
    · rw [ahead_eq hn (hs a ha) (hs p hp)]; exact h p hp
  unfold V.sideP
  simp only [e1, e2]
theorem side_neg {l : List P3} (hs : ∀ p ∈ l, Sm p 65536) (hc : ¬ Copl l) {n a b : P3} (hn : Sm n 34359738368) (h0 : n ≠ (0, 0, 0)) (ha : a ∈ l) (hb : b ∈ l) (hab : dt3 n (sub3 b a) = 0) :
    V.sideP l (negT n) b = - V.sideP l n a := by
  have e : ∀ p, dt3 (negT n) (sub3 p b) = - dt3 n (sub3 p a) := by
    intro p
    rw [dt_neg, sub_sub p b a, dt_sub, hab, Int.sub_zero]
  rw [side_one hs hn ha, side_one hs hn.neg hb]
  simp only [e]
  by_cases h1 : ∀ p ∈ l, dt3 n (sub3 p a) ≤ 0
  · by_cases h2 : ∀ p ∈ l, 0 ≤ dt3 n (sub3 p a)
    · exact (not_all hs hc h0 (a := a) fun p hp => by have := h1 p hp; have := h2 p hp; omega).elim
    · rw [if_pos h1, if_neg (fun h => h2 fun p hp => by have := h p hp; omega), if_pos (fun p hp => by have := h1 p hp; omega)]
  · by_cases h2 : ∀ p ∈ l, 0 ≤ dt3 n (sub3 p a)
    · rw [if_neg h1, if_pos h2, if_pos (fun p hp => by have := h2 p hp; omega)]; rfl
    · rw [if_neg h1, if_neg h2, if_neg (fun h => h2 fun p hp => by have := h p hp; omega), if_neg (fun h => h1 fun p hp => by have := h p hp; omega)]; rfl
theorem mulP_negneg {s : Int} {n : P3} (hs : s = 1 ∨ s = -1 ∨ s = 0) (h0 : s ≠ 0) (hn : Sm n 34359738368) : mulP (-s) (negT n) = mulP s n := by
  rcases hs with rfl | rfl | rfl
  · rw [mulP_one hn, mulP_neg hn.neg, negT_negT]
  · rw [show -(-1 : Int) = 1 by decide, mulP_one hn.neg, mulP_neg hn]
  · exact absurd rfl h0
theorem nrm_swap23 (A B C : P3) : nrm A C B = negT (nrm A B C) := by
  unfold nrm cr3 negT; ext <;> simp only <;> grind
theorem nrm_swap12 (A B C : P3) : nrm B A C = negT (nrm A B C) := by
  unfold nrm cr3 negT sub3; ext <;> simp only <;> grind
theorem nrm_dt (A B C : P3) : dt3 (nrm A B C) (sub3 B A) = 0 := by
  unfold nrm cr3 dt3; simp only; grind
theorem AxOf.swap {l : List P3} (hs : ∀ p ∈ l, Sm p 65536) (hc : ¬ Copl l) {A B C A' B' C' a : P3} (ha : A ∈ l) (hb : B ∈ l) (hcm : C ∈ l) (ha' : A' ∈ l) (he : nrm A' B' C' = negT (nrm A B C)) (hd : dt3 (nrm A B C) (sub3 A' A) = 0) (h : AxOf l A B C a) : AxOf l A' B' C' a := by
  obtain ⟨h1, h2, h3⟩ := h
  have hn := nrm_sm (hs A ha) (hs B hb) (hs C hcm)
  have hsd := side_neg hs hc hn h1 ha ha' hd
  unfold AxOf
  rw [he, hsd]
  refine ⟨negT_ne h1, by omega, ?_⟩
  rw [mulP_negneg (sideP_cases _ _ _) h2 hn]
  exact h3
theorem AxOf.swap23 {l : List P3} (hs : ∀ p ∈ l, Sm p 65536) (hc : ¬ Copl l) {A B C a : P3} (ha : A ∈ l) (hb : B ∈ l) (hcm : C ∈ l) (h : AxOf l A B C a) : AxOf l A C B a :=
  AxOf.swap hs hc ha hb hcm ha (nrm_swap23 A B C) (by unfold dt3 sub3; simp) h
theorem AxOf.swap12 {l : List P3} (hs : ∀ p ∈ l, Sm p 65536) (hc : ¬ Copl l) {A B C a : P3} (ha : A ∈ l) (hb : B ∈ l) (hcm : C ∈ l) (h : AxOf l A B C a) : AxOf l B A C a :=
  AxOf.swap hs hc ha hb hcm hb (nrm_swap12 A B C) (nrm_dt A B C) h
theorem axOf_tri {l : List P3} (h : Pts l) {i j k : Nat} (hi : i < l.length) (hj : j < l.length) (hk : k < l.length) (a : P3) : AxOf l (pt l i) (pt l j) (pt l k) a ↔ Sup l i j k ∧ a = triA l i j k := by
  obtain ⟨e, s⟩ := h.triN hi hj hk
  have e' : triN l i j k = nrm (pt l i) (pt l j) (pt l k) := e
  unfold AxOf Sup triA triS
  rw [e', short_eq', and_assoc]
theorem pt_of_mem {l : List P3} {p : P3} (h : p ∈ l) : ∃ i, i < l.length ∧ pt l i = p := by
  obtain ⟨i, hi, rfl⟩ := List.mem_iff_getElem.1 h
  exact ⟨i, hi, pt_eq l i hi⟩
theorem nrm_ne12 {A B C : P3} (h : nrm A B C ≠ (0, 0, 0)) : A ≠ B ∧ A ≠ C ∧ B ≠ C := by
  refine ⟨?_, ?_, ?_⟩ <;> rintro rfl <;> apply h <;> (unfold nrm cr3 sub3; ext <;> simp only <;> grind)
theorem faces_ax {l : List P3} (h : Pts l) (hc : ¬ Copl l) (a : P3) : a ∈ (facesP l).1 ↔ ∃ A ∈ l, ∃ B ∈ l, ∃ C ∈ l, AxOf l A B C a := by
  rw [facesP_mem]
  constructor
  · rintro ⟨i, j, k, hij, hjk, hk, h1⟩
    exact ⟨_, pt_mem l i (by omega), _, pt_mem l j (by omega), _, pt_mem l k hk, (axOf_tri h (by omega) (by omega) hk a).2 h1⟩
  · rintro ⟨A, hA, B, hB, C, hC, hx⟩
    obtain ⟨n1, n2, n3⟩ := nrm_ne12 hx.1
    obtain ⟨i, hi, rfl⟩ := pt_of_mem hA
    obtain ⟨j, hj, rfl⟩ := pt_of_mem hB
    obtain ⟨k, hk, rfl⟩ := pt_of_mem hC
    have m1 : i ≠ j := fun e => n1 (by rw [e])
    have m2 : i ≠ k := fun e => n2 (by rw [e])
    have m3 : j ≠ k := fun e => n3 (by rw [e])
    have fin : ∀ i j k, i < j → j < k → k < l.length → AxOf l (pt l i) (pt l j) (pt l k) a → ∃ i j k, i < j ∧ j < k ∧ k < l.length ∧ Sup l i j k ∧ a = triA l i j k := by
      intro i j k h1 h2 h3 h4
      exact ⟨i, j, k, h1, h2, h3, (axOf_tri h (by omega) (by omega) h3 a).1 h4⟩
    rcases Nat.lt_or_gt_of_ne m1 with c1 | c1 <;> rcases Nat.lt_or_gt_of_ne m2 with c2 | c2 <;> rcases Nat.lt_or_gt_of_ne m3 with c3 | c3
    · exact fin i j k c1 c3 hk hx
    · exact fin i k j c2 c3 hj (hx.swap23 h.sm hc hA hB hC)
    · omega
    · exact fin k i j c2 c1 hj ((hx.swap23 h.sm hc hA hB hC).swap12 h.sm hc hA hC hB)
    · exact fin j i k c1 c2 hk (hx.swap12 h.sm hc hA hB hC)
    · omega
    · exact fin j k i c3 c2 hi ((hx.swap12 h.sm hc hA hB hC).swap23 h.sm hc hB hA hC)
    · exact fin k j i c3 c1 hi (((hx.swap12 h.sm hc hA hB hC).swap23 h.sm hc hB hA hC).swap12 h.sm hc hB hC hA)
theorem axOf_mem {l t : List P3} (h : ∀ p, p ∈ l ↔ p ∈ t) (A B C a : P3) : AxOf l A B C a ↔ AxOf t A B C a := by
  have e : ∀ n b, V.sideP l n b = V.sideP t n b := by
    intro n b
    unfold V.sideP
    simp only [h]
  unfold AxOf
  simp only [e]
theorem faces_mem {l t : List P3} (hl : Pts l) (ht : Pts t) (h : ∀ p, p ∈ l ↔ p ∈ t) (hc : ¬ Copl l) (a : P3) : a ∈ (facesP l).1 ↔ a ∈ (facesP t).1 := by
  have hc' : ¬ Copl t := fun h' => hc ((copl_mem h).2 h')
  rw [faces_ax hl hc, faces_ax ht hc']
  simp only [h, axOf_mem h]
/-! A hull has faces to all sides. -/
theorem least_ratio : ∀ (L : List (Int × Int)), L ≠ [] → (∀ x ∈ L, 0 ≤ x.1 ∧ 0 < x.2) → ∃ x ∈ L, ∀ y ∈ L, x.1 * y.2 ≤ y.1 * x.2
  | [], h, _ => absurd rfl h
  | [x], _, _ => ⟨x, by simp, by simp⟩
  | x :: y :: L, _, hp => by
    obtain ⟨z, hz, hm⟩ := least_ratio (y :: L) (by simp) (fun u hu => hp u (by simp only [List.mem_cons] at hu ⊢; exact .inr hu))
    have px := hp x (by simp)
    have pz := hp z (by simp only [List.mem_cons] at hz ⊢; exact .inr hz)
    by_cases h : x.1 * z.2 ≤ z.1 * x.2
    · refine ⟨x, by simp, fun u hu => ?_⟩
      rcases List.mem_cons.1 hu with rfl | hu
      · exact Int.le_refl _
      · have h1 := hm u hu
        have pu := hp u (by simp only [List.mem_cons] at hu ⊢; exact .inr hu)
        -- x1 u2 ≤ u1 x2
        have a1 : x.1 * z.2 * u.2 ≤ z.1 * x.2 * u.2 := Int.mul_le_mul_of_nonneg_right h (by omega)
        have a2 : z.1 * u.2 * x.2 ≤ u.1 * z.2 * x.2 := Int.mul_le_mul_of_nonneg_right h1 (by omega)
        have a3 : (x.1 * u.2) * z.2 ≤ (u.1 * x.2) * z.2 := by
          have e1 : (x.1 * u.2) * z.2 = x.1 * z.2 * u.2 := by grind
          have e2 : (u.1 * x.2) * z.2 = u.1 * z.2 * x.2 := by grind
          have e3 : z.1 * x.2 * u.2 = z.1 * u.2 * x.2 := by grind
          omega
        exact Int.le_of_mul_le_mul_right a3 pz.2
    · refine ⟨z, by simp only [List.mem_cons] at hz ⊢; exact .inr hz, fun u hu => ?_⟩
      rcases List.mem_cons.1 hu with rfl | hu
      · omega
      · exact hm u hu
def lin (a : Int) (m : P3) (b : Int) (h : P3) : P3 := (a * m.1 - b * h.1, a * m.2.1 - b * h.2.1, a * m.2.2 - b * h.2.2)
theorem dt_lin (a b : Int) (m h v : P3) : dt3 (lin a m b h) v = a * dt3 m v - b * dt3 h v := by unfold lin dt3; simp only; grind
/-- Turns a plane until it touches one more. -/
theorem rotate {l : List P3} {A m h : P3} (hm : ∀ p ∈ l, dt3 m (sub3 p A) ≤ 0) (hh : ∃ p ∈ l, 0 < dt3 h (sub3 p A)) :
    ∃ B ∈ l, 0 < dt3 h (sub3 B A) ∧ ∃ m', (∀ p ∈ l, dt3 m' (sub3 p A) ≤ 0) ∧ dt3 m' (sub3 B A) = 0 ∧ ∀ u, dt3 h u = 0 → dt3 m' u = dt3 h (sub3 B A) * dt3 m u := by
  let L := (l.filter fun p => decide (0 < dt3 h (sub3 p A))).map fun p => (- dt3 m (sub3 p A), dt3 h (sub3 p A))
  have hL : L ≠ [] := by
    obtain ⟨p, hp, h1⟩ := hh
    intro e
    have : (- dt3 m (sub3 p A), dt3 h (sub3 p A)) ∈ L := List.mem_map.2 ⟨p, List.mem_filter.2 ⟨hp, by simpa using h1⟩, rfl⟩
    rw [e] at this; simp at this
  have hpos : ∀ x ∈ L, 0 ≤ x.1 ∧ 0 < x.2 := by
    intro x hx
    obtain ⟨p, hp, rfl⟩ := List.mem_map.1 hx
    obtain ⟨hp1, hp2⟩ := List.mem_filter.1 hp
    have := hm p hp1
    exact ⟨by simp only; omega, by simpa using hp2⟩
  obtain ⟨x, hx, hmin⟩ := least_ratio L hL hpos
  obtain ⟨B, hB, rfl⟩ := List.mem_map.1 hx
  obtain ⟨hB1, hB2⟩ := List.mem_filter.1 hB
  have hb : 0 < dt3 h (sub3 B A) := by simpa using hB2
  refine ⟨B, hB1, hb, lin (dt3 h (sub3 B A)) m (dt3 m (sub3 B A)) h, ?_, ?_, ?_⟩
  · intro p hp
    rw [dt_lin]
    have h1 := hm p hp
    have h2 := hm B hB1
    by_cases hc : 0 < dt3 h (sub3 p A)
    · have := hmin _ (List.mem_map.2 ⟨p, List.mem_filter.2 ⟨hp, by simpa using hc⟩, rfl⟩)
      simp only at this
      have e1 : - dt3 m (sub3 B A) * dt3 h (sub3 p A) = -(dt3 m (sub3 B A) * dt3 h (sub3 p A)) := Int.neg_mul _ _
      have e2 : - dt3 m (sub3 p A) * dt3 h (sub3 B A) = -(dt3 h (sub3 B A) * dt3 m (sub3 p A)) := by rw [Int.neg_mul, Int.mul_comm]
      omega
    · have a1 : 0 ≤ dt3 h (sub3 B A) * -dt3 m (sub3 p A) := Int.mul_nonneg (by omega) (by omega)
      have a2 : 0 ≤ (-dt3 m (sub3 B A)) * (-dt3 h (sub3 p A)) := Int.mul_nonneg (by omega) (by omega)
      rw [Int.mul_neg] at a1
      rw [Int.neg_mul_neg] at a2
      omega
  · rw [dt_lin, Int.mul_comm (dt3 m (sub3 B A))]; omega
  · intro u hu
    rw [dt_lin, hu, Int.mul_zero, Int.sub_zero]
theorem cr_dt (v d u : P3) : dt3 (cr3 v d) u = - dt3 (cr3 v u) d := by unfold cr3 dt3; simp only; grind
theorem dt_self (v d : P3) : dt3 (cr3 v d) v = 0 ∧ dt3 (cr3 v d) d = 0 := by unfold cr3 dt3; simp only; grind
/-- To each of six sides. -/
theorem facet {l : List P3} (hp : Pts l) (hc : ¬ Copl l) (hl : 0 < l.length) (d h1 : P3) (hd : dt3 d d = 1) (h10 : h1 ≠ (0, 0, 0)) (h1d : dt3 h1 d = 0) :
    ∃ M, M ≠ (0, 0, 0) ∧ Sm M 34359738368 ∧ dt3 M d < 0 ∧ shortP M ∈ (facesP l).1 := by
  -- the point farthest back
  obtain ⟨x, hx, hmin⟩ : ∃ A ∈ l, ∀ p ∈ l, dt3 d A ≤ dt3 d p := by
    have : ∀ (l : List P3), 0 < l.length → ∃ A ∈ l, ∀ p ∈ l, dt3 d A ≤ dt3 d p := by
      intro l
      induction l with
      | nil => intro h; simp at h
      | cons q l ih =>
        intro _
        cases l with
        | nil => exact ⟨q, by simp, by simp⟩
        | cons r l =>
          obtain ⟨A, hA, hm⟩ := ih (by simp)
          by_cases c : dt3 d q ≤ dt3 d A
          · refine ⟨q, by simp, fun p hp => ?_⟩
            rcases List.mem_cons.1 hp with rfl | hp
            · exact Int.le_refl _
            · exact Int.le_trans c (hm p hp)
          · refine ⟨A, by simp only [List.mem_cons] at hA ⊢; exact .inr hA, fun p hp => ?_⟩
            rcases List.mem_cons.1 hp with rfl | hp
            · omega
            · exact hm p hp
    exact this l hl
  have hm0 : ∀ p ∈ l, dt3 (negT d) (sub3 p x) ≤ 0 := by
    intro p hp
    have := hmin p hp
    rw [dt_neg, dt_sub]; omega
  -- one of two opposite ways has somebody ahead
  have pos : ∀ h : P3, h ≠ (0, 0, 0) → ∃ g : P3, (g = h ∨ g = negT h) ∧ ∃ p ∈ l, 0 < dt3 g (sub3 p x) := by
    intro h h0
    by_cases c : ∃ p ∈ l, 0 < dt3 h (sub3 p x)
    · exact ⟨h, .inl rfl, c⟩
    · by_cases c2 : ∃ p ∈ l, 0 < dt3 (negT h) (sub3 p x)
      · exact ⟨negT h, .inr rfl, c2⟩
      · refine (not_all hp.sm hc h0 (a := x) fun p hp => ?_).elim
        have q1 : ¬ 0 < dt3 h (sub3 p x) := fun q => c ⟨p, hp, q⟩
        have q2 : ¬ 0 < dt3 (negT h) (sub3 p x) := fun q => c2 ⟨p, hp, q⟩
        rw [dt_neg] at q2
        omega
  have perp : ∀ {g h u : P3}, (g = h ∨ g = negT h) → dt3 h u = 0 → dt3 g u = 0 := by
    rintro g h u (rfl | rfl) hu
    · exact hu
    · rw [dt_neg, hu]; rfl
  obtain ⟨g1, hg1, hq1⟩ := pos h1 h10
  obtain ⟨B, hB, hb, m1, a1, a2, a3⟩ := rotate hm0 hq1
  have hd1 : dt3 m1 d < 0 := by
    rw [a3 d (perp hg1 h1d), dt_neg, hd]
    omega
  have hBx : sub3 B x ≠ (0, 0, 0) := by
    intro e
    rw [e] at hb
    simp [dt3] at hb
  have h20 : cr3 (sub3 B x) d ≠ (0, 0, 0) := by
    intro e
    -- then d is along B - x, and m1 would not see d
    have e1 : ∀ c : P3, cr3 (sub3 B x) d = (0, 0, 0) → dt3 m1 d * (sub3 B x).1 = dt3 m1 (sub3 B x) * d.1 ∧ dt3 m1 d * (sub3 B x).2.1 = dt3 m1 (sub3 B x) * d.2.1 ∧ dt3 m1 d * (sub3 B x).2.2 = dt3 m1 (sub3 B x) * d.2.2 := by
      intro _ e
      generalize sub3 B x = v at *
      rw [zero3] at e
      simp only [cr3] at e
      obtain ⟨f1, f2, f3⟩ := e
      unfold dt3
      refine ⟨?_, ?_, ?_⟩ <;> grind
    obtain ⟨f1, f2, f3⟩ := e1 d e
    rw [a2, Int.zero_mul] at f1 f2 f3
    apply hBx
    rw [zero3]
    refine ⟨(Int.mul_eq_zero.1 f1).resolve_left (by omega), (Int.mul_eq_zero.1 f2).resolve_left (by omega), (Int.mul_eq_zero.1 f3).resolve_left (by omega)⟩
  obtain ⟨g2, hg2, hq2⟩ := pos _ h20
  obtain ⟨C, hC, hcc, m2, b1, b2, b3⟩ := rotate a1 hq2
  have hd2 : dt3 m2 d < 0 := by
    rw [b3 d (perp hg2 (dt_self _ _).2)]
    exact Int.mul_neg_of_pos_of_neg hcc hd1
  have hB2 : dt3 m2 (sub3 B x) = 0 := by
    rw [b3 _ (perp hg2 (dt_self _ _).1), a2, Int.mul_zero]
  have hN : nrm x B C ≠ (0, 0, 0) := by
    intro e
    have e0 : dt3 (cr3 (sub3 B x) d) (sub3 C x) = 0 := by
      rw [cr_dt, show cr3 (sub3 B x) (sub3 C x) = (0, 0, 0) from e]
      simp [dt3]
    have := perp hg2 e0
    omega
  -- m2 is along the triangle's way
  have along : ∀ v : P3, dt3 m2 d * dt3 (nrm x B C) v = dt3 (nrm x B C) d * dt3 m2 v := by
    intro v
    unfold nrm
    generalize sub3 B x = p at *
    generalize sub3 C x = q at *
    unfold dt3 cr3 at *
    simp only at *
    grind
  have hsm := nrm_sm (hp.sm x hx) (hp.sm B hB) (hp.sm C hC)
  have hNd : dt3 (nrm x B C) d ≠ 0 := by
    intro e
    apply hN
    have key : ∀ v, dt3 (nrm x B C) v = 0 := by
      intro v
      have := along v
      rw [e, Int.zero_mul] at this
      exact (Int.mul_eq_zero.1 this).resolve_left (by omega)
    have k1 := key (1, 0, 0)
    have k2 := key (0, 1, 0)
    have k3 := key (0, 0, 1)
    simp only [dt3, Int.mul_one, Int.mul_zero, Int.add_zero, Int.zero_add] at k1 k2 k3
    exact zero3.2 ⟨k1, k2, k3⟩
  rcases Int.lt_or_gt_of_ne hNd with hlt | hgt
  · -- outward as it stands
    have hside : V.sideP l (nrm x B C) x = 1 := by
      rw [side_one hp.sm hsm hx, if_pos]
      intro p hpm
      have h1 := along (sub3 p x)
      have h2 := b1 p hpm
      have h3 : 0 ≤ dt3 (nrm x B C) d * dt3 m2 (sub3 p x) := by
        have := Int.mul_nonneg (a := -dt3 (nrm x B C) d) (b := -dt3 m2 (sub3 p x)) (by omega) (by omega)
        rwa [Int.neg_mul_neg] at this
      rw [← h1] at h3
      apply Classical.byContradiction
      intro hn
      have := Int.mul_neg_of_neg_of_pos hd2 (show 0 < dt3 (nrm x B C) (sub3 p x) by omega)
      omega
    refine ⟨nrm x B C, hN, hsm, hlt, ?_⟩
    rw [faces_ax hp hc]
    refine ⟨x, hx, B, hB, C, hC, hN, by rw [hside]; decide, ?_⟩
    rw [hside, mulP_one hsm]
  · have hall : ∀ p ∈ l, 0 ≤ dt3 (nrm x B C) (sub3 p x) := by
      intro p hpm
      have h1 := along (sub3 p x)
      have h2 := b1 p hpm
      have h3 : 0 ≤ dt3 (nrm x B C) d * -dt3 m2 (sub3 p x) := Int.mul_nonneg (by omega) (by omega)
      rw [Int.mul_neg, ← h1] at h3
      apply Classical.byContradiction
      intro hn
      have := Int.mul_pos_of_neg_of_neg hd2 (show dt3 (nrm x B C) (sub3 p x) < 0 by omega)
      omega
    have hside : V.sideP l (nrm x B C) x = -1 := by
      rw [side_one hp.sm hsm hx, if_neg, if_pos hall]
      intro h
      exact not_all hp.sm hc hN (a := x) fun p hp => by have := h p hp; have := hall p hp; omega
    refine ⟨negT (nrm x B C), negT_ne hN, hsm.neg, by rw [dt_neg]; omega, ?_⟩
    rw [faces_ax hp hc]
    refine ⟨x, hx, B, hB, C, hC, hN, by rw [hside]; decide, ?_⟩
    rw [hside, mulP_neg hsm]
def SgnLe (p q : P3) : Prop := ((p.1 ≤ 0 → q.1 ≤ 0) ∧ (0 ≤ p.1 → 0 ≤ q.1)) ∧ ((p.2.1 ≤ 0 → q.2.1 ≤ 0) ∧ (0 ≤ p.2.1 → 0 ≤ q.2.1)) ∧ ((p.2.2 ≤ 0 → q.2.2 ≤ 0) ∧ (0 ≤ p.2.2 → 0 ≤ q.2.2))
theorem SgnLe.trans {p q r : P3} (h1 : SgnLe p q) (h2 : SgnLe q r) : SgnLe p r := by
  obtain ⟨⟨a1, a2⟩, ⟨a3, a4⟩, a5, a6⟩ := h1
  obtain ⟨⟨b1, b2⟩, ⟨b3, b4⟩, b5, b6⟩ := h2
  exact ⟨⟨fun h => b1 (a1 h), fun h => b2 (a2 h)⟩, ⟨fun h => b3 (a3 h), fun h => b4 (a4 h)⟩, fun h => b5 (a5 h), fun h => b6 (a6 h)⟩
theorem SgnLe.refl (p : P3) : SgnLe p p := ⟨⟨id, id⟩, ⟨id, id⟩, id, id⟩
theorem tdiv_sgn (x : Int) {n : Int} (hn : 0 ≤ n) : (x ≤ 0 → x.tdiv n ≤ 0) ∧ (0 ≤ x → 0 ≤ x.tdiv n) := by
  refine ⟨fun h => ?_, fun h => Int.tdiv_nonneg h hn⟩
  have h1 := Int.tdiv_nonneg (a := -x) (b := n) (by omega) hn
  rw [Int.neg_tdiv] at h1
  omega
theorem divP_sgn (p : P3) {n : Int} (hn : 0 ≤ n) : SgnLe p (divP p n) := ⟨tdiv_sgn _ hn, tdiv_sgn _ hn, tdiv_sgn _ hn⟩
theorem shrink_sgn : ∀ (n : Nat) (p : P3), SgnLe p (shrinkP n p)
  | 0, p => SgnLe.refl p
  | n + 1, p => by
    simp only [shrinkP]
    split
    · exact (divP_sgn p (by omega)).trans (shrink_sgn n _)
    · exact SgnLe.refl p
theorem short_sgn (p : P3) : SgnLe p (shortP p) := by
  unfold shortP
  split
  · exact ⟨⟨fun _ => Int.le_refl _, fun _ => Int.le_refl _⟩, ⟨fun _ => Int.le_refl _, fun _ => Int.le_refl _⟩, fun _ => Int.le_refl _, fun _ => Int.le_refl _⟩
  · exact ((divP_sgn p (Int.natCast_nonneg _)).trans (shrink_sgn 64 _)).trans (divP_sgn _ (Int.natCast_nonneg _))
theorem two_axes {l : List P3} (hp : Pts l) (hc : ¬ Copl l) (hl : 0 < l.length) : 2 ≤ (facesP l).1.length := by
  obtain ⟨M1, _, _, d1, f1⟩ := facet hp hc hl (1, 0, 0) (0, 1, 0) (by decide) (by decide) (by decide)
  obtain ⟨M2, _, _, d2, f2⟩ := facet hp hc hl (-1, 0, 0) (0, 1, 0) (by decide) (by decide) (by decide)
  obtain ⟨M3, _, _, d3, f3⟩ := facet hp hc hl (0, 1, 0) (0, 0, 1) (by decide) (by decide) (by decide)
  obtain ⟨M4, _, _, d4, f4⟩ := facet hp hc hl (0, -1, 0) (0, 0, 1) (by decide) (by decide) (by decide)
  obtain ⟨M5, _, _, d5, f5⟩ := facet hp hc hl (0, 0, 1) (1, 0, 0) (by decide) (by decide) (by decide)
  obtain ⟨M6, _, _, d6, f6⟩ := facet hp hc hl (0, 0, -1) (1, 0, 0) (by decide) (by decide) (by decide)
  apply Classical.byContradiction
  intro hlen
  obtain ⟨a, ha⟩ : ∃ a, (facesP l).1 = [a] := by
    match h : (facesP l).1 with
    | [] => rw [h] at f1; simp at f1
    | [a] => exact ⟨a, rfl⟩
    | _ :: _ :: _ => rw [h] at hlen; simp at hlen
  have hne := ((faces_tidy hp).2.1 a (by rw [ha]; simp)).1
  rw [ha] at f1 f2 f3 f4 f5 f6
  simp only [List.mem_singleton] at f1 f2 f3 f4 f5 f6
  have s1 := (short_sgn M1).1.1
  have s2 := (short_sgn M2).1.2
  have s3 := (short_sgn M3).2.1.1
  have s4 := (short_sgn M4).2.1.2
  have s5 := (short_sgn M5).2.2.1
  have s6 := (short_sgn M6).2.2.2
  rw [f1] at s1; rw [f2] at s2; rw [f3] at s3; rw [f4] at s4; rw [f5] at s5; rw [f6] at s6
  simp only [dt3, Int.mul_one, Int.mul_zero, Int.add_zero, Int.zero_add, Int.mul_neg] at d1 d2 d3 d4 d5 d6
  apply hne
  rw [zero3]
  exact ⟨by have := s1 (by omega); have := s2 (by omega); omega, by have := s3 (by omega); have := s4 (by omega); omega, by have := s5 (by omega); have := s6 (by omega); omega⟩
end Go.Proofs.Ytkjellhkamfciaa.Sx
end

section
/- the document's shapes: whether they may be. -/
namespace Go.Proofs.Ytkjellhkamfciaa.Sx
open Go
set_option maxRecDepth 20000
set_option linter.unusedVariables false
set_option linter.unusedSimpArgs false
/-! Loops that look for something. -/
noncomputable def exB (p : Prop) : Bool := @decide p (Classical.propDecidable p)
theorem exB_iff {p : Prop} : exB p = true ↔ p := by unfold exB; exact @decide_eq_true_iff p (Classical.propDecidable p)
theorem exB_true {p : Prop} (h : p) : exB p = true := exB_iff.2 h
theorem exB_false {p : Prop} (h : ¬ p) : exB p = false := by rw [Bool.eq_false_iff]; exact fun h' => h (exB_iff.1 h')
theorem if_exB {c p : Prop} [Decidable c] (h : c ↔ p) {τ : Type} (a b : τ) : (if c then a else b) = if exB p = true then a else b := by
  by_cases hc : c
  · rw [if_pos hc, if_pos (exB_true (h.1 hc))]
  · rw [if_neg hc, if_neg (by rw [exB_false fun hp => hc (h.2 hp)]; decide)]
theorem scan {α : Type} (F : Nat → Int → Option α) (n : Nat) (bad : Nat → Prop) (k0 k2 : Option α)
    (hstep : ∀ f i, i < n → F (f + 1) (i : Int) = if exB (bad i) = true then k0 else F f ((i + 1 : Nat) : Int)) (hend : ∀ f, F (f + 1) (n : Int) = k2) :
    ∀ fuel i, i ≤ n → n - i < fuel → F fuel (i : Int) = if exB (∃ j, i ≤ j ∧ j < n ∧ bad j) = true then k0 else k2
  | 0, i, h1, h2 => by omega
  | f + 1, i, h1, h2 => by
    by_cases hi : i < n
    · rw [hstep f i hi]
      by_cases hb : bad i
      · rw [if_pos (exB_true hb), if_pos (exB_true ⟨i, Nat.le_refl _, hi, hb⟩)]
      · rw [if_neg (by rw [exB_false hb]; decide), scan F n bad k0 k2 hstep hend f (i + 1) (by omega) (by omega)]
        have e : exB (∃ j, i + 1 ≤ j ∧ j < n ∧ bad j) = exB (∃ j, i ≤ j ∧ j < n ∧ bad j) := by
          congr 1
          apply propext
          constructor
          · rintro ⟨j, a, b, c⟩; exact ⟨j, by omega, b, c⟩
          · rintro ⟨j, a, b, c⟩
            by_cases e : j = i
            · subst e; exact absurd c hb
            · exact ⟨j, by omega, b, c⟩
        rw [e]
    · have : i = n := by omega
      subst this
      rw [hend f, if_neg]
      rw [exB_false]
      · decide
      · rintro ⟨j, a, b, _⟩; omega
noncomputable def _root_.Go.Proofs.Ytkjellhkamfciaa.M.dwithin {α : Type} (ax : Int) (ay : Int) (az : Int) (lo : Int) (hi : Int) (k0 : Bool → Option α) : Option α :=
  if V.shwithin_r0 ax lo hi = true then if V.shwithin_r0 ay lo hi = true then k0 (V.shwithin_r0 az lo hi) else k0 false else k0 false
theorem dwithin_eq {α : Type} (ax : Int) (ay : Int) (az : Int) (lo : Int) (hi : Int) (Q : SV → Hp → Option α) : callI E look_dshort (exec E look_dshort noLps 400) 56 ([SV.agg [SV.int .i64 ax, SV.int .i64 ay, SV.int .i64 az], SV.int .i64 lo, SV.int .i64 hi]) ([]) Q = M.dwithin ax ay az lo hi (fun (x0 : Bool) => Q (SV.bool x0) ([])) := by kernel_rfl
def dwithin_sp : List AS := [.val (.agg [.int .i64 0, .int .i64 0, .int .i64 0]), .val (.int .i64 0), .val (.int .i64 0)]
noncomputable def _root_.Go.Proofs.Ytkjellhkamfciaa.V.dwithin_r0 (ax : Int) (ay : Int) (az : Int) (lo : Int) (hi : Int) : Bool :=
  if V.shwithin_r0 ax lo hi = true then if V.shwithin_r0 ay lo hi = true then V.shwithin_r0 az lo hi else false else false
theorem dwithin_val {α : Type} (ax : Int) (ay : Int) (az : Int) (lo : Int) (hi : Int) (k0 : Bool → Option α) : M.dwithin ax ay az lo hi k0 = k0 (V.dwithin_r0 ax ay az lo hi) := by
  unfold M.dwithin V.dwithin_r0
  repeat' first | rfl | (split <;> rename_i h <;> first | simp only [if_pos h] | simp only [if_neg h] | skip)
noncomputable def dwithin_c {α : Type} (ds : List D) (Q : SV → Hp → Option α) : Option α :=
  dI ds fun ax ds => dI ds fun ay ds => dI ds fun az ds => dI ds fun lo ds => dI ds fun hi ds => dE ds (Q (SV.bool (V.dwithin_r0 ax ay az lo hi)) ([]))
theorem dwithin_c_ok {α : Type} : FnOk E.P 56 (fEnt (α := α) dwithin_sp dwithin_c) :=
  fEnt_ok E (look_dshort_ok) (exec_sound E E_ok (look_dshort_ok) (noLps_ok _) 400) fun ds Q r h => by
    unfold dwithin_c at h
    obtain ⟨ax, ds, rfl, h1⟩ := dI_inv h
    obtain ⟨ay, ds, rfl, h2⟩ := dI_inv h1
    obtain ⟨az, ds, rfl, h3⟩ := dI_inv h2
    obtain ⟨lo, ds, rfl, h4⟩ := dI_inv h3
    obtain ⟨hi, ds, rfl, h5⟩ := dI_inv h4
    obtain ⟨rfl, hE⟩ := dE_inv h5
    exact ⟨[SV.agg [SV.int .i64 ax, SV.int .i64 ay, SV.int .i64 az], SV.int .i64 lo, SV.int .i64 hi], [], fun vs => by kernel_rfl, (dwithin_eq ax ay az lo hi Q).trans ((dwithin_val ax ay az lo hi (fun (x0 : Bool) => Q (SV.bool x0) ([]))).trans hE)⟩
noncomputable def dwithin_go {α : Type} (ds : List D) (Q : SV → Hp → Option α) : Option α :=
  dI ds fun ax ds => dI ds fun ay ds => dI ds fun az ds => dI ds fun lo ds => dI ds fun hi ds => dE ds (M.dwithin ax ay az lo hi (fun (x0 : Bool) => Q (SV.bool x0) ([])))
theorem dwithin_ok {α : Type} : FnOk E.P 56 (fEnt (α := α) dwithin_sp dwithin_go) :=
  fEnt_ok E (look_dshort_ok) (exec_sound E E_ok (look_dshort_ok) (noLps_ok _) 400) fun ds Q r h => by
    unfold dwithin_go at h
    obtain ⟨ax, ds, rfl, h1⟩ := dI_inv h
    obtain ⟨ay, ds, rfl, h2⟩ := dI_inv h1
    obtain ⟨az, ds, rfl, h3⟩ := dI_inv h2
    obtain ⟨lo, ds, rfl, h4⟩ := dI_inv h3
    obtain ⟨hi, ds, rfl, h5⟩ := dI_inv h4
    obtain ⟨rfl, hE⟩ := dE_inv h5
    exact ⟨[SV.agg [SV.int .i64 ax, SV.int .i64 ay, SV.int .i64 az], SV.int .i64 lo, SV.int .i64 hi], [], fun vs => by kernel_rfl, (dwithin_eq ax ay az lo hi Q).trans hE⟩
noncomputable def look_dwithin {α : Type} : LookF α := addFn 56 (fEnt dwithin_sp dwithin_c) look_dshort
theorem look_dwithin_ok {α : Type} : LookOk E.P (look_dwithin (α := α)) := addFn_ok dwithin_c_ok (look_dshort_ok)
noncomputable abbrev dform_S1 (y1 y2 y3 y4 y5 y6 y7 : Int) (y8 : Value) (y9 : L3) : St := St.mk (none :: some (SV.ptr (nat_lit 0) (nat_lit 0)) :: none :: none :: some (SV.int .i64 y1) :: none :: some (SV.int .i64 y2) :: nn 73 ([])) [.cells [SV.int .i64 y3, SV.int .i64 y4, SV.int .i64 y5, SV.int .i64 y6, SV.int .i64 y7, SV.ros y8 kP y9] (nat_lit 26)]
noncomputable abbrev dform_S2 (y1 y2 y3 y4 y5 y6 : Int) (y7 : Value) (y8 : L3) : St := St.mk (none :: some (SV.ptr (nat_lit 0) (nat_lit 0)) :: some (SV.bool false) :: none :: some (SV.int .i64 y1) :: nn 75 ([])) [.cells [SV.int .i64 y2, SV.int .i64 y3, SV.int .i64 y4, SV.int .i64 y5, SV.int .i64 y6, SV.ros y7 kP y8] (nat_lit 26)]
noncomputable abbrev dform_S3 (y1 y2 y3 y4 y5 y6 : Int) (y7 : Value) (y8 : L3) : St := St.mk (none :: some (SV.ptr (nat_lit 0) (nat_lit 0)) :: none :: none :: some (SV.int .i64 y1) :: nn 75 ([])) [.cells [SV.int .i64 y2, SV.int .i64 y3, SV.int .i64 y4, SV.int .i64 y5, SV.int .i64 y6, SV.ros y7 kP y8] (nat_lit 26)]
noncomputable abbrev dform_S4 : St := St.mk (none :: some (SV.ptr (nat_lit 0) (nat_lit 0)) :: none :: none :: some (SV.int .i64 (0 : Int)) :: none :: some (SV.int .i64 (0 : Int)) :: nn 73 ([])) [.cells [SV.int .i64 (0 : Int), SV.int .i64 (0 : Int), SV.int .i64 (0 : Int), SV.int .i64 (0 : Int), SV.int .i64 (0 : Int), SV.ros undef kP []] (nat_lit 26)]
noncomputable abbrev dform_S5 : St := St.mk (none :: some (SV.ptr (nat_lit 0) (nat_lit 0)) :: none :: none :: some (SV.int .i64 (0 : Int)) :: nn 75 ([])) [.cells [SV.int .i64 (0 : Int), SV.int .i64 (0 : Int), SV.int .i64 (0 : Int), SV.int .i64 (0 : Int), SV.int .i64 (0 : Int), SV.ros undef kP []] (nat_lit 26)]
abbrev dform_P1 : List Bool := [false, true, true, true, false, false, true, false, false, true, false, true, false, true, true, true, true, true, true, true, false, true, false, true]
abbrev dform_P2 : List Bool := [false, true, false, true, false, true, true, true, true, true, true, true, false, true, false, true]
noncomputable def _root_.Go.Proofs.Ytkjellhkamfciaa.M.dform_l0_step {α : Type} (x27 : Int) (x35 : L3) (kn : Int → Option α) (k0 : Option α) (k2 : Option α) (x28 : Int) : Option α :=
  if cLt x28 x27 = true then
  if (0 : Int) ≤ x28 ∧ x28 < (↑(List.length x35) : Int) then
    if (0 : Int) ≤ x27 ∧ x27 < (↑(List.length x35) : Int) then
      if
          (cEq (Prod.fst (List.getD x35 (Int.toNat x28) ((0 : Int), (0 : Int), (0 : Int)))) (Prod.fst (List.getD x35 (Int.toNat x27) ((0 : Int), (0 : Int), (0 : Int)))) &&
              (cEq (Prod.fst (Prod.snd (List.getD x35 (Int.toNat x28) ((0 : Int), (0 : Int), (0 : Int))))) (Prod.fst (Prod.snd (List.getD x35 (Int.toNat x27) ((0 : Int), (0 : Int), (0 : Int))))) && (cEq (Prod.snd (Prod.snd (List.getD x35 (Int.toNat x28) ((0 : Int), (0 : Int), (0 : Int))))) (Prod.snd (Prod.snd (List.getD x35 (Int.toNat x27) ((0 : Int), (0 : Int), (0 : Int))))) && true))) =
            true then
        k0
      else kn (IntKind.wrap .i64 (x28 + (1 : Int)))
    else none
  else none
else k2
noncomputable def _root_.Go.Proofs.Ytkjellhkamfciaa.M.dform_l0 {α : Type} (x27 : Int) (x35 : L3) (k0 : Option α) (k2 : Option α) : Nat → Int → Option α
  | 0, _ => none
  | n + 1, x28 => M.dform_l0_step x27 x35 (M.dform_l0 x27 x35 k0 k2 n) k0 k2 x28
theorem dform_l0_step_eq {α : Type} (x27 : Int) (x28 : Int) (x29 : Int) (x30 : Int) (x31 : Int) (x32 : Int) (x33 : Int) (x34 : Value) (x35 : L3) (Q : Ex → St → Option α) : (loopStep E (exec E look_dwithin noLps 400) 27 dform_P1 0 (codeAt E.P 27 dform_P1)) (dform_S1 x27 x28 x29 x30 x31 x32 x33 x34 x35) Q = M.dform_l0_step x27 x35 (fun (x36 : Int) => Q .normal (dform_S1 x27 x36 x29 x30 x31 x32 x33 x34 x35)) (Q .ret (dform_S2 x27 x29 x30 x31 x32 x33 x34 x35)) (Q (.exit 3) (dform_S3 x27 x29 x30 x31 x32 x33 x34 x35)) x28 := by kernel_rfl
theorem dform_l0_iter {α : Type} (x27 : Int) (x29 : Int) (x30 : Int) (x31 : Int) (x32 : Int) (x33 : Int) (x34 : Value) (x35 : L3) (Q : Ex → St → Option α) : ∀ (n : Nat) (x28 : Int), iter (loopStep E (exec E look_dwithin noLps 400) 27 dform_P1 0 (codeAt E.P 27 dform_P1)) n (dform_S1 x27 x28 x29 x30 x31 x32 x33 x34 x35) Q = M.dform_l0 x27 x35 (Q .ret (dform_S2 x27 x29 x30 x31 x32 x33 x34 x35)) (Q (.exit 3) (dform_S3 x27 x29 x30 x31 x32 x33 x34 x35)) n x28
  | 0, _ => rfl
  | n + 1, x28 => (dform_l0_step_eq x27 x28 x29 x30 x31 x32 x33 x34 x35 (iterK (loopStep E (exec E look_dwithin noLps 400) 27 dform_P1 0 (codeAt E.P 27 dform_P1)) n Q)).trans (congrArg (fun kn => M.dform_l0_step x27 x35 kn (Q .ret (dform_S2 x27 x29 x30 x31 x32 x33 x34 x35)) (Q (.exit 3) (dform_S3 x27 x29 x30 x31 x32 x33 x34 x35)) x28) (funext fun x28 => dform_l0_iter x27 x29 x30 x31 x32 x33 x34 x35 Q n x28))
noncomputable def dform_l0_go {α : Type} (ds : List D) (Q : Ex → St → Option α) : Option α :=
  dI ds fun x27 ds => dI ds fun x28 ds => dI ds fun x29 ds => dI ds fun x30 ds => dI ds fun x31 ds => dI ds fun x32 ds => dI ds fun x33 ds => dV ds fun x34 ds => dL kP ds fun x35 ds => dE ds (M.dform_l0 x27 x35 (Q .ret (dform_S2 x27 x29 x30 x31 x32 x33 x34 x35)) (Q (.exit 3) (dform_S3 x27 x29 x30 x31 x32 x33 x34 x35)) (100 + x35.length) x28)
theorem dform_l0_ok {α : Type} : LoopOk E.P 27 dform_P1 0 (lEnt (α := α) (dform_S4) dform_l0_go) :=
  lEnt_ok E (exec_sound E E_ok (look_dwithin_ok) (noLps_ok _) 400) fun ds Q r h S hS => by
    unfold dform_l0_go at h
    obtain ⟨x27, ds, rfl, h1⟩ := dI_inv h
    obtain ⟨x28, ds, rfl, h2⟩ := dI_inv h1
    obtain ⟨x29, ds, rfl, h3⟩ := dI_inv h2
    obtain ⟨x30, ds, rfl, h4⟩ := dI_inv h3
    obtain ⟨x31, ds, rfl, h5⟩ := dI_inv h4
    obtain ⟨x32, ds, rfl, h6⟩ := dI_inv h5
    obtain ⟨x33, ds, rfl, h7⟩ := dI_inv h6
    obtain ⟨x34, ds, rfl, h8⟩ := dV_inv h7
    obtain ⟨x35, ds, rfl, h9⟩ := dL_inv h8
    obtain ⟨rfl, hE⟩ := dE_inv h9
    have e : fillS (dform_S4) [.i x27, .i x28, .i x29, .i x30, .i x31, .i x32, .i x33, .v x34, .l kP x35] = some (dform_S1 x27 x28 x29 x30 x31 x32 x33 x34 x35) := by kernel_rfl
    rw [e] at hS
    cases hS
    exact ⟨_, (dform_l0_iter x27 x29 x30 x31 x32 x33 x34 x35 Q _ x28).trans hE⟩
noncomputable def dform_l0_lps {α : Type} : LookL α := addLp 27 dform_P1 0 (lEnt (dform_S4) dform_l0_go) noLps
theorem dform_l0_lps_ok {α : Type} : LoopsOk E.P (dform_l0_lps (α := α)) := addLp_ok dform_l0_ok (noLps_ok _)

noncomputable def _root_.Go.Proofs.Ytkjellhkamfciaa.M.dform_l1_step {α : Type} (x44 : L3) (kn : Int → Option α) (k0 : Option α) (k2 : Option α) (x37 : Int) : Option α :=
  if cLt x37 (↑(List.length x44) : Int) = true then
  if (0 : Int) ≤ x37 ∧ x37 < (↑(List.length x44) : Int) then if (!V.dwithin_r0 (Prod.fst (List.getD x44 (Int.toNat x37) ((0 : Int), (0 : Int), (0 : Int)))) (Prod.fst (Prod.snd (List.getD x44 (Int.toNat x37) ((0 : Int), (0 : Int), (0 : Int))))) (Prod.snd (Prod.snd (List.getD x44 (Int.toNat x37) ((0 : Int), (0 : Int), (0 : Int))))) (-65536 : Int) (65536 : Int)) = true then k0 else M.dform_l0 x37 x44 k0 (kn (IntKind.wrap .i64 (x37 + (1 : Int)))) ((100 : Nat) + List.length x44) (0 : Int)
  else none
else k2
noncomputable def _root_.Go.Proofs.Ytkjellhkamfciaa.M.dform_l1 {α : Type} (x44 : L3) (k0 : Option α) (k2 : Option α) : Nat → Int → Option α
  | 0, _ => none
  | n + 1, x37 => M.dform_l1_step x44 (M.dform_l1 x44 k0 k2 n) k0 k2 x37
theorem dform_l1_step_eq {α : Type} (x37 : Int) (x38 : Int) (x39 : Int) (x40 : Int) (x41 : Int) (x42 : Int) (x43 : Value) (x44 : L3) (Q : Ex → St → Option α) : (loopStep E (exec E look_dwithin dform_l0_lps 400) 27 dform_P2 0 (codeAt E.P 27 dform_P2)) (dform_S3 x37 x38 x39 x40 x41 x42 x43 x44) Q = M.dform_l1_step x44 (fun (x45 : Int) => Q .normal (dform_S3 x45 x38 x39 x40 x41 x42 x43 x44)) (Q .ret (St.mk (none :: none :: some (SV.bool false) :: nn 77 ([]))
  [])) (Q (.exit 1) (St.mk (nn 80 ([])) [])) x37 := by kernel_rfl
theorem dform_l1_iter {α : Type} (x38 : Int) (x39 : Int) (x40 : Int) (x41 : Int) (x42 : Int) (x43 : Value) (x44 : L3) (Q : Ex → St → Option α) : ∀ (n : Nat) (x37 : Int), iter (loopStep E (exec E look_dwithin dform_l0_lps 400) 27 dform_P2 0 (codeAt E.P 27 dform_P2)) n (dform_S3 x37 x38 x39 x40 x41 x42 x43 x44) Q = M.dform_l1 x44 (Q .ret (St.mk (none :: none :: some (SV.bool false) :: nn 77 ([]))
  [])) (Q (.exit 1) (St.mk (nn 80 ([])) [])) n x37
  | 0, _ => rfl
  | n + 1, x37 => (dform_l1_step_eq x37 x38 x39 x40 x41 x42 x43 x44 (iterK (loopStep E (exec E look_dwithin dform_l0_lps 400) 27 dform_P2 0 (codeAt E.P 27 dform_P2)) n Q)).trans (congrArg (fun kn => M.dform_l1_step x44 kn (Q .ret (St.mk (none :: none :: some (SV.bool false) :: nn 77 ([]))
  [])) (Q (.exit 1) (St.mk (nn 80 ([])) [])) x37) (funext fun x37 => dform_l1_iter x38 x39 x40 x41 x42 x43 x44 Q n x37))
noncomputable def dform_l1_go {α : Type} (ds : List D) (Q : Ex → St → Option α) : Option α :=
  dI ds fun x37 ds => dI ds fun x38 ds => dI ds fun x39 ds => dI ds fun x40 ds => dI ds fun x41 ds => dI ds fun x42 ds => dV ds fun x43 ds => dL kP ds fun x44 ds => dE ds (M.dform_l1 x44 (Q .ret (St.mk (none :: none :: some (SV.bool false) :: nn 77 ([]))
  [])) (Q (.exit 1) (St.mk (nn 80 ([])) [])) (100 + x44.length) x37)
theorem dform_l1_ok {α : Type} : LoopOk E.P 27 dform_P2 0 (lEnt (α := α) (dform_S5) dform_l1_go) :=
  lEnt_ok E (exec_sound E E_ok (look_dwithin_ok) (dform_l0_lps_ok) 400) fun ds Q r h S hS => by
    unfold dform_l1_go at h
    obtain ⟨x37, ds, rfl, h1⟩ := dI_inv h
    obtain ⟨x38, ds, rfl, h2⟩ := dI_inv h1
    obtain ⟨x39, ds, rfl, h3⟩ := dI_inv h2
    obtain ⟨x40, ds, rfl, h4⟩ := dI_inv h3
    obtain ⟨x41, ds, rfl, h5⟩ := dI_inv h4
    obtain ⟨x42, ds, rfl, h6⟩ := dI_inv h5
    obtain ⟨x43, ds, rfl, h7⟩ := dV_inv h6
    obtain ⟨x44, ds, rfl, h8⟩ := dL_inv h7
    obtain ⟨rfl, hE⟩ := dE_inv h8
    have e : fillS (dform_S5) [.i x37, .i x38, .i x39, .i x40, .i x41, .i x42, .v x43, .l kP x44] = some (dform_S3 x37 x38 x39 x40 x41 x42 x43 x44) := by kernel_rfl
    rw [e] at hS
    cases hS
    exact ⟨_, (dform_l1_iter x38 x39 x40 x41 x42 x43 x44 Q _ x37).trans hE⟩
noncomputable def dform_l1_lps {α : Type} : LookL α := addLp 27 dform_P2 0 (lEnt (dform_S5) dform_l1_go) dform_l0_lps
theorem dform_l1_lps_ok {α : Type} : LoopsOk E.P (dform_l1_lps (α := α)) := addLp_ok dform_l1_ok (dform_l0_lps_ok)

noncomputable def _root_.Go.Proofs.Ytkjellhkamfciaa.M.dform {α : Type} (k : Int) (r : Int) (hx : Int) (hy : Int) (hz : Int) (l : L3) (k0 : Bool → Option α) : Option α :=
  if cEq k (1 : Int) = true then k0 (V.shwithin_r0 r (1 : Int) (16384 : Int))
else
  if cEq k (2 : Int) = true then if V.shwithin_r0 r (1 : Int) (16384 : Int) = true then k0 (V.shwithin_r0 hx (1 : Int) (65536 : Int)) else k0 false
  else if cEq k (3 : Int) = true then if V.shwithin_r0 r (0 : Int) (16384 : Int) = true then k0 (V.dwithin_r0 hx hy hz (1 : Int) (65536 : Int)) else k0 false else if cEq k (4 : Int) = true then if (!V.shwithin_r0 r (0 : Int) (16384 : Int)) = true then k0 false else if (!V.shwithin_r0 (↑(List.length l) : Int) (4 : Int) (12 : Int)) = true then k0 false else M.dform_l1 l (k0 false) (k0 true) ((100 : Nat) + List.length l) (0 : Int) else k0 false
theorem dform_eq {α : Type} (k : Int) (r : Int) (hx : Int) (hy : Int) (hz : Int) (l : L3) (v46 : Value) (Q : SV → Hp → Option α) : callI E look_dwithin (exec E look_dwithin dform_l1_lps 400) 27 ([SV.agg [SV.int .i64 k, SV.int .i64 r, SV.int .i64 hx, SV.int .i64 hy, SV.int .i64 hz, SV.ros v46 kP l]]) ([]) Q = M.dform k r hx hy hz l (fun (x47 : Bool) => Q (SV.bool x47) ([])) := by kernel_rfl
def dform_sp : List AS := [.st [.leaf (.int .i64 0), .leaf (.int .i64 0), .leaf (.int .i64 0), .leaf (.int .i64 0), .leaf (.int .i64 0), .ro kP]]
theorem dwithin_big (p : P3) : V.dwithin_r0 p.1 p.2.1 p.2.2 (-65536) 65536 = !bigP p 65536 := by
  unfold V.dwithin_r0
  simp only [within_eq]
  obtain ⟨x, y, z⟩ := p
  rw [Bool.eq_iff_iff]
  cases a : inZ x (-65536) 65536 <;> cases b : inZ y (-65536) 65536 <;> cases c : inZ z (-65536) 65536 <;> simp [inZ, bigP] at * <;> omega
theorem dwithin_one (x y z : Int) : V.dwithin_r0 x y z 1 65536 = (inZ x 1 65536 && inZ y 1 65536 && inZ z 1 65536) := by
  unfold V.dwithin_r0
  simp only [within_eq]
  cases inZ x 1 65536 <;> cases inZ y 1 65536 <;> cases inZ z 1 65536 <;> rfl
theorem dform_l0_val {α : Type} (l : List P3) (hl : l.length ≤ 12) (q : Nat) (hq : q < l.length) (k0 k2 : Option α) (fuel : Nat) (hf : 12 < fuel) :
    M.dform_l0 (q : Int) l k0 k2 fuel 0 = if exB (∃ j, 0 ≤ j ∧ j < q ∧ pt l j = pt l q) = true then k0 else k2 := by
  refine scan (fun f i => M.dform_l0 (q : Int) l k0 k2 f i) q (fun j => pt l j = pt l q) k0 k2 ?_ ?_ fuel 0 (by omega) (by omega)
  · intro f i hi
    show M.dform_l0_step _ _ _ _ _ _ = _
    unfold M.dform_l0_step
    have a : (0 : Int) ≤ (i : Int) ∧ (i : Int) < (l.length : Int) := by omega
    have b : (0 : Int) ≤ (q : Int) ∧ (q : Int) < (l.length : Int) := by omega
    rw [cLt_nat, if_pos (by simpa using hi), if_pos a, if_pos b, w_next (by omega), eq3]
    exact if_exB (by simp only [toNat_nat, decide_eq_true_eq]; exact Iff.rfl) _ _
  · intro f
    show M.dform_l0_step _ _ _ _ _ _ = _
    unfold M.dform_l0_step
    rw [cLt_nat, if_neg (by simp)]
theorem apartP_iff (l : List P3) : V.apartP l = true ↔ ¬ ∃ i, 0 ≤ i ∧ i < l.length ∧ (bigP (pt l i) 65536 = true ∨ ∃ j, 0 ≤ j ∧ j < i ∧ pt l j = pt l i) := by
  simp only [V.apartP, decide_eq_true_eq]
  constructor
  · rintro ⟨h1, h2⟩ ⟨i, _, hi, h | ⟨j, _, hj, h⟩⟩
    · rw [h1 _ (pt_mem l i hi)] at h; cases h
    · rw [pt_eq l i hi, pt_eq l j (by omega)] at h
      have := (List.getElem_inj h2).1 h
      omega
  · intro h
    refine ⟨fun p hp => ?_, ?_⟩
    · obtain ⟨i, hi, rfl⟩ := pt_of_mem hp
      cases hb : bigP (pt l i) 65536 with
      | false => rfl
      | true => exact absurd ⟨i, Nat.zero_le _, hi, .inl hb⟩ h
    · rw [List.Nodup, List.pairwise_iff_getElem]
      intro i j hi hj hij e
      exact h ⟨j, Nat.zero_le _, hj, .inr ⟨i, Nat.zero_le _, hij, by rw [pt_eq l i hi, pt_eq l j hj]; exact e⟩⟩
theorem dform_l1_val {α : Type} (l : List P3) (hl : l.length ≤ 12) (k0 k2 : Option α) (fuel : Nat) (hf : 12 < fuel) :
    M.dform_l1 l k0 k2 fuel 0 = if V.apartP l = true then k2 else k0 := by
  have h := scan (fun f i => M.dform_l1 l k0 k2 f i) l.length (fun i => bigP (pt l i) 65536 = true ∨ ∃ j, 0 ≤ j ∧ j < i ∧ pt l j = pt l i) k0 k2 ?_ ?_ fuel 0 (by omega) (by omega)
  · refine Eq.trans h ?_
    by_cases ha : V.apartP l = true
    · rw [if_pos ha, if_neg]
      rw [exB_false ((apartP_iff l).1 ha)]; decide
    · rw [if_neg ha, if_pos]
      apply exB_true
      exact Classical.byContradiction fun hn => ha ((apartP_iff l).2 hn)
  · intro f i hi
    show M.dform_l1_step _ _ _ _ _ = _
    unfold M.dform_l1_step
    have a : (0 : Int) ≤ (i : Int) ∧ (i : Int) < (l.length : Int) := by omega
    rw [cLt_nat, if_pos (by simpa using hi), if_pos a, w_next (by omega), dform_l0_val l hl i hi _ _ _ (by omega)]
    show (if (!V.dwithin_r0 (pt l i).1 (pt l i).2.1 (pt l i).2.2 (-65536) 65536) = true then k0 else _) = _
    rw [dwithin_big, Bool.not_not]
    cases hb : bigP (pt l i) 65536 with
    | true => rw [if_pos rfl, if_pos (exB_true (.inl rfl))]
    | false =>
      rw [if_neg (by decide)]
      congr 2
      apply congrArg
      apply propext
      simp
  · intro f
    show M.dform_l1_step _ _ _ _ _ = _
    unfold M.dform_l1_step
    rw [cLt_nat, if_neg (by simp)]
/-- All but for flat hulls. -/
noncomputable def formP (k r hx hy hz : Int) (l : List P3) : Bool :=
  if k = 1 then inZ r 1 16384 else if k = 2 then inZ hx 1 65536 && inZ r 1 16384 else if k = 3 then inZ hx 1 65536 && inZ hy 1 65536 && inZ hz 1 65536 && inZ r 0 16384
  else if k = 4 then inZ (l.length : Int) 4 12 && V.apartP l && inZ r 0 16384 else false
noncomputable def _root_.Go.Proofs.Ytkjellhkamfciaa.V.form (k r hx hy hz : Int) (l : List P3) : Bool := hid (formP k r hx hy hz l)
theorem chk_form (k r hx hy hz : Int) (l : List P3) : chkP k r hx hy hz l = if formP k r hx hy hz l = true then (if k = 4 then (if V.flatP l = true then 51 else 0) else 0) else 50 := by
  unfold chkP formP
  by_cases h1 : k = 1
  · simp [h1]
  by_cases h2 : k = 2
  · simp [h2]
  by_cases h3 : k = 3
  · simp [h3]
  by_cases h4 : k = 4
  · simp [h4]
  simp [h1, h2, h3, h4]
theorem dform_v {α : Type} (k r hx hy hz : Int) (l : List P3) (k0 : Bool → Option α) : M.dform k r hx hy hz l k0 = k0 (V.form k r hx hy hz l) := by
  unfold M.dform V.form
  rw [hid_eq]
  unfold formP
  simp only [cEq_eq, beq_iff_eq, within_eq, dwithin_one]
  by_cases k1 : k = 1
  · simp only [if_pos k1]
  simp only [if_neg k1]
  by_cases k2 : k = 2
  · simp only [if_pos k2]
    cases inZ hx 1 65536 <;> cases inZ r 1 16384 <;> simp
  simp only [if_neg k2]
  by_cases k3 : k = 3
  · simp only [if_pos k3]
    cases (inZ hx 1 65536 && inZ hy 1 65536 && inZ hz 1 65536) <;> cases inZ r 0 16384 <;> simp
  simp only [if_neg k3]
  by_cases k4 : k = 4
  · simp only [if_pos k4]
    cases h1 : inZ r 0 16384 with
    | false => simp
    | true =>
      cases h2 : inZ (l.length : Int) 4 12 with
      | false => simp
      | true =>
        have hl : l.length ≤ 12 := by simp [inZ] at h2; omega
        rw [if_neg (by decide), if_neg (by decide), dform_l1_val l hl _ _ _ (by omega)]
        cases V.apartP l <;> simp
  simp [k4]
noncomputable def dform_h {α : Type} (ds : List D) (Q : SV → Hp → Option α) : Option α :=
  dI ds fun k ds => dI ds fun r ds => dI ds fun hx ds => dI ds fun hy ds => dI ds fun hz ds => dL kP ds fun l ds => dE ds (Q (.bool (V.form k r hx hy hz l)) ([]))
theorem dform_h_ok {α : Type} : FnOk E.P 27 (fEnt (α := α) dform_sp dform_h) :=
  fEntR_ok E (look_dwithin_ok) (exec_sound E E_ok (look_dwithin_ok) (dform_l1_lps_ok) 400) fun ds Q r h => by
    unfold dform_h at h
    obtain ⟨k, ds, rfl, h1⟩ := dI_inv h
    obtain ⟨r, ds, rfl, h2⟩ := dI_inv h1
    obtain ⟨hx, ds, rfl, h3⟩ := dI_inv h2
    obtain ⟨hy, ds, rfl, h4⟩ := dI_inv h3
    obtain ⟨hz, ds, rfl, h5⟩ := dI_inv h4
    obtain ⟨l, ds, rfl, h6⟩ := dL_inv h5
    obtain ⟨rfl, hE⟩ := dE_inv h6
    exact ⟨_, _, hE, fun vs => ⟨_, _, by kernel_rfl, (dform_eq k r hx hy hz l ((cellsV (vs.headD undef)).tail.tail.tail.tail.tail.headD undef) _).trans (dform_v k r hx hy hz l _)⟩⟩
noncomputable def look_dform {α : Type} : LookF α := addFn 27 (fEnt dform_sp dform_h) look_dwithin
theorem look_dform_ok {α : Type} : LookOk E.P (look_dform (α := α)) := addFn_ok dform_h_ok (look_dwithin_ok)
noncomputable abbrev dflat_S1 (y1 : Value) (y2 : L3) (y3 y4 y5 y6 y7 y8 y9 : Int) : St := St.mk (some (SV.ros y1 kP y2) :: none :: none :: some (SV.int .i64 y3) :: some (SV.int .i64 y4) :: some (SV.int .i64 y5) :: some (SV.ptr (nat_lit 0) (nat_lit 0)) :: some (SV.int .i64 y6) :: nn 47 ([])) [.cells [SV.int .i64 y7, SV.int .i64 y8, SV.int .i64 y9] (nat_lit 23)]
noncomputable abbrev dflat_S2 (y1 : Value) (y2 : L3) (y3 y4 y5 : Int) : St := St.mk (some (SV.ros y1 kP y2) :: none :: some (SV.bool false) :: some (SV.int .i64 y3) :: some (SV.int .i64 y4) :: some (SV.int .i64 y5) :: nn 49 ([])) []
noncomputable abbrev dflat_S3 (y1 : Value) (y2 : L3) (y3 y4 y5 : Int) : St := St.mk (some (SV.ros y1 kP y2) :: none :: none :: some (SV.int .i64 y3) :: some (SV.int .i64 y4) :: some (SV.int .i64 y5) :: nn 49 ([])) []
noncomputable abbrev dflat_S4 : St := St.mk (some (SV.ros undef kP []) :: none :: none :: some (SV.int .i64 (0 : Int)) :: some (SV.int .i64 (0 : Int)) :: some (SV.int .i64 (0 : Int)) :: some (SV.ptr (nat_lit 0) (nat_lit 0)) :: some (SV.int .i64 (0 : Int)) :: nn 47 ([])) [.cells [SV.int .i64 (0 : Int), SV.int .i64 (0 : Int), SV.int .i64 (0 : Int)] (nat_lit 23)]
noncomputable abbrev dflat_S5 (y1 : Value) (y2 : L3) (y3 y4 : Int) : St := St.mk (some (SV.ros y1 kP y2) :: none :: some (SV.bool false) :: some (SV.int .i64 y3) :: some (SV.int .i64 y4) :: nn 50 ([])) []
noncomputable abbrev dflat_S6 (y1 : Value) (y2 : L3) (y3 y4 : Int) : St := St.mk (some (SV.ros y1 kP y2) :: none :: none :: some (SV.int .i64 y3) :: some (SV.int .i64 y4) :: nn 50 ([])) []
noncomputable abbrev dflat_S7 : St := St.mk (some (SV.ros undef kP []) :: none :: none :: some (SV.int .i64 (0 : Int)) :: some (SV.int .i64 (0 : Int)) :: some (SV.int .i64 (0 : Int)) :: nn 49 ([])) []
noncomputable abbrev dflat_S8 (y1 : Value) (y2 : L3) (y3 : Int) : St := St.mk (some (SV.ros y1 kP y2) :: none :: some (SV.bool false) :: some (SV.int .i64 y3) :: nn 51 ([])) []
abbrev dflat_P1 : List Bool := [false, true, true, false, false, true, false, false, true, false, false, true, false, false, true, false, false, true, false, false, true, false, true]
abbrev dflat_P2 : List Bool := [false, true, false, false, true, false, false, true, false, false, true, false, false, true, false, true]
abbrev dflat_P3 : List Bool := [false, true, false, false, true, false, false, true, false, true]
noncomputable def _root_.Go.Proofs.Ytkjellhkamfciaa.M.dflat_l0_step {α : Type} (x83 : L3) (x86 : Int) (x88 : Int) (x89 : Int) (x90 : Int) (kn : Int → Option α) (k0 : Option α) (k2 : Option α) (x87 : Int) : Option α :=
  if cLt x87 (↑(List.length x83) : Int) = true then if (0 : Int) ≤ x87 ∧ x87 < (↑(List.length x83) : Int) then if (0 : Int) ≤ x86 ∧ x86 < (↑(List.length x83) : Int) then if (!cEq (V.pDot (x88, x89, x90) (V.pSub (List.getD x83 (Int.toNat x87) ((0 : Int), (0 : Int), (0 : Int))) (List.getD x83 (Int.toNat x86) ((0 : Int), (0 : Int), (0 : Int))))) (0 : Int)) = true then k0 else kn (IntKind.wrap .i64 (x87 + (1 : Int))) else none else none else k2
noncomputable def _root_.Go.Proofs.Ytkjellhkamfciaa.M.dflat_l0 {α : Type} (x83 : L3) (x86 : Int) (x88 : Int) (x89 : Int) (x90 : Int) (k0 : Option α) (k2 : Option α) : Nat → Int → Option α
  | 0, _ => none
  | n + 1, x87 => M.dflat_l0_step x83 x86 x88 x89 x90 (M.dflat_l0 x83 x86 x88 x89 x90 k0 k2 n) k0 k2 x87
theorem dflat_l0_step_eq {α : Type} (x82 : Value) (x83 : L3) (x84 : Int) (x85 : Int) (x86 : Int) (x87 : Int) (x88 : Int) (x89 : Int) (x90 : Int) (Q : Ex → St → Option α) : (loopStep E (exec E look_dform noLps 400) 28 dflat_P1 0 (codeAt E.P 28 dflat_P1)) (dflat_S1 x82 x83 x84 x85 x86 x87 x88 x89 x90) Q = M.dflat_l0_step x83 x86 x88 x89 x90 (fun (x91 : Int) => Q .normal (dflat_S1 x82 x83 x84 x85 x86 x91 x88 x89 x90)) (Q .ret (dflat_S2 x82 x83 x84 x85 x86)) (Q (.exit 6) (dflat_S3 x82 x83 x84 x85 x86)) x87 := by kernel_rfl
theorem dflat_l0_iter {α : Type} (x82 : Value) (x83 : L3) (x84 : Int) (x85 : Int) (x86 : Int) (x88 : Int) (x89 : Int) (x90 : Int) (Q : Ex → St → Option α) : ∀ (n : Nat) (x87 : Int), iter (loopStep E (exec E look_dform noLps 400) 28 dflat_P1 0 (codeAt E.P 28 dflat_P1)) n (dflat_S1 x82 x83 x84 x85 x86 x87 x88 x89 x90) Q = M.dflat_l0 x83 x86 x88 x89 x90 (Q .ret (dflat_S2 x82 x83 x84 x85 x86)) (Q (.exit 6) (dflat_S3 x82 x83 x84 x85 x86)) n x87
  | 0, _ => rfl
  | n + 1, x87 => (dflat_l0_step_eq x82 x83 x84 x85 x86 x87 x88 x89 x90 (iterK (loopStep E (exec E look_dform noLps 400) 28 dflat_P1 0 (codeAt E.P 28 dflat_P1)) n Q)).trans (congrArg (fun kn => M.dflat_l0_step x83 x86 x88 x89 x90 kn (Q .ret (dflat_S2 x82 x83 x84 x85 x86)) (Q (.exit 6) (dflat_S3 x82 x83 x84 x85 x86)) x87) (funext fun x87 => dflat_l0_iter x82 x83 x84 x85 x86 x88 x89 x90 Q n x87))
noncomputable def dflat_l0_go {α : Type} (ds : List D) (Q : Ex → St → Option α) : Option α :=
  dV ds fun x82 ds => dL kP ds fun x83 ds => dI ds fun x84 ds => dI ds fun x85 ds => dI ds fun x86 ds => dI ds fun x87 ds => dI ds fun x88 ds => dI ds fun x89 ds => dI ds fun x90 ds => dE ds (M.dflat_l0 x83 x86 x88 x89 x90 (Q .ret (dflat_S2 x82 x83 x84 x85 x86)) (Q (.exit 6) (dflat_S3 x82 x83 x84 x85 x86)) (100 + x83.length) x87)
theorem dflat_l0_ok {α : Type} : LoopOk E.P 28 dflat_P1 0 (lEnt (α := α) (dflat_S4) dflat_l0_go) :=
  lEnt_ok E (exec_sound E E_ok (look_dform_ok) (noLps_ok _) 400) fun ds Q r h S hS => by
    unfold dflat_l0_go at h
    obtain ⟨x82, ds, rfl, h1⟩ := dV_inv h
    obtain ⟨x83, ds, rfl, h2⟩ := dL_inv h1
    obtain ⟨x84, ds, rfl, h3⟩ := dI_inv h2
    obtain ⟨x85, ds, rfl, h4⟩ := dI_inv h3
    obtain ⟨x86, ds, rfl, h5⟩ := dI_inv h4
    obtain ⟨x87, ds, rfl, h6⟩ := dI_inv h5
    obtain ⟨x88, ds, rfl, h7⟩ := dI_inv h6
    obtain ⟨x89, ds, rfl, h8⟩ := dI_inv h7
    obtain ⟨x90, ds, rfl, h9⟩ := dI_inv h8
    obtain ⟨rfl, hE⟩ := dE_inv h9
    have e : fillS (dflat_S4) [.v x82, .l kP x83, .i x84, .i x85, .i x86, .i x87, .i x88, .i x89, .i x90] = some (dflat_S1 x82 x83 x84 x85 x86 x87 x88 x89 x90) := by kernel_rfl
    rw [e] at hS
    cases hS
    exact ⟨_, (dflat_l0_iter x82 x83 x84 x85 x86 x88 x89 x90 Q _ x87).trans hE⟩
noncomputable def dflat_l0_lps {α : Type} : LookL α := addLp 28 dflat_P1 0 (lEnt (dflat_S4) dflat_l0_go) noLps
theorem dflat_l0_lps_ok {α : Type} : LoopsOk E.P (dflat_l0_lps (α := α)) := addLp_ok dflat_l0_ok (noLps_ok _)

noncomputable def _root_.Go.Proofs.Ytkjellhkamfciaa.M.dflat_l1_step {α : Type} (x93 : L3) (x94 : Int) (x95 : Int) (kn : Int → Option α) (k0 : Option α) (k2 : Option α) (x96 : Int) : Option α :=
  if cLt x96 x95 = true then
  if (0 : Int) ≤ x96 ∧ x96 < (↑(List.length x93) : Int) then
    if (0 : Int) ≤ x95 ∧ x95 < (↑(List.length x93) : Int) then
      if (0 : Int) ≤ x94 ∧ x94 < (↑(List.length x93) : Int) then
        M.dflat_l0 x93 x96 (Prod.fst (V.pCross (V.pSub (List.getD x93 (Int.toNat x95) ((0 : Int), (0 : Int), (0 : Int))) (List.getD x93 (Int.toNat x96) ((0 : Int), (0 : Int), (0 : Int)))) (V.pSub (List.getD x93 (Int.toNat x94) ((0 : Int), (0 : Int), (0 : Int))) (List.getD x93 (Int.toNat x96) ((0 : Int), (0 : Int), (0 : Int))))))
          (Prod.fst (Prod.snd (V.pCross (V.pSub (List.getD x93 (Int.toNat x95) ((0 : Int), (0 : Int), (0 : Int))) (List.getD x93 (Int.toNat x96) ((0 : Int), (0 : Int), (0 : Int)))) (V.pSub (List.getD x93 (Int.toNat x94) ((0 : Int), (0 : Int), (0 : Int))) (List.getD x93 (Int.toNat x96) ((0 : Int), (0 : Int), (0 : Int)))))))
          (Prod.snd (Prod.snd (V.pCross (V.pSub (List.getD x93 (Int.toNat x95) ((0 : Int), (0 : Int), (0 : Int))) (List.getD x93 (Int.toNat x96) ((0 : Int), (0 : Int), (0 : Int)))) (V.pSub (List.getD x93 (Int.toNat x94) ((0 : Int), (0 : Int), (0 : Int))) (List.getD x93 (Int.toNat x96) ((0 : Int), (0 : Int), (0 : Int))))))) k0 (kn (IntKind.wrap .i64 (x96 + (1 : Int)))) ((100 : Nat) + List.length x93) (0 : Int)
      else none
    else none
  else none
else k2
noncomputable def _root_.Go.Proofs.Ytkjellhkamfciaa.M.dflat_l1 {α : Type} (x93 : L3) (x94 : Int) (x95 : Int) (k0 : Option α) (k2 : Option α) : Nat → Int → Option α
  | 0, _ => none
  | n + 1, x96 => M.dflat_l1_step x93 x94 x95 (M.dflat_l1 x93 x94 x95 k0 k2 n) k0 k2 x96
theorem dflat_l1_step_eq {α : Type} (x92 : Value) (x93 : L3) (x94 : Int) (x95 : Int) (x96 : Int) (Q : Ex → St → Option α) : (loopStep E (exec E look_dform dflat_l0_lps 400) 28 dflat_P2 0 (codeAt E.P 28 dflat_P2)) (dflat_S3 x92 x93 x94 x95 x96) Q = M.dflat_l1_step x93 x94 x95 (fun (x97 : Int) => Q .normal (dflat_S3 x92 x93 x94 x95 x97)) (Q .ret (dflat_S5 x92 x93 x94 x95)) (Q (.exit 4) (dflat_S6 x92 x93 x94 x95)) x96 := by kernel_rfl
theorem dflat_l1_iter {α : Type} (x92 : Value) (x93 : L3) (x94 : Int) (x95 : Int) (Q : Ex → St → Option α) : ∀ (n : Nat) (x96 : Int), iter (loopStep E (exec E look_dform dflat_l0_lps 400) 28 dflat_P2 0 (codeAt E.P 28 dflat_P2)) n (dflat_S3 x92 x93 x94 x95 x96) Q = M.dflat_l1 x93 x94 x95 (Q .ret (dflat_S5 x92 x93 x94 x95)) (Q (.exit 4) (dflat_S6 x92 x93 x94 x95)) n x96
  | 0, _ => rfl
  | n + 1, x96 => (dflat_l1_step_eq x92 x93 x94 x95 x96 (iterK (loopStep E (exec E look_dform dflat_l0_lps 400) 28 dflat_P2 0 (codeAt E.P 28 dflat_P2)) n Q)).trans (congrArg (fun kn => M.dflat_l1_step x93 x94 x95 kn (Q .ret (dflat_S5 x92 x93 x94 x95)) (Q (.exit 4) (dflat_S6 x92 x93 x94 x95)) x96) (funext fun x96 => dflat_l1_iter x92 x93 x94 x95 Q n x96))
noncomputable def dflat_l1_go {α : Type} (ds : List D) (Q : Ex → St → Option α) : Option α :=
  dV ds fun x92 ds => dL kP ds fun x93 ds => dI ds fun x94 ds => dI ds fun x95 ds => dI ds fun x96 ds => dE ds (M.dflat_l1 x93 x94 x95 (Q .ret (dflat_S5 x92 x93 x94 x95)) (Q (.exit 4) (dflat_S6 x92 x93 x94 x95)) (100 + x93.length) x96)
theorem dflat_l1_ok {α : Type} : LoopOk E.P 28 dflat_P2 0 (lEnt (α := α) (dflat_S7) dflat_l1_go) :=
  lEnt_ok E (exec_sound E E_ok (look_dform_ok) (dflat_l0_lps_ok) 400) fun ds Q r h S hS => by
    unfold dflat_l1_go at h
    obtain ⟨x92, ds, rfl, h1⟩ := dV_inv h
    obtain ⟨x93, ds, rfl, h2⟩ := dL_inv h1
    obtain ⟨x94, ds, rfl, h3⟩ := dI_inv h2
    obtain ⟨x95, ds, rfl, h4⟩ := dI_inv h3
    obtain ⟨x96, ds, rfl, h5⟩ := dI_inv h4
    obtain ⟨rfl, hE⟩ := dE_inv h5
    have e : fillS (dflat_S7) [.v x92, .l kP x93, .i x94, .i x95, .i x96] = some (dflat_S3 x92 x93 x94 x95 x96) := by kernel_rfl
    rw [e] at hS
    cases hS
    exact ⟨_, (dflat_l1_iter x92 x93 x94 x95 Q _ x96).trans hE⟩
noncomputable def dflat_l1_lps {α : Type} : LookL α := addLp 28 dflat_P2 0 (lEnt (dflat_S7) dflat_l1_go) dflat_l0_lps
theorem dflat_l1_lps_ok {α : Type} : LoopsOk E.P (dflat_l1_lps (α := α)) := addLp_ok dflat_l1_ok (dflat_l0_lps_ok)

noncomputable def _root_.Go.Proofs.Ytkjellhkamfciaa.M.dflat_l2_step {α : Type} (x99 : L3) (x100 : Int) (kn : Int → Option α) (k0 : Option α) (k2 : Option α) (x101 : Int) : Option α :=
  if cLt x101 x100 = true then M.dflat_l1 x99 x100 x101 k0 (kn (IntKind.wrap .i64 (x101 + (1 : Int)))) ((100 : Nat) + List.length x99) (0 : Int) else k2
noncomputable def _root_.Go.Proofs.Ytkjellhkamfciaa.M.dflat_l2 {α : Type} (x99 : L3) (x100 : Int) (k0 : Option α) (k2 : Option α) : Nat → Int → Option α
  | 0, _ => none
  | n + 1, x101 => M.dflat_l2_step x99 x100 (M.dflat_l2 x99 x100 k0 k2 n) k0 k2 x101
theorem dflat_l2_step_eq {α : Type} (x98 : Value) (x99 : L3) (x100 : Int) (x101 : Int) (Q : Ex → St → Option α) : (loopStep E (exec E look_dform dflat_l1_lps 400) 28 dflat_P3 0 (codeAt E.P 28 dflat_P3)) (dflat_S6 x98 x99 x100 x101) Q = M.dflat_l2_step x99 x100 (fun (x102 : Int) => Q .normal (dflat_S6 x98 x99 x100 x102)) (Q .ret (dflat_S8 x98 x99 x100)) (Q (.exit 2) (St.mk (some (SV.ros x98 kP x99) :: none :: none :: some (SV.int .i64 x100) :: nn 51 ([])) [])) x101 := by kernel_rfl
theorem dflat_l2_iter {α : Type} (x98 : Value) (x99 : L3) (x100 : Int) (Q : Ex → St → Option α) : ∀ (n : Nat) (x101 : Int), iter (loopStep E (exec E look_dform dflat_l1_lps 400) 28 dflat_P3 0 (codeAt E.P 28 dflat_P3)) n (dflat_S6 x98 x99 x100 x101) Q = M.dflat_l2 x99 x100 (Q .ret (dflat_S8 x98 x99 x100)) (Q (.exit 2) (St.mk (some (SV.ros x98 kP x99) :: none :: none :: some (SV.int .i64 x100) :: nn 51 ([])) [])) n x101
  | 0, _ => rfl
  | n + 1, x101 => (dflat_l2_step_eq x98 x99 x100 x101 (iterK (loopStep E (exec E look_dform dflat_l1_lps 400) 28 dflat_P3 0 (codeAt E.P 28 dflat_P3)) n Q)).trans (congrArg (fun kn => M.dflat_l2_step x99 x100 kn (Q .ret (dflat_S8 x98 x99 x100)) (Q (.exit 2) (St.mk (some (SV.ros x98 kP x99) :: none :: none :: some (SV.int .i64 x100) :: nn 51 ([])) [])) x101) (funext fun x101 => dflat_l2_iter x98 x99 x100 Q n x101))
noncomputable def dflat_l2_go {α : Type} (ds : List D) (Q : Ex → St → Option α) : Option α :=
  dV ds fun x98 ds => dL kP ds fun x99 ds => dI ds fun x100 ds => dI ds fun x101 ds => dE ds (M.dflat_l2 x99 x100 (Q .ret (dflat_S8 x98 x99 x100)) (Q (.exit 2) (St.mk (some (SV.ros x98 kP x99) :: none :: none :: some (SV.int .i64 x100) :: nn 51 ([])) [])) (100 + x99.length) x101)
theorem dflat_l2_ok {α : Type} : LoopOk E.P 28 dflat_P3 0 (lEnt (α := α) (St.mk (some (SV.ros undef kP []) :: none :: none :: some (SV.int .i64 (0 : Int)) :: some (SV.int .i64 (0 : Int)) :: nn 50 ([])) []) dflat_l2_go) :=
  lEnt_ok E (exec_sound E E_ok (look_dform_ok) (dflat_l1_lps_ok) 400) fun ds Q r h S hS => by
    unfold dflat_l2_go at h
    obtain ⟨x98, ds, rfl, h1⟩ := dV_inv h
    obtain ⟨x99, ds, rfl, h2⟩ := dL_inv h1
    obtain ⟨x100, ds, rfl, h3⟩ := dI_inv h2
    obtain ⟨x101, ds, rfl, h4⟩ := dI_inv h3
    obtain ⟨rfl, hE⟩ := dE_inv h4
    have e : fillS (St.mk (some (SV.ros undef kP []) :: none :: none :: some (SV.int .i64 (0 : Int)) :: some (SV.int .i64 (0 : Int)) :: nn 50 ([])) []) [.v x98, .l kP x99, .i x100, .i x101] = some (dflat_S6 x98 x99 x100 x101) := by kernel_rfl
    rw [e] at hS
    cases hS
    exact ⟨_, (dflat_l2_iter x98 x99 x100 Q _ x101).trans hE⟩
noncomputable def dflat_l2_lps {α : Type} : LookL α := addLp 28 dflat_P3 0 (lEnt (St.mk (some (SV.ros undef kP []) :: none :: none :: some (SV.int .i64 (0 : Int)) :: some (SV.int .i64 (0 : Int)) :: nn 50 ([])) []) dflat_l2_go) dflat_l1_lps
theorem dflat_l2_lps_ok {α : Type} : LoopsOk E.P (dflat_l2_lps (α := α)) := addLp_ok dflat_l2_ok (dflat_l1_lps_ok)

noncomputable def _root_.Go.Proofs.Ytkjellhkamfciaa.M.dflat_l3_step {α : Type} (x104 : L3) (kn : Int → Option α) (k0 : Option α) (k2 : Option α) (x105 : Int) : Option α :=
  if cLt x105 (↑(List.length x104) : Int) = true then M.dflat_l2 x104 x105 k0 (kn (IntKind.wrap .i64 (x105 + (1 : Int)))) ((100 : Nat) + List.length x104) (0 : Int) else k2
noncomputable def _root_.Go.Proofs.Ytkjellhkamfciaa.M.dflat_l3 {α : Type} (x104 : L3) (k0 : Option α) (k2 : Option α) : Nat → Int → Option α
  | 0, _ => none
  | n + 1, x105 => M.dflat_l3_step x104 (M.dflat_l3 x104 k0 k2 n) k0 k2 x105
theorem dflat_l3_step_eq {α : Type} (x103 : Value) (x104 : L3) (x105 : Int) (Q : Ex → St → Option α) : (loopStep E (exec E look_dform dflat_l2_lps 400) 28 [false, true, false, true] 0 (codeAt E.P 28 [false, true, false, true])) (St.mk (some (SV.ros x103 kP x104) :: none :: none :: some (SV.int .i64 x105) :: nn 51 ([])) []) Q = M.dflat_l3_step x104 (fun (x106 : Int) => Q .normal (St.mk (some (SV.ros x103 kP x104) :: none :: none :: some (SV.int .i64 x106) :: nn 51 ([])) [])) (Q .ret (St.mk (none :: none :: some (SV.bool false) :: nn 52 ([])) [])) (Q (.exit 0) (St.mk (nn 55 ([])) [])) x105 := by kernel_rfl
theorem dflat_l3_iter {α : Type} (x103 : Value) (x104 : L3) (Q : Ex → St → Option α) : ∀ (n : Nat) (x105 : Int), iter (loopStep E (exec E look_dform dflat_l2_lps 400) 28 [false, true, false, true] 0 (codeAt E.P 28 [false, true, false, true])) n (St.mk (some (SV.ros x103 kP x104) :: none :: none :: some (SV.int .i64 x105) :: nn 51 ([])) []) Q = M.dflat_l3 x104 (Q .ret (St.mk (none :: none :: some (SV.bool false) :: nn 52 ([])) [])) (Q (.exit 0) (St.mk (nn 55 ([])) [])) n x105
  | 0, _ => rfl
  | n + 1, x105 => (dflat_l3_step_eq x103 x104 x105 (iterK (loopStep E (exec E look_dform dflat_l2_lps 400) 28 [false, true, false, true] 0 (codeAt E.P 28 [false, true, false, true])) n Q)).trans (congrArg (fun kn => M.dflat_l3_step x104 kn (Q .ret (St.mk (none :: none :: some (SV.bool false) :: nn 52 ([])) [])) (Q (.exit 0) (St.mk (nn 55 ([])) [])) x105) (funext fun x105 => dflat_l3_iter x103 x104 Q n x105))
noncomputable def dflat_l3_go {α : Type} (ds : List D) (Q : Ex → St → Option α) : Option α :=
  dV ds fun x103 ds => dL kP ds fun x104 ds => dI ds fun x105 ds => dE ds (M.dflat_l3 x104 (Q .ret (St.mk (none :: none :: some (SV.bool false) :: nn 52 ([])) [])) (Q (.exit 0) (St.mk (nn 55 ([])) [])) (100 + x104.length) x105)
theorem dflat_l3_ok {α : Type} : LoopOk E.P 28 [false, true, false, true] 0 (lEnt (α := α) (St.mk (some (SV.ros undef kP []) :: none :: none :: some (SV.int .i64 (0 : Int)) :: nn 51 ([])) []) dflat_l3_go) :=
  lEnt_ok E (exec_sound E E_ok (look_dform_ok) (dflat_l2_lps_ok) 400) fun ds Q r h S hS => by
    unfold dflat_l3_go at h
    obtain ⟨x103, ds, rfl, h1⟩ := dV_inv h
    obtain ⟨x104, ds, rfl, h2⟩ := dL_inv h1
    obtain ⟨x105, ds, rfl, h3⟩ := dI_inv h2
    obtain ⟨rfl, hE⟩ := dE_inv h3
    have e : fillS (St.mk (some (SV.ros undef kP []) :: none :: none :: some (SV.int .i64 (0 : Int)) :: nn 51 ([])) []) [.v x103, .l kP x104, .i x105] = some (St.mk (some (SV.ros x103 kP x104) :: none :: none :: some (SV.int .i64 x105) :: nn 51 ([])) []) := by kernel_rfl
    rw [e] at hS
    cases hS
    exact ⟨_, (dflat_l3_iter x103 x104 Q _ x105).trans hE⟩
noncomputable def dflat_l3_lps {α : Type} : LookL α := addLp 28 [false, true, false, true] 0 (lEnt (St.mk (some (SV.ros undef kP []) :: none :: none :: some (SV.int .i64 (0 : Int)) :: nn 51 ([])) []) dflat_l3_go) dflat_l2_lps
theorem dflat_l3_lps_ok {α : Type} : LoopsOk E.P (dflat_l3_lps (α := α)) := addLp_ok dflat_l3_ok (dflat_l2_lps_ok)

noncomputable def _root_.Go.Proofs.Ytkjellhkamfciaa.M.dflat {α : Type} (l : L3) (k0 : Bool → Option α) : Option α :=
  M.dflat_l3 l (k0 false) (k0 true) ((100 : Nat) + List.length l) (0 : Int)
theorem dflat_eq {α : Type} (l : L3) (v107 : Value) (Q : SV → Hp → Option α) : callI E look_dform (exec E look_dform dflat_l3_lps 400) 28 ([SV.ros v107 kP l]) ([]) Q = M.dflat l (fun (x108 : Bool) => Q (SV.bool x108) ([])) := by kernel_rfl
def dflat_sp : List AS := [.ro kP]
def Off (l : List P3) (A B C : P3) : Prop := ∃ d ∈ l, dt3 (nrm A B C) (sub3 d A) ≠ 0
theorem Off.swap23 {l : List P3} {A B C : P3} (h : Off l A B C) : Off l A C B := by
  obtain ⟨d, hd, h1⟩ := h
  refine ⟨d, hd, ?_⟩
  rw [nrm_swap23, dt_neg]; omega
theorem Off.swap12 {l : List P3} {A B C : P3} (h : Off l A B C) : Off l B A C := by
  obtain ⟨d, hd, h1⟩ := h
  refine ⟨d, hd, ?_⟩
  rw [nrm_swap12, dt_neg, sub_sub d B A, dt_sub, nrm_dt]
  omega
theorem copl_off {l : List P3} (h : ¬ Copl l) : ∃ i j k, i < j ∧ j < k ∧ k < l.length ∧ Off l (pt l i) (pt l j) (pt l k) := by
  have : ∃ A ∈ l, ∃ B ∈ l, ∃ C ∈ l, Off l A B C := by
    apply Classical.byContradiction
    intro hn
    apply h
    intro a ha b hb c hc d hd
    apply Classical.byContradiction
    intro h0
    exact hn ⟨a, ha, b, hb, c, hc, d, hd, h0⟩
  obtain ⟨A, hA, B, hB, C, hC, hx⟩ := this
  have hne : nrm A B C ≠ (0, 0, 0) := by
    obtain ⟨d, _, h1⟩ := hx
    intro e; rw [e] at h1; simp [dt3] at h1
  obtain ⟨n1, n2, n3⟩ := nrm_ne12 hne
  obtain ⟨i, hi, rfl⟩ := pt_of_mem hA
  obtain ⟨j, hj, rfl⟩ := pt_of_mem hB
  obtain ⟨k, hk, rfl⟩ := pt_of_mem hC
  have m1 : i ≠ j := fun e => n1 (by rw [e])
  have m2 : i ≠ k := fun e => n2 (by rw [e])
  have m3 : j ≠ k := fun e => n3 (by rw [e])
  rcases Nat.lt_or_gt_of_ne m1 with c1 | c1 <;> rcases Nat.lt_or_gt_of_ne m2 with c2 | c2 <;> rcases Nat.lt_or_gt_of_ne m3 with c3 | c3
  · exact ⟨i, j, k, c1, c3, hk, hx⟩
  · exact ⟨i, k, j, c2, c3, hj, hx.swap23⟩
  · omega
  · exact ⟨k, i, j, c2, c1, hj, hx.swap23.swap12⟩
  · exact ⟨j, i, k, c1, c2, hk, hx.swap12⟩
  · omega
  · exact ⟨j, k, i, c3, c2, hi, hx.swap12.swap23⟩
  · exact ⟨k, j, i, c3, c1, hi, hx.swap12.swap23.swap12⟩
def offD (l : List P3) (m k i o : Nat) : Prop := V.pDot (triN l m k i) (V.pSub (pt l o) (pt l m)) ≠ 0
theorem offD_iff {l : List P3} (h : Pts l) {m k i o : Nat} (hm : m < l.length) (hk : k < l.length) (hi : i < l.length) (ho : o < l.length) : offD l m k i o ↔ dt3 (nrm (pt l m) (pt l k) (pt l i)) (sub3 (pt l o) (pt l m)) ≠ 0 := by
  obtain ⟨e, s⟩ := h.triN hm hk hi
  unfold offD
  rw [e, (h.sub hm ho).1, dt_sm s (h.sub hm ho).2]
  exact Iff.rfl
theorem flat_iff {l : List P3} (h : Pts l) : V.flatP l = true ↔ ¬ ∃ i, 0 ≤ i ∧ i < l.length ∧ ∃ k, 0 ≤ k ∧ k < i ∧ ∃ m, 0 ≤ m ∧ m < k ∧ ∃ o, 0 ≤ o ∧ o < l.length ∧ offD l m k i o := by
  rw [flatP_iff]
  constructor
  · rintro hc ⟨i, _, hi, k, _, hk, m, _, hm, o, _, ho, h1⟩
    rw [offD_iff h (by omega) (by omega) hi ho] at h1
    exact h1 (hc _ (pt_mem l m (by omega)) _ (pt_mem l k (by omega)) _ (pt_mem l i hi) _ (pt_mem l o ho))
  · intro hn
    apply Classical.byContradiction
    intro hc
    obtain ⟨m, k, i, h1, h2, h3, d, hd, h4⟩ := copl_off hc
    obtain ⟨o, ho, rfl⟩ := pt_of_mem hd
    exact hn ⟨i, Nat.zero_le _, h3, k, Nat.zero_le _, h2, m, Nat.zero_le _, h1, o, Nat.zero_le _, ho, (offD_iff h (by omega) (by omega) h3 ho).2 h4⟩
theorem dflat_l0_val {α : Type} (l : List P3) (hl : l.length < 1099511627776) (m k i : Nat) (hm : m < l.length) (k0 k2 : Option α) (fuel : Nat) (hf : l.length < fuel) :
    M.dflat_l0 l (m : Int) (triN l m k i).1 (triN l m k i).2.1 (triN l m k i).2.2 k0 k2 fuel 0 = if exB (∃ o, 0 ≤ o ∧ o < l.length ∧ offD l m k i o) = true then k0 else k2 := by
  refine scan (fun f o => M.dflat_l0 l (m : Int) (triN l m k i).1 (triN l m k i).2.1 (triN l m k i).2.2 k0 k2 f o) l.length (fun o => offD l m k i o) k0 k2 ?_ ?_ fuel 0 (by omega) (by omega)
  · intro f o ho
    show M.dflat_l0_step _ _ _ _ _ _ _ _ _ = _
    unfold M.dflat_l0_step
    have a : (0 : Int) ≤ (o : Int) ∧ (o : Int) < (l.length : Int) := by omega
    have b : (0 : Int) ≤ (m : Int) ∧ (m : Int) < (l.length : Int) := by omega
    rw [cLt_nat, if_pos (by simpa using ho), if_pos a, if_pos b, w_next (by omega), cEq_eq]
    exact if_exB (by simp only [toNat_nat, Bool.not_eq_true', beq_eq_false_iff_ne]; exact Iff.rfl) _ _
  · intro f
    show M.dflat_l0_step _ _ _ _ _ _ _ _ _ = _
    unfold M.dflat_l0_step
    rw [cLt_nat, if_neg (by simp)]
theorem dflat_l1_val {α : Type} (l : List P3) (hl : l.length < 1099511627776) (k i : Nat) (hk : k < i) (hi : i < l.length) (k0 k2 : Option α) (fuel : Nat) (hf : l.length < fuel) :
    M.dflat_l1 l (i : Int) (k : Int) k0 k2 fuel 0 = if exB (∃ m, 0 ≤ m ∧ m < k ∧ ∃ o, 0 ≤ o ∧ o < l.length ∧ offD l m k i o) = true then k0 else k2 := by
  refine scan (fun f m => M.dflat_l1 l (i : Int) (k : Int) k0 k2 f m) k (fun m => ∃ o, 0 ≤ o ∧ o < l.length ∧ offD l m k i o) k0 k2 ?_ ?_ fuel 0 (by omega) (by omega)
  · intro f m hm
    show M.dflat_l1_step _ _ _ _ _ _ _ = _
    unfold M.dflat_l1_step
    have a : (0 : Int) ≤ (m : Int) ∧ (m : Int) < (l.length : Int) := by omega
    have b : (0 : Int) ≤ (k : Int) ∧ (k : Int) < (l.length : Int) := by omega
    have c : (0 : Int) ≤ (i : Int) ∧ (i : Int) < (l.length : Int) := by omega
    rw [cLt_nat, if_pos (by simpa using hm), if_pos a, if_pos b, if_pos c, w_next (by omega)]
    exact dflat_l0_val l hl m k i (by omega) _ _ _ (by omega)
  · intro f
    show M.dflat_l1_step _ _ _ _ _ _ _ = _
    unfold M.dflat_l1_step
    rw [cLt_nat, if_neg (by simp)]
theorem dflat_l2_val {α : Type} (l : List P3) (hl : l.length < 1099511627776) (i : Nat) (hi : i < l.length) (k0 k2 : Option α) (fuel : Nat) (hf : l.length < fuel) :
    M.dflat_l2 l (i : Int) k0 k2 fuel 0 = if exB (∃ k, 0 ≤ k ∧ k < i ∧ ∃ m, 0 ≤ m ∧ m < k ∧ ∃ o, 0 ≤ o ∧ o < l.length ∧ offD l m k i o) = true then k0 else k2 := by
  refine scan (fun f k => M.dflat_l2 l (i : Int) k0 k2 f k) i (fun k => ∃ m, 0 ≤ m ∧ m < k ∧ ∃ o, 0 ≤ o ∧ o < l.length ∧ offD l m k i o) k0 k2 ?_ ?_ fuel 0 (by omega) (by omega)
  · intro f k hk
    show M.dflat_l2_step _ _ _ _ _ _ = _
    unfold M.dflat_l2_step
    rw [cLt_nat, if_pos (by simpa using hk), w_next (by omega)]
    exact dflat_l1_val l hl k i hk hi _ _ _ (by omega)
  · intro f
    show M.dflat_l2_step _ _ _ _ _ _ = _
    unfold M.dflat_l2_step
    rw [cLt_nat, if_neg (by simp)]
theorem dflat_v {α : Type} (l : List P3) (hg : V.ptsB l = true) (k0 : Bool → Option α) : M.dflat l k0 = k0 (V.flatP l) := by
  obtain ⟨g1, g2, g3, g4⟩ := ptsB_iff hg
  have hp : Pts l := ⟨fun p hp => sm_of (g1 p hp), g2⟩
  unfold M.dflat
  have h := scan (fun f i => M.dflat_l3 l (k0 false) (k0 true) f i) l.length (fun i => ∃ k, 0 ≤ k ∧ k < i ∧ ∃ m, 0 ≤ m ∧ m < k ∧ ∃ o, 0 ≤ o ∧ o < l.length ∧ offD l m k i o) (k0 false) (k0 true) ?_ ?_ (100 + l.length) 0 (by omega) (by omega)
  · refine Eq.trans h ?_
    cases hf : V.flatP l with
    | true =>
      rw [if_neg]
      rw [exB_false ((flat_iff hp).1 hf)]; decide
    | false =>
      rw [if_pos]
      apply exB_true
      apply Classical.byContradiction
      intro hn
      rw [(flat_iff hp).2 hn] at hf; cases hf
  · intro f i hi
    show M.dflat_l3_step _ _ _ _ _ = _
    unfold M.dflat_l3_step
    rw [cLt_nat, if_pos (by simpa using hi), w_next (by omega)]
    exact dflat_l2_val l g4 i hi _ _ _ (by omega)
  · intro f
    show M.dflat_l3_step _ _ _ _ _ = _
    unfold M.dflat_l3_step
    rw [cLt_nat, if_neg (by simp)]
noncomputable def dflat_h {α : Type} (ds : List D) (Q : SV → Hp → Option α) : Option α :=
  dL kP ds fun l ds => dE ds (if V.ptsB l = true then Q (.bool (V.flatP l)) ([]) else none)
theorem dflat_h_ok {α : Type} : FnOk E.P 28 (fEnt (α := α) dflat_sp dflat_h) :=
  fEntR_ok E (look_dform_ok) (exec_sound E E_ok (look_dform_ok) (dflat_l3_lps_ok) 400) fun ds Q r h => by
    unfold dflat_h at h
    obtain ⟨l, ds, rfl, h1⟩ := dL_inv h
    obtain ⟨rfl, hE⟩ := dE_inv h1
    split at hE
    · rename_i hg
      exact ⟨_, _, hE, fun vs => ⟨_, _, by kernel_rfl, (dflat_eq l (vs.headD undef) _).trans (dflat_v l hg _)⟩⟩
    · cases hE
noncomputable def look_dflat {α : Type} : LookF α := addFn 28 (fEnt dflat_sp dflat_h) look_dform
theorem look_dflat_ok {α : Type} : LookOk E.P (look_dflat (α := α)) := addFn_ok dflat_h_ok (look_dform_ok)
noncomputable def _root_.Go.Proofs.Ytkjellhkamfciaa.M.dcheck {α : Type} (k : Int) (r : Int) (hx : Int) (hy : Int) (hz : Int) (l : L3) (k0 : Int → Option α) : Option α :=
  if (!V.form k r hx hy hz l) = true then k0 (50 : Int) else if cEq k (4 : Int) = true then if V.ptsB l = true then if V.flatP l = true then k0 (51 : Int) else k0 (0 : Int) else none else k0 (0 : Int)
theorem dcheck_eq {α : Type} (k : Int) (r : Int) (hx : Int) (hy : Int) (hz : Int) (l : L3) (v109 : Value) (Q : SV → Hp → Option α) : callI E look_dflat (exec E look_dflat noLps 400) 12 ([SV.agg [SV.int .i64 k, SV.int .i64 r, SV.int .i64 hx, SV.int .i64 hy, SV.int .i64 hz, SV.ros v109 kP l]]) ([]) Q = M.dcheck k r hx hy hz l (fun (x110 : Int) => Q (SV.int .i64 x110) ([])) := by kernel_rfl
def dcheck_sp : List AS := [.st [.leaf (.int .i64 0), .leaf (.int .i64 0), .leaf (.int .i64 0), .leaf (.int .i64 0), .leaf (.int .i64 0), .ro kP]]
theorem dcheck_v {α : Type} (k r hx hy hz : Int) (l : List P3) (k0 : Int → Option α) : M.dcheck k r hx hy hz l k0 = k0 (V.chk k r hx hy hz l) := by
  unfold M.dcheck V.chk V.form
  simp only [hid_eq, cEq_eq, beq_iff_eq]
  rw [chk_form]
  cases h : formP k r hx hy hz l with
  | false => simp
  | true =>
    by_cases h4 : k = 4
    · subst h4
      have hf : inZ (l.length : Int) 4 12 = true ∧ V.apartP l = true := by
        unfold formP at h
        simp at h
        exact ⟨h.1.1, h.1.2⟩
      have hl : 4 ≤ l.length ∧ l.length ≤ 12 := by have := hf.1; simp [inZ] at this; omega
      have hp := ptsB_of hf.2 (by omega) (by omega)
      cases V.flatP l <;> simp [hp]
    · simp [h4]
noncomputable def dcheck_h {α : Type} (ds : List D) (Q : SV → Hp → Option α) : Option α :=
  dI ds fun k ds => dI ds fun r ds => dI ds fun hx ds => dI ds fun hy ds => dI ds fun hz ds => dL kP ds fun l ds => dE ds (Q (.int .i64 (V.chk k r hx hy hz l)) ([]))
theorem dcheck_h_ok {α : Type} : FnOk E.P 12 (fEnt (α := α) dcheck_sp dcheck_h) :=
  fEntR_ok E (look_dflat_ok) (exec_sound E E_ok (look_dflat_ok) (noLps_ok _) 400) fun ds Q r h => by
    unfold dcheck_h at h
    obtain ⟨k, ds, rfl, h1⟩ := dI_inv h
    obtain ⟨r, ds, rfl, h2⟩ := dI_inv h1
    obtain ⟨hx, ds, rfl, h3⟩ := dI_inv h2
    obtain ⟨hy, ds, rfl, h4⟩ := dI_inv h3
    obtain ⟨hz, ds, rfl, h5⟩ := dI_inv h4
    obtain ⟨l, ds, rfl, h6⟩ := dL_inv h5
    obtain ⟨rfl, hE⟩ := dE_inv h6
    exact ⟨_, _, hE, fun vs => ⟨_, _, by kernel_rfl, (dcheck_eq k r hx hy hz l ((cellsV (vs.headD undef)).tail.tail.tail.tail.tail.headD undef) _).trans (dcheck_v k r hx hy hz l _)⟩⟩
noncomputable def look_dcheck {α : Type} : LookF α := addFn 12 (fEnt dcheck_sp dcheck_h) look_dflat
theorem look_dcheck_ok {α : Type} : LookOk E.P (look_dcheck (α := α)) := addFn_ok dcheck_h_ok (look_dflat_ok)
end Go.Proofs.Ytkjellhkamfciaa.Sx
end
