/- the document's short directions. -/
import Derived.Test.YtkjellhkamfciaaSrA
namespace Go.Proofs.Ytkjellhkamfciaa.Sx
open Go
set_option maxRecDepth 20000
set_option linter.unusedVariables false
set_option linter.unusedSimpArgs false
noncomputable def _root_.Go.Proofs.Ytkjellhkamfciaa.M.dshort_l0_step {α : Type} (kn : Int → Int → Int → Option α) (k1 : Int → Int → Int → Option α) (x9 : Int) (x10 : Int) (x11 : Int) : Option α :=
  if cLt (1048576 : Int) (V.dsize_r0 x9) = true then kn (IntKind.wrap .i64 (Int.tdiv x9 (2 : Int))) (IntKind.wrap .i64 (Int.tdiv x10 (2 : Int))) (IntKind.wrap .i64 (Int.tdiv x11 (2 : Int)))
else if cLt (1048576 : Int) (V.dsize_r0 x10) = true then kn (IntKind.wrap .i64 (Int.tdiv x9 (2 : Int))) (IntKind.wrap .i64 (Int.tdiv x10 (2 : Int))) (IntKind.wrap .i64 (Int.tdiv x11 (2 : Int))) else if cLt (1048576 : Int) (V.dsize_r0 x11) = true then kn (IntKind.wrap .i64 (Int.tdiv x9 (2 : Int))) (IntKind.wrap .i64 (Int.tdiv x10 (2 : Int))) (IntKind.wrap .i64 (Int.tdiv x11 (2 : Int))) else k1 x9 x10 x11
noncomputable def _root_.Go.Proofs.Ytkjellhkamfciaa.M.dshort_l0 {α : Type} (k1 : Int → Int → Int → Option α) : Nat → Int → Int → Int → Option α
  | 0, _, _, _ => none
  | n + 1, x9, x10, x11 => M.dshort_l0_step (M.dshort_l0 k1 n) k1 x9 x10 x11
theorem dshort_l0_step_eq {α : Type} (x6 : Int) (x7 : Int) (x8 : Int) (x9 : Int) (x10 : Int) (x11 : Int) (Q : Ex → St → Option α) : (loopStep E (exec E look_dbare noLps 400) 22 [false, false, true, true, true] 0 (codeAt E.P 22 [false, false, true, true, true])) (St.mk (none :: none :: some (SV.ptr (nat_lit 0) (nat_lit 0)) :: some (SV.ptr (nat_lit 1) (nat_lit 0)) :: nn 47 ([]))
  [.cells [SV.int .i64 x6, SV.int .i64 x7, SV.int .i64 x8] (nat_lit 23), .cells [SV.int .i64 x9, SV.int .i64 x10, SV.int .i64 x11] (nat_lit 23)]) Q = M.dshort_l0_step (fun (x15 : Int) (x16 : Int) (x17 : Int) => Q .normal (St.mk (none :: none :: some (SV.ptr (nat_lit 0) (nat_lit 0)) :: some (SV.ptr (nat_lit 1) (nat_lit 0)) :: nn 47 ([]))
  [.cells [SV.int .i64 x6, SV.int .i64 x7, SV.int .i64 x8] (nat_lit 23), .cells [SV.int .i64 x15, SV.int .i64 x16, SV.int .i64 x17] (nat_lit 23)])) (fun (x12 : Int) (x13 : Int) (x14 : Int) => Q (.exit 0) (St.mk (none :: none :: some (SV.ptr (nat_lit 0) (nat_lit 0)) :: some (SV.ptr (nat_lit 1) (nat_lit 0)) :: nn 47 ([]))
  [.cells [SV.int .i64 x6, SV.int .i64 x7, SV.int .i64 x8] (nat_lit 23), .cells [SV.int .i64 x12, SV.int .i64 x13, SV.int .i64 x14] (nat_lit 23)])) x9 x10 x11 := by kernel_rfl
theorem dshort_l0_iter {α : Type} (x6 : Int) (x7 : Int) (x8 : Int) (Q : Ex → St → Option α) : ∀ (n : Nat) (x9 : Int) (x10 : Int) (x11 : Int), iter (loopStep E (exec E look_dbare noLps 400) 22 [false, false, true, true, true] 0 (codeAt E.P 22 [false, false, true, true, true])) n (St.mk (none :: none :: some (SV.ptr (nat_lit 0) (nat_lit 0)) :: some (SV.ptr (nat_lit 1) (nat_lit 0)) :: nn 47 ([]))
  [.cells [SV.int .i64 x6, SV.int .i64 x7, SV.int .i64 x8] (nat_lit 23), .cells [SV.int .i64 x9, SV.int .i64 x10, SV.int .i64 x11] (nat_lit 23)]) Q = M.dshort_l0 (fun (x12 : Int) (x13 : Int) (x14 : Int) => Q (.exit 0) (St.mk (none :: none :: some (SV.ptr (nat_lit 0) (nat_lit 0)) :: some (SV.ptr (nat_lit 1) (nat_lit 0)) :: nn 47 ([]))
  [.cells [SV.int .i64 x6, SV.int .i64 x7, SV.int .i64 x8] (nat_lit 23), .cells [SV.int .i64 x12, SV.int .i64 x13, SV.int .i64 x14] (nat_lit 23)])) n x9 x10 x11
  | 0, _, _, _ => rfl
  | n + 1, x9, x10, x11 => (dshort_l0_step_eq x6 x7 x8 x9 x10 x11 (iterK (loopStep E (exec E look_dbare noLps 400) 22 [false, false, true, true, true] 0 (codeAt E.P 22 [false, false, true, true, true])) n Q)).trans (congrArg (fun kn => M.dshort_l0_step kn (fun (x12 : Int) (x13 : Int) (x14 : Int) => Q (.exit 0) (St.mk (none :: none :: some (SV.ptr (nat_lit 0) (nat_lit 0)) :: some (SV.ptr (nat_lit 1) (nat_lit 0)) :: nn 47 ([]))
  [.cells [SV.int .i64 x6, SV.int .i64 x7, SV.int .i64 x8] (nat_lit 23), .cells [SV.int .i64 x12, SV.int .i64 x13, SV.int .i64 x14] (nat_lit 23)])) x9 x10 x11) (funext fun x9 => funext fun x10 => funext fun x11 => dshort_l0_iter x6 x7 x8 Q n x9 x10 x11))
noncomputable def dshort_l0_go {α : Type} (ds : List D) (Q : Ex → St → Option α) : Option α :=
  dI ds fun x6 ds => dI ds fun x7 ds => dI ds fun x8 ds => dI ds fun x9 ds => dI ds fun x10 ds => dI ds fun x11 ds => dE ds (M.dshort_l0 (fun (x12 : Int) (x13 : Int) (x14 : Int) => Q (.exit 0) (St.mk (none :: none :: some (SV.ptr (nat_lit 0) (nat_lit 0)) :: some (SV.ptr (nat_lit 1) (nat_lit 0)) :: nn 47 ([]))
  [.cells [SV.int .i64 x6, SV.int .i64 x7, SV.int .i64 x8] (nat_lit 23), .cells [SV.int .i64 x12, SV.int .i64 x13, SV.int .i64 x14] (nat_lit 23)])) (100) x9 x10 x11)
theorem dshort_l0_ok {α : Type} : LoopOk E.P 22 [false, false, true, true, true] 0 (lEnt (α := α) (St.mk (none :: none :: some (SV.ptr (nat_lit 0) (nat_lit 0)) :: some (SV.ptr (nat_lit 1) (nat_lit 0)) :: nn 47 ([]))
  [.cells [SV.int .i64 (0 : Int), SV.int .i64 (0 : Int), SV.int .i64 (0 : Int)] (nat_lit 23), .cells [SV.int .i64 (0 : Int), SV.int .i64 (0 : Int), SV.int .i64 (0 : Int)] (nat_lit 23)]) dshort_l0_go) :=
  lEnt_ok E (exec_sound E E_ok (look_dbare_ok) (noLps_ok _) 400) fun ds Q r h S hS => by
    unfold dshort_l0_go at h
    obtain ⟨x6, ds, rfl, h1⟩ := dI_inv h
    obtain ⟨x7, ds, rfl, h2⟩ := dI_inv h1
    obtain ⟨x8, ds, rfl, h3⟩ := dI_inv h2
    obtain ⟨x9, ds, rfl, h4⟩ := dI_inv h3
    obtain ⟨x10, ds, rfl, h5⟩ := dI_inv h4
    obtain ⟨x11, ds, rfl, h6⟩ := dI_inv h5
    obtain ⟨rfl, hE⟩ := dE_inv h6
    have e : fillS (St.mk (none :: none :: some (SV.ptr (nat_lit 0) (nat_lit 0)) :: some (SV.ptr (nat_lit 1) (nat_lit 0)) :: nn 47 ([]))
  [.cells [SV.int .i64 (0 : Int), SV.int .i64 (0 : Int), SV.int .i64 (0 : Int)] (nat_lit 23), .cells [SV.int .i64 (0 : Int), SV.int .i64 (0 : Int), SV.int .i64 (0 : Int)] (nat_lit 23)]) [.i x6, .i x7, .i x8, .i x9, .i x10, .i x11] = some (St.mk (none :: none :: some (SV.ptr (nat_lit 0) (nat_lit 0)) :: some (SV.ptr (nat_lit 1) (nat_lit 0)) :: nn 47 ([]))
  [.cells [SV.int .i64 x6, SV.int .i64 x7, SV.int .i64 x8] (nat_lit 23), .cells [SV.int .i64 x9, SV.int .i64 x10, SV.int .i64 x11] (nat_lit 23)]) := by kernel_rfl
    rw [e] at hS
    cases hS
    exact ⟨_, (dshort_l0_iter x6 x7 x8 Q _ x9 x10 x11).trans hE⟩
noncomputable def dshort_l0_lps {α : Type} : LookL α := addLp 22 [false, false, true, true, true] 0 (lEnt (St.mk (none :: none :: some (SV.ptr (nat_lit 0) (nat_lit 0)) :: some (SV.ptr (nat_lit 1) (nat_lit 0)) :: nn 47 ([]))
  [.cells [SV.int .i64 (0 : Int), SV.int .i64 (0 : Int), SV.int .i64 (0 : Int)] (nat_lit 23), .cells [SV.int .i64 (0 : Int), SV.int .i64 (0 : Int), SV.int .i64 (0 : Int)] (nat_lit 23)]) dshort_l0_go) noLps
theorem dshort_l0_lps_ok {α : Type} : LoopsOk E.P (dshort_l0_lps (α := α)) := addLp_ok dshort_l0_ok (noLps_ok _)

noncomputable def _root_.Go.Proofs.Ytkjellhkamfciaa.M.dshort {α : Type} (ax : Int) (ay : Int) (az : Int) (k0 : Int → Int → Int → Option α) : Option α :=
  if (!V.shwithin_r0 ax (-4398046511104 : Int) (4398046511104 : Int)) = true then k0 (0 : Int) (0 : Int) (0 : Int)
else
  if (!V.shwithin_r0 ay (-4398046511104 : Int) (4398046511104 : Int)) = true then k0 (0 : Int) (0 : Int) (0 : Int)
  else
    if (!V.shwithin_r0 az (-4398046511104 : Int) (4398046511104 : Int)) = true then k0 (0 : Int) (0 : Int) (0 : Int)
    else if V.brB (ax, ay, az) = true then M.dshort_l0 (fun (x18 x19 x20 : Int) ↦ if V.brB (x18, x19, x20) = true then k0 (Prod.fst (V.pBare (x18, x19, x20))) (Prod.fst (Prod.snd (V.pBare (x18, x19, x20)))) (Prod.snd (Prod.snd (V.pBare (x18, x19, x20)))) else none) (100 : Nat) (Prod.fst (V.pBare (ax, ay, az))) (Prod.fst (Prod.snd (V.pBare (ax, ay, az)))) (Prod.snd (Prod.snd (V.pBare (ax, ay, az)))) else none
theorem dshort_eq {α : Type} (ax : Int) (ay : Int) (az : Int) (Q : SV → Hp → Option α) : callI E look_dbare (exec E look_dbare dshort_l0_lps 400) 22 ([SV.agg [SV.int .i64 ax, SV.int .i64 ay, SV.int .i64 az]]) ([]) Q = M.dshort ax ay az (fun (x21 : Int) (x22 : Int) (x23 : Int) => Q (SV.agg [SV.int .i64 x21, SV.int .i64 x22, SV.int .i64 x23]) ([])) := by kernel_rfl
def dshort_sp : List AS := [.val (.agg [.int .i64 0, .int .i64 0, .int .i64 0])]
noncomputable def dshort_go {α : Type} (ds : List D) (Q : SV → Hp → Option α) : Option α :=
  dI ds fun ax ds => dI ds fun ay ds => dI ds fun az ds => dE ds (M.dshort ax ay az (fun (x21 : Int) (x22 : Int) (x23 : Int) => Q (SV.agg [SV.int .i64 x21, SV.int .i64 x22, SV.int .i64 x23]) ([])))
theorem dshort_ok {α : Type} : FnOk E.P 22 (fEnt (α := α) dshort_sp dshort_go) :=
  fEnt_ok E (look_dbare_ok) (exec_sound E E_ok (look_dbare_ok) (dshort_l0_lps_ok) 400) fun ds Q r h => by
    unfold dshort_go at h
    obtain ⟨ax, ds, rfl, h1⟩ := dI_inv h
    obtain ⟨ay, ds, rfl, h2⟩ := dI_inv h1
    obtain ⟨az, ds, rfl, h3⟩ := dI_inv h2
    obtain ⟨rfl, hE⟩ := dE_inv h3
    exact ⟨[SV.agg [SV.int .i64 ax, SV.int .i64 ay, SV.int .i64 az]], [], fun vs => by kernel_rfl, (dshort_eq ax ay az Q).trans hE⟩
theorem bigP_abs (p : P3) (n : Nat) : bigP p (n : Int) = (decide ((n : Int) < (p.1.natAbs : Int)) || (decide ((n : Int) < (p.2.1.natAbs : Int)) || decide ((n : Int) < (p.2.2.natAbs : Int)))) := by
  rw [Bool.eq_iff_iff]
  simp only [bigP, Bool.or_eq_true, decide_eq_true_eq]
  omega
theorem dshort_l0_val {α : Type} (k1 : Int → Int → Int → Option α) : ∀ (k fuel : Nat) (p : P3), bigP p (lim k) = false → bigP p 4398046511104 = false → k < fuel →
    M.dshort_l0 k1 fuel p.1 p.2.1 p.2.2 = k1 (shrinkP k p).1 (shrinkP k p).2.1 (shrinkP k p).2.2
  | k, 0, p, h, h2, h3 => by omega
  | k, f + 1, p, h, h2, h3 => by
    unfold M.dshort_l0 M.dshort_l0_step
    have h4 := bigP_false h2
    have h5 := bigP_false (bigP_div 2 h2)
    simp only [divP] at h5
    rw [dsz_abs (by omega), dsz_abs (by omega), dsz_abs (by omega), IntWalk.i64_in _ (by omega : -9223372036854775808 ≤ Int.tdiv p.1 2 ∧ _), IntWalk.i64_in _ (by omega : -9223372036854775808 ≤ Int.tdiv p.2.1 2 ∧ _), IntWalk.i64_in _ (by omega : -9223372036854775808 ≤ Int.tdiv p.2.2 2 ∧ _)]
    simp only [cLt_eq]
    have hb := bigP_abs p 1048576
    simp only [Int.cast_ofNat_Int] at hb
    have step : ∀ (X Y : Option α), (if decide ((1048576 : Int) < (p.1.natAbs : Int)) = true then X else if decide ((1048576 : Int) < (p.2.1.natAbs : Int)) = true then X else if decide ((1048576 : Int) < (p.2.2.natAbs : Int)) = true then X else Y) = if bigP p 1048576 = true then X else Y := by
      intro X Y
      rw [show bigP p 1048576 = (decide ((1048576 : Int) < (p.1.natAbs : Int)) || (decide ((1048576 : Int) < (p.2.1.natAbs : Int)) || decide ((1048576 : Int) < (p.2.2.natAbs : Int)))) from hb]
      cases decide ((1048576 : Int) < (p.1.natAbs : Int)) <;> cases decide ((1048576 : Int) < (p.2.1.natAbs : Int)) <;> cases decide ((1048576 : Int) < (p.2.2.natAbs : Int)) <;> rfl
    rw [step]
    by_cases hb : bigP p 1048576 = true
    · rw [if_pos hb]
      cases k with
      | zero => exact absurd hb (by rw [← lim_zero, h]; decide)
      | succ k =>
        have ih := dshort_l0_val k1 k f (divP p 2) (halved h) (bigP_div 2 h2) (by omega)
        have e : shrinkP (k + 1) p = shrinkP k (divP p 2) := by simp [shrinkP, hb]
        rw [e, ← ih]
        rfl
    · rw [if_neg hb, shrink_stop k (by simpa using hb)]
theorem dshort_v {α : Type} (ax ay az : Int) (k0 : Int → Int → Int → Option α) : M.dshort ax ay az k0 = k0 (V.pShort (ax, ay, az)).1 (V.pShort (ax, ay, az)).2.1 (V.pShort (ax, ay, az)).2.2 := by
  unfold M.dshort V.pShort
  rw [hid_eq]
  simp only [within_eq]
  unfold shortP
  by_cases h1 : bigP (ax, ay, az) 4398046511104 = true
  · rw [if_pos h1]
    have : ¬ (inZ ax (-4398046511104) 4398046511104 = true ∧ inZ ay (-4398046511104) 4398046511104 = true ∧ inZ az (-4398046511104) 4398046511104 = true) := by
      simp [bigP] at h1; simp [inZ]; omega
    cases a : inZ ax (-4398046511104) 4398046511104 <;> cases b : inZ ay (-4398046511104) 4398046511104 <;> cases c : inZ az (-4398046511104) 4398046511104 <;> simp_all
  · have h1' : bigP (ax, ay, az) 4398046511104 = false := by simpa using h1
    have hf := bigP_false h1'
    simp only at hf
    have a : inZ ax (-4398046511104) 4398046511104 = true := by simp [inZ]; omega
    have b : inZ ay (-4398046511104) 4398046511104 = true := by simp [inZ]; omega
    have c : inZ az (-4398046511104) 4398046511104 = true := by simp [inZ]; omega
    rw [a, b, c, if_neg (by decide), if_neg (by decide), if_neg (by decide), if_neg h1, if_pos (brB_iff.2 h1')]
    have hs : bigP (bareP (ax, ay, az)) 4398046511104 = false := bigP_div _ h1'
    have e0 : V.pBare (ax, ay, az) = bareP (ax, ay, az) := hid_eq _
    rw [e0]
    have hl := dshort_l0_val (fun (x21 x22 x23 : Int) => if V.brB (x21, x22, x23) = true then k0 (V.pBare (x21, x22, x23)).1 (V.pBare (x21, x22, x23)).2.1 (V.pBare (x21, x22, x23)).2.2 else none) 64 100 (bareP (ax, ay, az)) (by
      have := bigP_false hs
      apply bigP_eq_false
      have e := lim_64
      omega) hs (by omega)
    refine Eq.trans hl ?_
    have e1 : V.pBare (shrinkP 64 (bareP (ax, ay, az))) = bareP (shrinkP 64 (bareP (ax, ay, az))) := hid_eq _
    show (if V.brB (shrinkP 64 (bareP (ax, ay, az))) = true then k0 (V.pBare (shrinkP 64 (bareP (ax, ay, az)))).1 (V.pBare (shrinkP 64 (bareP (ax, ay, az)))).2.1 (V.pBare (shrinkP 64 (bareP (ax, ay, az)))).2.2 else none) = _
    rw [if_pos (brB_iff.2 (shrink_big _ _ _ hs)), e1]
noncomputable def dshort_h {α : Type} (ds : List D) (Q : SV → Hp → Option α) : Option α :=
  dI ds fun ax ds => dI ds fun ay ds => dI ds fun az ds => dE ds (Q (.agg [.int .i64 (V.pShort (ax, ay, az)).1, .int .i64 (V.pShort (ax, ay, az)).2.1, .int .i64 (V.pShort (ax, ay, az)).2.2]) ([]))
theorem dshort_h_ok {α : Type} : FnOk E.P 22 (fEnt (α := α) dshort_sp dshort_h) :=
  fEnt_ok E (look_dbare_ok) (exec_sound E E_ok (look_dbare_ok) (dshort_l0_lps_ok) 400) fun ds Q r h => by
    unfold dshort_h at h
    obtain ⟨ax, ds, rfl, h1⟩ := dI_inv h
    obtain ⟨ay, ds, rfl, h2⟩ := dI_inv h1
    obtain ⟨az, ds, rfl, h3⟩ := dI_inv h2
    obtain ⟨rfl, hE⟩ := dE_inv h3
    exact ⟨[SV.agg [SV.int .i64 ax, SV.int .i64 ay, SV.int .i64 az]], [], fun vs => by kernel_rfl, (dshort_eq ax ay az Q).trans ((dshort_v ax ay az _).trans hE)⟩
noncomputable def look_dshort {α : Type} : LookF α := addFn 22 (fEnt dshort_sp dshort_h) look_dbare
theorem look_dshort_ok {α : Type} : LookOk E.P (look_dshort (α := α)) := addFn_ok dshort_h_ok (look_dbare_ok)
end Go.Proofs.Ytkjellhkamfciaa.Sx
