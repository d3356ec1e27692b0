/- the document's shapes: whether they may be. -/
import Derived.Test.YtkjellhkamfciaaSrB
import Derived.Test.YtkjellhkamfciaaShQ
namespace Go.Proofs.Ytkjellhkamfciaa.Sx
open Go
set_option maxRecDepth 20000
set_option linter.unusedVariables false
set_option linter.unusedSimpArgs false
/-! Loops that look for something. -/
noncomputable def exB (p : Prop) : Bool := @decide p (Classical.propDecidable p)
theorem exB_iff {p : Prop} : exB p = true ↔ p := by unfold exB; exact @decide_eq_true_iff p (Classical.propDecidable p)
theorem exB_true {p : Prop} (h : p) : exB p = true := exB_iff.2 h
theorem exB_false {p : Prop} (h : ¬ p) : exB p = false := by rw [Bool.eq_false_iff]; exact fun h' => h (exB_iff.1 h')
theorem if_exB {c p : Prop} [Decidable c] (h : c ↔ p) {τ : Type} (a b : τ) : (if c then a else b) = if exB p = true then a else b := by
  by_cases hc : c
  · rw [if_pos hc, if_pos (exB_true (h.1 hc))]
  · rw [if_neg hc, if_neg (by rw [exB_false fun hp => hc (h.2 hp)]; decide)]
theorem scan {α : Type} (F : Nat → Int → Option α) (n : Nat) (bad : Nat → Prop) (k0 k2 : Option α)
    (hstep : ∀ f i, i < n → F (f + 1) (i : Int) = if exB (bad i) = true then k0 else F f ((i + 1 : Nat) : Int)) (hend : ∀ f, F (f + 1) (n : Int) = k2) :
    ∀ fuel i, i ≤ n → n - i < fuel → F fuel (i : Int) = if exB (∃ j, i ≤ j ∧ j < n ∧ bad j) = true then k0 else k2
  | 0, i, h1, h2 => by omega
  | f + 1, i, h1, h2 => by
    by_cases hi : i < n
    · rw [hstep f i hi]
      by_cases hb : bad i
      · rw [if_pos (exB_true hb), if_pos (exB_true ⟨i, Nat.le_refl _, hi, hb⟩)]
      · rw [if_neg (by rw [exB_false hb]; decide), scan F n bad k0 k2 hstep hend f (i + 1) (by omega) (by omega)]
        have e : exB (∃ j, i + 1 ≤ j ∧ j < n ∧ bad j) = exB (∃ j, i ≤ j ∧ j < n ∧ bad j) := by
          congr 1
          apply propext
          constructor
          · rintro ⟨j, a, b, c⟩; exact ⟨j, by omega, b, c⟩
          · rintro ⟨j, a, b, c⟩
            by_cases e : j = i
            · subst e; exact absurd c hb
            · exact ⟨j, by omega, b, c⟩
        rw [e]
    · have : i = n := by omega
      subst this
      rw [hend f, if_neg]
      rw [exB_false]
      · decide
      · rintro ⟨j, a, b, _⟩; omega
noncomputable def _root_.Go.Proofs.Ytkjellhkamfciaa.M.dwithin {α : Type} (ax : Int) (ay : Int) (az : Int) (lo : Int) (hi : Int) (k0 : Bool → Option α) : Option α :=
  if V.shwithin_r0 ax lo hi = true then if V.shwithin_r0 ay lo hi = true then k0 (V.shwithin_r0 az lo hi) else k0 false else k0 false
theorem dwithin_eq {α : Type} (ax : Int) (ay : Int) (az : Int) (lo : Int) (hi : Int) (Q : SV → Hp → Option α) : callI E look_dshort (exec E look_dshort noLps 400) 56 ([SV.agg [SV.int .i64 ax, SV.int .i64 ay, SV.int .i64 az], SV.int .i64 lo, SV.int .i64 hi]) ([]) Q = M.dwithin ax ay az lo hi (fun (x0 : Bool) => Q (SV.bool x0) ([])) := by kernel_rfl
def dwithin_sp : List AS := [.val (.agg [.int .i64 0, .int .i64 0, .int .i64 0]), .val (.int .i64 0), .val (.int .i64 0)]
noncomputable def _root_.Go.Proofs.Ytkjellhkamfciaa.V.dwithin_r0 (ax : Int) (ay : Int) (az : Int) (lo : Int) (hi : Int) : Bool :=
  if V.shwithin_r0 ax lo hi = true then if V.shwithin_r0 ay lo hi = true then V.shwithin_r0 az lo hi else false else false
theorem dwithin_val {α : Type} (ax : Int) (ay : Int) (az : Int) (lo : Int) (hi : Int) (k0 : Bool → Option α) : M.dwithin ax ay az lo hi k0 = k0 (V.dwithin_r0 ax ay az lo hi) := by
  unfold M.dwithin V.dwithin_r0
  repeat' first | rfl | (split <;> rename_i h <;> first | simp only [if_pos h] | simp only [if_neg h] | skip)
noncomputable def dwithin_c {α : Type} (ds : List D) (Q : SV → Hp → Option α) : Option α :=
  dI ds fun ax ds => dI ds fun ay ds => dI ds fun az ds => dI ds fun lo ds => dI ds fun hi ds => dE ds (Q (SV.bool (V.dwithin_r0 ax ay az lo hi)) ([]))
theorem dwithin_c_ok {α : Type} : FnOk E.P 56 (fEnt (α := α) dwithin_sp dwithin_c) :=
  fEnt_ok E (look_dshort_ok) (exec_sound E E_ok (look_dshort_ok) (noLps_ok _) 400) fun ds Q r h => by
    unfold dwithin_c at h
    obtain ⟨ax, ds, rfl, h1⟩ := dI_inv h
    obtain ⟨ay, ds, rfl, h2⟩ := dI_inv h1
    obtain ⟨az, ds, rfl, h3⟩ := dI_inv h2
    obtain ⟨lo, ds, rfl, h4⟩ := dI_inv h3
    obtain ⟨hi, ds, rfl, h5⟩ := dI_inv h4
    obtain ⟨rfl, hE⟩ := dE_inv h5
    exact ⟨[SV.agg [SV.int .i64 ax, SV.int .i64 ay, SV.int .i64 az], SV.int .i64 lo, SV.int .i64 hi], [], fun vs => by kernel_rfl, (dwithin_eq ax ay az lo hi Q).trans ((dwithin_val ax ay az lo hi (fun (x0 : Bool) => Q (SV.bool x0) ([]))).trans hE)⟩
noncomputable def dwithin_go {α : Type} (ds : List D) (Q : SV → Hp → Option α) : Option α :=
  dI ds fun ax ds => dI ds fun ay ds => dI ds fun az ds => dI ds fun lo ds => dI ds fun hi ds => dE ds (M.dwithin ax ay az lo hi (fun (x0 : Bool) => Q (SV.bool x0) ([])))
theorem dwithin_ok {α : Type} : FnOk E.P 56 (fEnt (α := α) dwithin_sp dwithin_go) :=
  fEnt_ok E (look_dshort_ok) (exec_sound E E_ok (look_dshort_ok) (noLps_ok _) 400) fun ds Q r h => by
    unfold dwithin_go at h
    obtain ⟨ax, ds, rfl, h1⟩ := dI_inv h
    obtain ⟨ay, ds, rfl, h2⟩ := dI_inv h1
    obtain ⟨az, ds, rfl, h3⟩ := dI_inv h2
    obtain ⟨lo, ds, rfl, h4⟩ := dI_inv h3
    obtain ⟨hi, ds, rfl, h5⟩ := dI_inv h4
    obtain ⟨rfl, hE⟩ := dE_inv h5
    exact ⟨[SV.agg [SV.int .i64 ax, SV.int .i64 ay, SV.int .i64 az], SV.int .i64 lo, SV.int .i64 hi], [], fun vs => by kernel_rfl, (dwithin_eq ax ay az lo hi Q).trans hE⟩
noncomputable def look_dwithin {α : Type} : LookF α := addFn 56 (fEnt dwithin_sp dwithin_c) look_dshort
theorem look_dwithin_ok {α : Type} : LookOk E.P (look_dwithin (α := α)) := addFn_ok dwithin_c_ok (look_dshort_ok)
noncomputable def _root_.Go.Proofs.Ytkjellhkamfciaa.M.dform_l0_step {α : Type} (x27 : Int) (x35 : L3) (kn : Int → Option α) (k0 : Option α) (k2 : Option α) (x28 : Int) : Option α :=
  if cLt x28 x27 = true then
  if (0 : Int) ≤ x28 ∧ x28 < (↑(List.length x35) : Int) then
    if (0 : Int) ≤ x27 ∧ x27 < (↑(List.length x35) : Int) then
      if
          (cEq (Prod.fst (List.getD x35 (Int.toNat x28) ((0 : Int), (0 : Int), (0 : Int)))) (Prod.fst (List.getD x35 (Int.toNat x27) ((0 : Int), (0 : Int), (0 : Int)))) &&
              (cEq (Prod.fst (Prod.snd (List.getD x35 (Int.toNat x28) ((0 : Int), (0 : Int), (0 : Int))))) (Prod.fst (Prod.snd (List.getD x35 (Int.toNat x27) ((0 : Int), (0 : Int), (0 : Int))))) && (cEq (Prod.snd (Prod.snd (List.getD x35 (Int.toNat x28) ((0 : Int), (0 : Int), (0 : Int))))) (Prod.snd (Prod.snd (List.getD x35 (Int.toNat x27) ((0 : Int), (0 : Int), (0 : Int))))) && true))) =
            true then
        k0
      else kn (IntKind.wrap .i64 (x28 + (1 : Int)))
    else none
  else none
else k2
noncomputable def _root_.Go.Proofs.Ytkjellhkamfciaa.M.dform_l0 {α : Type} (x27 : Int) (x35 : L3) (k0 : Option α) (k2 : Option α) : Nat → Int → Option α
  | 0, _ => none
  | n + 1, x28 => M.dform_l0_step x27 x35 (M.dform_l0 x27 x35 k0 k2 n) k0 k2 x28
theorem dform_l0_step_eq {α : Type} (x27 : Int) (x28 : Int) (x29 : Int) (x30 : Int) (x31 : Int) (x32 : Int) (x33 : Int) (x34 : Value) (x35 : L3) (Q : Ex → St → Option α) : (loopStep E (exec E look_dwithin noLps 400) 27 [false, true, true, true, false, false, true, false, false, true, false, true, false, true, true, true, true, true, true, true, false, true, false, true] 0 (codeAt E.P 27 [false, true, true, true, false, false, true, false, false, true, false, true, false, true, true, true, true, true, true, true, false, true, false, true])) (St.mk (none :: some (SV.ptr (nat_lit 0) (nat_lit 0)) :: none :: none :: some (SV.int .i64 x27) :: none :: some (SV.int .i64 x28) :: nn 73 ([]))
  [.cells [SV.int .i64 x29, SV.int .i64 x30, SV.int .i64 x31, SV.int .i64 x32, SV.int .i64 x33, SV.ros x34 kP x35] (nat_lit 26)]) Q = M.dform_l0_step x27 x35 (fun (x36 : Int) => Q .normal (St.mk (none :: some (SV.ptr (nat_lit 0) (nat_lit 0)) :: none :: none :: some (SV.int .i64 x27) :: none :: some (SV.int .i64 x36) :: nn 73 ([]))
  [.cells [SV.int .i64 x29, SV.int .i64 x30, SV.int .i64 x31, SV.int .i64 x32, SV.int .i64 x33, SV.ros x34 kP x35] (nat_lit 26)])) (Q .ret (St.mk (none :: some (SV.ptr (nat_lit 0) (nat_lit 0)) :: some (SV.bool false) :: none :: some (SV.int .i64 x27) :: nn 75 ([]))
  [.cells [SV.int .i64 x29, SV.int .i64 x30, SV.int .i64 x31, SV.int .i64 x32, SV.int .i64 x33, SV.ros x34 kP x35] (nat_lit 26)])) (Q (.exit 3) (St.mk (none :: some (SV.ptr (nat_lit 0) (nat_lit 0)) :: none :: none :: some (SV.int .i64 x27) :: nn 75 ([]))
  [.cells [SV.int .i64 x29, SV.int .i64 x30, SV.int .i64 x31, SV.int .i64 x32, SV.int .i64 x33, SV.ros x34 kP x35] (nat_lit 26)])) x28 := by kernel_rfl
theorem dform_l0_iter {α : Type} (x27 : Int) (x29 : Int) (x30 : Int) (x31 : Int) (x32 : Int) (x33 : Int) (x34 : Value) (x35 : L3) (Q : Ex → St → Option α) : ∀ (n : Nat) (x28 : Int), iter (loopStep E (exec E look_dwithin noLps 400) 27 [false, true, true, true, false, false, true, false, false, true, false, true, false, true, true, true, true, true, true, true, false, true, false, true] 0 (codeAt E.P 27 [false, true, true, true, false, false, true, false, false, true, false, true, false, true, true, true, true, true, true, true, false, true, false, true])) n (St.mk (none :: some (SV.ptr (nat_lit 0) (nat_lit 0)) :: none :: none :: some (SV.int .i64 x27) :: none :: some (SV.int .i64 x28) :: nn 73 ([]))
  [.cells [SV.int .i64 x29, SV.int .i64 x30, SV.int .i64 x31, SV.int .i64 x32, SV.int .i64 x33, SV.ros x34 kP x35] (nat_lit 26)]) Q = M.dform_l0 x27 x35 (Q .ret (St.mk (none :: some (SV.ptr (nat_lit 0) (nat_lit 0)) :: some (SV.bool false) :: none :: some (SV.int .i64 x27) :: nn 75 ([]))
  [.cells [SV.int .i64 x29, SV.int .i64 x30, SV.int .i64 x31, SV.int .i64 x32, SV.int .i64 x33, SV.ros x34 kP x35] (nat_lit 26)])) (Q (.exit 3) (St.mk (none :: some (SV.ptr (nat_lit 0) (nat_lit 0)) :: none :: none :: some (SV.int .i64 x27) :: nn 75 ([]))
  [.cells [SV.int .i64 x29, SV.int .i64 x30, SV.int .i64 x31, SV.int .i64 x32, SV.int .i64 x33, SV.ros x34 kP x35] (nat_lit 26)])) n x28
  | 0, _ => rfl
  | n + 1, x28 => (dform_l0_step_eq x27 x28 x29 x30 x31 x32 x33 x34 x35 (iterK (loopStep E (exec E look_dwithin noLps 400) 27 [false, true, true, true, false, false, true, false, false, true, false, true, false, true, true, true, true, true, true, true, false, true, false, true] 0 (codeAt E.P 27 [false, true, true, true, false, false, true, false, false, true, false, true, false, true, true, true, true, true, true, true, false, true, false, true])) n Q)).trans (congrArg (fun kn => M.dform_l0_step x27 x35 kn (Q .ret (St.mk (none :: some (SV.ptr (nat_lit 0) (nat_lit 0)) :: some (SV.bool false) :: none :: some (SV.int .i64 x27) :: nn 75 ([]))
  [.cells [SV.int .i64 x29, SV.int .i64 x30, SV.int .i64 x31, SV.int .i64 x32, SV.int .i64 x33, SV.ros x34 kP x35] (nat_lit 26)])) (Q (.exit 3) (St.mk (none :: some (SV.ptr (nat_lit 0) (nat_lit 0)) :: none :: none :: some (SV.int .i64 x27) :: nn 75 ([]))
  [.cells [SV.int .i64 x29, SV.int .i64 x30, SV.int .i64 x31, SV.int .i64 x32, SV.int .i64 x33, SV.ros x34 kP x35] (nat_lit 26)])) x28) (funext fun x28 => dform_l0_iter x27 x29 x30 x31 x32 x33 x34 x35 Q n x28))
noncomputable def dform_l0_go {α : Type} (ds : List D) (Q : Ex → St → Option α) : Option α :=
  dI ds fun x27 ds => dI ds fun x28 ds => dI ds fun x29 ds => dI ds fun x30 ds => dI ds fun x31 ds => dI ds fun x32 ds => dI ds fun x33 ds => dV ds fun x34 ds => dL kP ds fun x35 ds => dE ds (M.dform_l0 x27 x35 (Q .ret (St.mk (none :: some (SV.ptr (nat_lit 0) (nat_lit 0)) :: some (SV.bool false) :: none :: some (SV.int .i64 x27) :: nn 75 ([]))
  [.cells [SV.int .i64 x29, SV.int .i64 x30, SV.int .i64 x31, SV.int .i64 x32, SV.int .i64 x33, SV.ros x34 kP x35] (nat_lit 26)])) (Q (.exit 3) (St.mk (none :: some (SV.ptr (nat_lit 0) (nat_lit 0)) :: none :: none :: some (SV.int .i64 x27) :: nn 75 ([]))
  [.cells [SV.int .i64 x29, SV.int .i64 x30, SV.int .i64 x31, SV.int .i64 x32, SV.int .i64 x33, SV.ros x34 kP x35] (nat_lit 26)])) (100 + x35.length) x28)
theorem dform_l0_ok {α : Type} : LoopOk E.P 27 [false, true, true, true, false, false, true, false, false, true, false, true, false, true, true, true, true, true, true, true, false, true, false, true] 0 (lEnt (α := α) (St.mk (none :: some (SV.ptr (nat_lit 0) (nat_lit 0)) :: none :: none :: some (SV.int .i64 (0 : Int)) :: none :: some (SV.int .i64 (0 : Int)) :: nn 73 ([]))
  [.cells [SV.int .i64 (0 : Int), SV.int .i64 (0 : Int), SV.int .i64 (0 : Int), SV.int .i64 (0 : Int), SV.int .i64 (0 : Int), SV.ros undef kP []] (nat_lit 26)]) dform_l0_go) :=
  lEnt_ok E (exec_sound E E_ok (look_dwithin_ok) (noLps_ok _) 400) fun ds Q r h S hS => by
    unfold dform_l0_go at h
    obtain ⟨x27, ds, rfl, h1⟩ := dI_inv h
    obtain ⟨x28, ds, rfl, h2⟩ := dI_inv h1
    obtain ⟨x29, ds, rfl, h3⟩ := dI_inv h2
    obtain ⟨x30, ds, rfl, h4⟩ := dI_inv h3
    obtain ⟨x31, ds, rfl, h5⟩ := dI_inv h4
    obtain ⟨x32, ds, rfl, h6⟩ := dI_inv h5
    obtain ⟨x33, ds, rfl, h7⟩ := dI_inv h6
    obtain ⟨x34, ds, rfl, h8⟩ := dV_inv h7
    obtain ⟨x35, ds, rfl, h9⟩ := dL_inv h8
    obtain ⟨rfl, hE⟩ := dE_inv h9
    have e : fillS (St.mk (none :: some (SV.ptr (nat_lit 0) (nat_lit 0)) :: none :: none :: some (SV.int .i64 (0 : Int)) :: none :: some (SV.int .i64 (0 : Int)) :: nn 73 ([]))
  [.cells [SV.int .i64 (0 : Int), SV.int .i64 (0 : Int), SV.int .i64 (0 : Int), SV.int .i64 (0 : Int), SV.int .i64 (0 : Int), SV.ros undef kP []] (nat_lit 26)]) [.i x27, .i x28, .i x29, .i x30, .i x31, .i x32, .i x33, .v x34, .l kP x35] = some (St.mk (none :: some (SV.ptr (nat_lit 0) (nat_lit 0)) :: none :: none :: some (SV.int .i64 x27) :: none :: some (SV.int .i64 x28) :: nn 73 ([]))
  [.cells [SV.int .i64 x29, SV.int .i64 x30, SV.int .i64 x31, SV.int .i64 x32, SV.int .i64 x33, SV.ros x34 kP x35] (nat_lit 26)]) := by kernel_rfl
    rw [e] at hS
    cases hS
    exact ⟨_, (dform_l0_iter x27 x29 x30 x31 x32 x33 x34 x35 Q _ x28).trans hE⟩
noncomputable def dform_l0_lps {α : Type} : LookL α := addLp 27 [false, true, true, true, false, false, true, false, false, true, false, true, false, true, true, true, true, true, true, true, false, true, false, true] 0 (lEnt (St.mk (none :: some (SV.ptr (nat_lit 0) (nat_lit 0)) :: none :: none :: some (SV.int .i64 (0 : Int)) :: none :: some (SV.int .i64 (0 : Int)) :: nn 73 ([]))
  [.cells [SV.int .i64 (0 : Int), SV.int .i64 (0 : Int), SV.int .i64 (0 : Int), SV.int .i64 (0 : Int), SV.int .i64 (0 : Int), SV.ros undef kP []] (nat_lit 26)]) dform_l0_go) noLps
theorem dform_l0_lps_ok {α : Type} : LoopsOk E.P (dform_l0_lps (α := α)) := addLp_ok dform_l0_ok (noLps_ok _)

noncomputable def _root_.Go.Proofs.Ytkjellhkamfciaa.M.dform_l1_step {α : Type} (x44 : L3) (kn : Int → Option α) (k0 : Option α) (k2 : Option α) (x37 : Int) : Option α :=
  if cLt x37 (↑(List.length x44) : Int) = true then
  if (0 : Int) ≤ x37 ∧ x37 < (↑(List.length x44) : Int) then if (!V.dwithin_r0 (Prod.fst (List.getD x44 (Int.toNat x37) ((0 : Int), (0 : Int), (0 : Int)))) (Prod.fst (Prod.snd (List.getD x44 (Int.toNat x37) ((0 : Int), (0 : Int), (0 : Int))))) (Prod.snd (Prod.snd (List.getD x44 (Int.toNat x37) ((0 : Int), (0 : Int), (0 : Int))))) (-65536 : Int) (65536 : Int)) = true then k0 else M.dform_l0 x37 x44 k0 (kn (IntKind.wrap .i64 (x37 + (1 : Int)))) ((100 : Nat) + List.length x44) (0 : Int)
  else none
else k2
noncomputable def _root_.Go.Proofs.Ytkjellhkamfciaa.M.dform_l1 {α : Type} (x44 : L3) (k0 : Option α) (k2 : Option α) : Nat → Int → Option α
  | 0, _ => none
  | n + 1, x37 => M.dform_l1_step x44 (M.dform_l1 x44 k0 k2 n) k0 k2 x37
theorem dform_l1_step_eq {α : Type} (x37 : Int) (x38 : Int) (x39 : Int) (x40 : Int) (x41 : Int) (x42 : Int) (x43 : Value) (x44 : L3) (Q : Ex → St → Option α) : (loopStep E (exec E look_dwithin dform_l0_lps 400) 27 [false, true, false, true, false, true, true, true, true, true, true, true, false, true, false, true] 0 (codeAt E.P 27 [false, true, false, true, false, true, true, true, true, true, true, true, false, true, false, true])) (St.mk (none :: some (SV.ptr (nat_lit 0) (nat_lit 0)) :: none :: none :: some (SV.int .i64 x37) :: nn 75 ([]))
  [.cells [SV.int .i64 x38, SV.int .i64 x39, SV.int .i64 x40, SV.int .i64 x41, SV.int .i64 x42, SV.ros x43 kP x44] (nat_lit 26)]) Q = M.dform_l1_step x44 (fun (x45 : Int) => Q .normal (St.mk (none :: some (SV.ptr (nat_lit 0) (nat_lit 0)) :: none :: none :: some (SV.int .i64 x45) :: nn 75 ([]))
  [.cells [SV.int .i64 x38, SV.int .i64 x39, SV.int .i64 x40, SV.int .i64 x41, SV.int .i64 x42, SV.ros x43 kP x44] (nat_lit 26)])) (Q .ret (St.mk (none :: none :: some (SV.bool false) :: nn 77 ([]))
  [])) (Q (.exit 1) (St.mk (nn 80 ([])) [])) x37 := by kernel_rfl
theorem dform_l1_iter {α : Type} (x38 : Int) (x39 : Int) (x40 : Int) (x41 : Int) (x42 : Int) (x43 : Value) (x44 : L3) (Q : Ex → St → Option α) : ∀ (n : Nat) (x37 : Int), iter (loopStep E (exec E look_dwithin dform_l0_lps 400) 27 [false, true, false, true, false, true, true, true, true, true, true, true, false, true, false, true] 0 (codeAt E.P 27 [false, true, false, true, false, true, true, true, true, true, true, true, false, true, false, true])) n (St.mk (none :: some (SV.ptr (nat_lit 0) (nat_lit 0)) :: none :: none :: some (SV.int .i64 x37) :: nn 75 ([]))
  [.cells [SV.int .i64 x38, SV.int .i64 x39, SV.int .i64 x40, SV.int .i64 x41, SV.int .i64 x42, SV.ros x43 kP x44] (nat_lit 26)]) Q = M.dform_l1 x44 (Q .ret (St.mk (none :: none :: some (SV.bool false) :: nn 77 ([]))
  [])) (Q (.exit 1) (St.mk (nn 80 ([])) [])) n x37
  | 0, _ => rfl
  | n + 1, x37 => (dform_l1_step_eq x37 x38 x39 x40 x41 x42 x43 x44 (iterK (loopStep E (exec E look_dwithin dform_l0_lps 400) 27 [false, true, false, true, false, true, true, true, true, true, true, true, false, true, false, true] 0 (codeAt E.P 27 [false, true, false, true, false, true, true, true, true, true, true, true, false, true, false, true])) n Q)).trans (congrArg (fun kn => M.dform_l1_step x44 kn (Q .ret (St.mk (none :: none :: some (SV.bool false) :: nn 77 ([]))
  [])) (Q (.exit 1) (St.mk (nn 80 ([])) [])) x37) (funext fun x37 => dform_l1_iter x38 x39 x40 x41 x42 x43 x44 Q n x37))
noncomputable def dform_l1_go {α : Type} (ds : List D) (Q : Ex → St → Option α) : Option α :=
  dI ds fun x37 ds => dI ds fun x38 ds => dI ds fun x39 ds => dI ds fun x40 ds => dI ds fun x41 ds => dI ds fun x42 ds => dV ds fun x43 ds => dL kP ds fun x44 ds => dE ds (M.dform_l1 x44 (Q .ret (St.mk (none :: none :: some (SV.bool false) :: nn 77 ([]))
  [])) (Q (.exit 1) (St.mk (nn 80 ([])) [])) (100 + x44.length) x37)
theorem dform_l1_ok {α : Type} : LoopOk E.P 27 [false, true, false, true, false, true, true, true, true, true, true, true, false, true, false, true] 0 (lEnt (α := α) (St.mk (none :: some (SV.ptr (nat_lit 0) (nat_lit 0)) :: none :: none :: some (SV.int .i64 (0 : Int)) :: nn 75 ([]))
  [.cells [SV.int .i64 (0 : Int), SV.int .i64 (0 : Int), SV.int .i64 (0 : Int), SV.int .i64 (0 : Int), SV.int .i64 (0 : Int), SV.ros undef kP []] (nat_lit 26)]) dform_l1_go) :=
  lEnt_ok E (exec_sound E E_ok (look_dwithin_ok) (dform_l0_lps_ok) 400) fun ds Q r h S hS => by
    unfold dform_l1_go at h
    obtain ⟨x37, ds, rfl, h1⟩ := dI_inv h
    obtain ⟨x38, ds, rfl, h2⟩ := dI_inv h1
    obtain ⟨x39, ds, rfl, h3⟩ := dI_inv h2
    obtain ⟨x40, ds, rfl, h4⟩ := dI_inv h3
    obtain ⟨x41, ds, rfl, h5⟩ := dI_inv h4
    obtain ⟨x42, ds, rfl, h6⟩ := dI_inv h5
    obtain ⟨x43, ds, rfl, h7⟩ := dV_inv h6
    obtain ⟨x44, ds, rfl, h8⟩ := dL_inv h7
    obtain ⟨rfl, hE⟩ := dE_inv h8
    have e : fillS (St.mk (none :: some (SV.ptr (nat_lit 0) (nat_lit 0)) :: none :: none :: some (SV.int .i64 (0 : Int)) :: nn 75 ([]))
  [.cells [SV.int .i64 (0 : Int), SV.int .i64 (0 : Int), SV.int .i64 (0 : Int), SV.int .i64 (0 : Int), SV.int .i64 (0 : Int), SV.ros undef kP []] (nat_lit 26)]) [.i x37, .i x38, .i x39, .i x40, .i x41, .i x42, .v x43, .l kP x44] = some (St.mk (none :: some (SV.ptr (nat_lit 0) (nat_lit 0)) :: none :: none :: some (SV.int .i64 x37) :: nn 75 ([]))
  [.cells [SV.int .i64 x38, SV.int .i64 x39, SV.int .i64 x40, SV.int .i64 x41, SV.int .i64 x42, SV.ros x43 kP x44] (nat_lit 26)]) := by kernel_rfl
    rw [e] at hS
    cases hS
    exact ⟨_, (dform_l1_iter x38 x39 x40 x41 x42 x43 x44 Q _ x37).trans hE⟩
noncomputable def dform_l1_lps {α : Type} : LookL α := addLp 27 [false, true, false, true, false, true, true, true, true, true, true, true, false, true, false, true] 0 (lEnt (St.mk (none :: some (SV.ptr (nat_lit 0) (nat_lit 0)) :: none :: none :: some (SV.int .i64 (0 : Int)) :: nn 75 ([]))
  [.cells [SV.int .i64 (0 : Int), SV.int .i64 (0 : Int), SV.int .i64 (0 : Int), SV.int .i64 (0 : Int), SV.int .i64 (0 : Int), SV.ros undef kP []] (nat_lit 26)]) dform_l1_go) dform_l0_lps
theorem dform_l1_lps_ok {α : Type} : LoopsOk E.P (dform_l1_lps (α := α)) := addLp_ok dform_l1_ok (dform_l0_lps_ok)

noncomputable def _root_.Go.Proofs.Ytkjellhkamfciaa.M.dform {α : Type} (k : Int) (r : Int) (hx : Int) (hy : Int) (hz : Int) (l : L3) (k0 : Bool → Option α) : Option α :=
  if cEq k (1 : Int) = true then k0 (V.shwithin_r0 r (1 : Int) (16384 : Int))
else
  if cEq k (2 : Int) = true then if V.shwithin_r0 r (1 : Int) (16384 : Int) = true then k0 (V.shwithin_r0 hx (1 : Int) (65536 : Int)) else k0 false
  else if cEq k (3 : Int) = true then if V.shwithin_r0 r (0 : Int) (16384 : Int) = true then k0 (V.dwithin_r0 hx hy hz (1 : Int) (65536 : Int)) else k0 false else if cEq k (4 : Int) = true then if (!V.shwithin_r0 r (0 : Int) (16384 : Int)) = true then k0 false else if (!V.shwithin_r0 (↑(List.length l) : Int) (4 : Int) (12 : Int)) = true then k0 false else M.dform_l1 l (k0 false) (k0 true) ((100 : Nat) + List.length l) (0 : Int) else k0 false
theorem dform_eq {α : Type} (k : Int) (r : Int) (hx : Int) (hy : Int) (hz : Int) (l : L3) (v46 : Value) (Q : SV → Hp → Option α) : callI E look_dwithin (exec E look_dwithin dform_l1_lps 400) 27 ([SV.agg [SV.int .i64 k, SV.int .i64 r, SV.int .i64 hx, SV.int .i64 hy, SV.int .i64 hz, SV.ros v46 kP l]]) ([]) Q = M.dform k r hx hy hz l (fun (x47 : Bool) => Q (SV.bool x47) ([])) := by kernel_rfl
def dform_sp : List AS := [.st [.leaf (.int .i64 0), .leaf (.int .i64 0), .leaf (.int .i64 0), .leaf (.int .i64 0), .leaf (.int .i64 0), .ro kP]]
theorem dwithin_big (p : P3) : V.dwithin_r0 p.1 p.2.1 p.2.2 (-65536) 65536 = !bigP p 65536 := by
  unfold V.dwithin_r0
  simp only [within_eq]
  obtain ⟨x, y, z⟩ := p
  rw [Bool.eq_iff_iff]
  cases a : inZ x (-65536) 65536 <;> cases b : inZ y (-65536) 65536 <;> cases c : inZ z (-65536) 65536 <;> simp [inZ, bigP] at * <;> omega
theorem dwithin_one (x y z : Int) : V.dwithin_r0 x y z 1 65536 = (inZ x 1 65536 && inZ y 1 65536 && inZ z 1 65536) := by
  unfold V.dwithin_r0
  simp only [within_eq]
  cases inZ x 1 65536 <;> cases inZ y 1 65536 <;> cases inZ z 1 65536 <;> rfl
theorem dform_l0_val {α : Type} (l : List P3) (hl : l.length ≤ 12) (q : Nat) (hq : q < l.length) (k0 k2 : Option α) (fuel : Nat) (hf : 12 < fuel) :
    M.dform_l0 (q : Int) l k0 k2 fuel 0 = if exB (∃ j, 0 ≤ j ∧ j < q ∧ pt l j = pt l q) = true then k0 else k2 := by
  refine scan (fun f i => M.dform_l0 (q : Int) l k0 k2 f i) q (fun j => pt l j = pt l q) k0 k2 ?_ ?_ fuel 0 (by omega) (by omega)
  · intro f i hi
    show M.dform_l0_step _ _ _ _ _ _ = _
    unfold M.dform_l0_step
    have a : (0 : Int) ≤ (i : Int) ∧ (i : Int) < (l.length : Int) := by omega
    have b : (0 : Int) ≤ (q : Int) ∧ (q : Int) < (l.length : Int) := by omega
    rw [cLt_nat, if_pos (by simpa using hi), if_pos a, if_pos b, w_next (by omega), eq3]
    exact if_exB (by simp only [toNat_nat, decide_eq_true_eq]; exact Iff.rfl) _ _
  · intro f
    show M.dform_l0_step _ _ _ _ _ _ = _
    unfold M.dform_l0_step
    rw [cLt_nat, if_neg (by simp)]
theorem apartP_iff (l : List P3) : V.apartP l = true ↔ ¬ ∃ i, 0 ≤ i ∧ i < l.length ∧ (bigP (pt l i) 65536 = true ∨ ∃ j, 0 ≤ j ∧ j < i ∧ pt l j = pt l i) := by
  simp only [V.apartP, decide_eq_true_eq]
  constructor
  · rintro ⟨h1, h2⟩ ⟨i, _, hi, h | ⟨j, _, hj, h⟩⟩
    · rw [h1 _ (pt_mem l i hi)] at h; cases h
    · rw [pt_eq l i hi, pt_eq l j (by omega)] at h
      have := (List.getElem_inj h2).1 h
      omega
  · intro h
    refine ⟨fun p hp => ?_, ?_⟩
    · obtain ⟨i, hi, rfl⟩ := pt_of_mem hp
      cases hb : bigP (pt l i) 65536 with
      | false => rfl
      | true => exact absurd ⟨i, Nat.zero_le _, hi, .inl hb⟩ h
    · rw [List.Nodup, List.pairwise_iff_getElem]
      intro i j hi hj hij e
      exact h ⟨j, Nat.zero_le _, hj, .inr ⟨i, Nat.zero_le _, hij, by rw [pt_eq l i hi, pt_eq l j hj]; exact e⟩⟩
theorem dform_l1_val {α : Type} (l : List P3) (hl : l.length ≤ 12) (k0 k2 : Option α) (fuel : Nat) (hf : 12 < fuel) :
    M.dform_l1 l k0 k2 fuel 0 = if V.apartP l = true then k2 else k0 := by
  have h := scan (fun f i => M.dform_l1 l k0 k2 f i) l.length (fun i => bigP (pt l i) 65536 = true ∨ ∃ j, 0 ≤ j ∧ j < i ∧ pt l j = pt l i) k0 k2 ?_ ?_ fuel 0 (by omega) (by omega)
  · refine Eq.trans h ?_
    by_cases ha : V.apartP l = true
    · rw [if_pos ha, if_neg]
      rw [exB_false ((apartP_iff l).1 ha)]; decide
    · rw [if_neg ha, if_pos]
      apply exB_true
      exact Classical.byContradiction fun hn => ha ((apartP_iff l).2 hn)
  · intro f i hi
    show M.dform_l1_step _ _ _ _ _ = _
    unfold M.dform_l1_step
    have a : (0 : Int) ≤ (i : Int) ∧ (i : Int) < (l.length : Int) := by omega
    rw [cLt_nat, if_pos (by simpa using hi), if_pos a, w_next (by omega), dform_l0_val l hl i hi _ _ _ (by omega)]
    show (if (!V.dwithin_r0 (pt l i).1 (pt l i).2.1 (pt l i).2.2 (-65536) 65536) = true then k0 else _) = _
    rw [dwithin_big, Bool.not_not]
    cases hb : bigP (pt l i) 65536 with
    | true => rw [if_pos rfl, if_pos (exB_true (.inl rfl))]
    | false =>
      rw [if_neg (by decide)]
      congr 2
      apply congrArg
      apply propext
      simp
  · intro f
    show M.dform_l1_step _ _ _ _ _ = _
    unfold M.dform_l1_step
    rw [cLt_nat, if_neg (by simp)]
/-- All but for flat hulls. -/
noncomputable def formP (k r hx hy hz : Int) (l : List P3) : Bool :=
  if k = 1 then inZ r 1 16384 else if k = 2 then inZ hx 1 65536 && inZ r 1 16384 else if k = 3 then inZ hx 1 65536 && inZ hy 1 65536 && inZ hz 1 65536 && inZ r 0 16384
  else if k = 4 then inZ (l.length : Int) 4 12 && V.apartP l && inZ r 0 16384 else false
noncomputable def _root_.Go.Proofs.Ytkjellhkamfciaa.V.form (k r hx hy hz : Int) (l : List P3) : Bool := hid (formP k r hx hy hz l)
theorem chk_form (k r hx hy hz : Int) (l : List P3) : chkP k r hx hy hz l = if formP k r hx hy hz l = true then (if k = 4 then (if V.flatP l = true then 51 else 0) else 0) else 50 := by
  unfold chkP formP
  by_cases h1 : k = 1
  · simp [h1]
  by_cases h2 : k = 2
  · simp [h2]
  by_cases h3 : k = 3
  · simp [h3]
  by_cases h4 : k = 4
  · simp [h4]
  simp [h1, h2, h3, h4]
theorem dform_v {α : Type} (k r hx hy hz : Int) (l : List P3) (k0 : Bool → Option α) : M.dform k r hx hy hz l k0 = k0 (V.form k r hx hy hz l) := by
  unfold M.dform V.form
  rw [hid_eq]
  unfold formP
  simp only [cEq_eq, beq_iff_eq, within_eq, dwithin_one]
  by_cases k1 : k = 1
  · simp only [if_pos k1]
  simp only [if_neg k1]
  by_cases k2 : k = 2
  · simp only [if_pos k2]
    cases inZ hx 1 65536 <;> cases inZ r 1 16384 <;> simp
  simp only [if_neg k2]
  by_cases k3 : k = 3
  · simp only [if_pos k3]
    cases (inZ hx 1 65536 && inZ hy 1 65536 && inZ hz 1 65536) <;> cases inZ r 0 16384 <;> simp
  simp only [if_neg k3]
  by_cases k4 : k = 4
  · simp only [if_pos k4]
    cases h1 : inZ r 0 16384 with
    | false => simp
    | true =>
      cases h2 : inZ (l.length : Int) 4 12 with
      | false => simp
      | true =>
        have hl : l.length ≤ 12 := by simp [inZ] at h2; omega
        rw [if_neg (by decide), if_neg (by decide), dform_l1_val l hl _ _ _ (by omega)]
        cases V.apartP l <;> simp
  simp [k4]
noncomputable def dform_h {α : Type} (ds : List D) (Q : SV → Hp → Option α) : Option α :=
  dI ds fun k ds => dI ds fun r ds => dI ds fun hx ds => dI ds fun hy ds => dI ds fun hz ds => dL kP ds fun l ds => dE ds (Q (.bool (V.form k r hx hy hz l)) ([]))
theorem dform_h_ok {α : Type} : FnOk E.P 27 (fEnt (α := α) dform_sp dform_h) :=
  fEntR_ok E (look_dwithin_ok) (exec_sound E E_ok (look_dwithin_ok) (dform_l1_lps_ok) 400) fun ds Q r h => by
    unfold dform_h at h
    obtain ⟨k, ds, rfl, h1⟩ := dI_inv h
    obtain ⟨r, ds, rfl, h2⟩ := dI_inv h1
    obtain ⟨hx, ds, rfl, h3⟩ := dI_inv h2
    obtain ⟨hy, ds, rfl, h4⟩ := dI_inv h3
    obtain ⟨hz, ds, rfl, h5⟩ := dI_inv h4
    obtain ⟨l, ds, rfl, h6⟩ := dL_inv h5
    obtain ⟨rfl, hE⟩ := dE_inv h6
    exact ⟨_, _, hE, fun vs => ⟨_, _, by kernel_rfl, (dform_eq k r hx hy hz l ((cellsV (vs.headD undef)).tail.tail.tail.tail.tail.headD undef) _).trans (dform_v k r hx hy hz l _)⟩⟩
noncomputable def look_dform {α : Type} : LookF α := addFn 27 (fEnt dform_sp dform_h) look_dwithin
theorem look_dform_ok {α : Type} : LookOk E.P (look_dform (α := α)) := addFn_ok dform_h_ok (look_dwithin_ok)
noncomputable def _root_.Go.Proofs.Ytkjellhkamfciaa.M.dflat_l0_step {α : Type} (x83 : L3) (x86 : Int) (x88 : Int) (x89 : Int) (x90 : Int) (kn : Int → Option α) (k0 : Option α) (k2 : Option α) (x87 : Int) : Option α :=
  if cLt x87 (↑(List.length x83) : Int) = true then if (0 : Int) ≤ x87 ∧ x87 < (↑(List.length x83) : Int) then if (0 : Int) ≤ x86 ∧ x86 < (↑(List.length x83) : Int) then if (!cEq (V.pDot (x88, x89, x90) (V.pSub (List.getD x83 (Int.toNat x87) ((0 : Int), (0 : Int), (0 : Int))) (List.getD x83 (Int.toNat x86) ((0 : Int), (0 : Int), (0 : Int))))) (0 : Int)) = true then k0 else kn (IntKind.wrap .i64 (x87 + (1 : Int))) else none else none else k2
noncomputable def _root_.Go.Proofs.Ytkjellhkamfciaa.M.dflat_l0 {α : Type} (x83 : L3) (x86 : Int) (x88 : Int) (x89 : Int) (x90 : Int) (k0 : Option α) (k2 : Option α) : Nat → Int → Option α
  | 0, _ => none
  | n + 1, x87 => M.dflat_l0_step x83 x86 x88 x89 x90 (M.dflat_l0 x83 x86 x88 x89 x90 k0 k2 n) k0 k2 x87
theorem dflat_l0_step_eq {α : Type} (x82 : Value) (x83 : L3) (x84 : Int) (x85 : Int) (x86 : Int) (x87 : Int) (x88 : Int) (x89 : Int) (x90 : Int) (Q : Ex → St → Option α) : (loopStep E (exec E look_dform noLps 400) 28 [false, true, true, false, false, true, false, false, true, false, false, true, false, false, true, false, false, true, false, false, true, false, true] 0 (codeAt E.P 28 [false, true, true, false, false, true, false, false, true, false, false, true, false, false, true, false, false, true, false, false, true, false, true])) (St.mk (some (SV.ros x82 kP x83) :: none :: none :: some (SV.int .i64 x84) :: some (SV.int .i64 x85) :: some (SV.int .i64 x86) :: some (SV.ptr (nat_lit 0) (nat_lit 0)) :: some (SV.int .i64 x87) :: nn 47 ([]))
  [.cells [SV.int .i64 x88, SV.int .i64 x89, SV.int .i64 x90] (nat_lit 23)]) Q = M.dflat_l0_step x83 x86 x88 x89 x90 (fun (x91 : Int) => Q .normal (St.mk (some (SV.ros x82 kP x83) :: none :: none :: some (SV.int .i64 x84) :: some (SV.int .i64 x85) :: some (SV.int .i64 x86) :: some (SV.ptr (nat_lit 0) (nat_lit 0)) :: some (SV.int .i64 x91) :: nn 47 ([]))
  [.cells [SV.int .i64 x88, SV.int .i64 x89, SV.int .i64 x90] (nat_lit 23)])) (Q .ret (St.mk (some (SV.ros x82 kP x83) :: none :: some (SV.bool false) :: some (SV.int .i64 x84) :: some (SV.int .i64 x85) :: some (SV.int .i64 x86) :: nn 49 ([]))
  [])) (Q (.exit 6) (St.mk (some (SV.ros x82 kP x83) :: none :: none :: some (SV.int .i64 x84) :: some (SV.int .i64 x85) :: some (SV.int .i64 x86) :: nn 49 ([])) [])) x87 := by kernel_rfl
theorem dflat_l0_iter {α : Type} (x82 : Value) (x83 : L3) (x84 : Int) (x85 : Int) (x86 : Int) (x88 : Int) (x89 : Int) (x90 : Int) (Q : Ex → St → Option α) : ∀ (n : Nat) (x87 : Int), iter (loopStep E (exec E look_dform noLps 400) 28 [false, true, true, false, false, true, false, false, true, false, false, true, false, false, true, false, false, true, false, false, true, false, true] 0 (codeAt E.P 28 [false, true, true, false, false, true, false, false, true, false, false, true, false, false, true, false, false, true, false, false, true, false, true])) n (St.mk (some (SV.ros x82 kP x83) :: none :: none :: some (SV.int .i64 x84) :: some (SV.int .i64 x85) :: some (SV.int .i64 x86) :: some (SV.ptr (nat_lit 0) (nat_lit 0)) :: some (SV.int .i64 x87) :: nn 47 ([]))
  [.cells [SV.int .i64 x88, SV.int .i64 x89, SV.int .i64 x90] (nat_lit 23)]) Q = M.dflat_l0 x83 x86 x88 x89 x90 (Q .ret (St.mk (some (SV.ros x82 kP x83) :: none :: some (SV.bool false) :: some (SV.int .i64 x84) :: some (SV.int .i64 x85) :: some (SV.int .i64 x86) :: nn 49 ([]))
  [])) (Q (.exit 6) (St.mk (some (SV.ros x82 kP x83) :: none :: none :: some (SV.int .i64 x84) :: some (SV.int .i64 x85) :: some (SV.int .i64 x86) :: nn 49 ([])) [])) n x87
  | 0, _ => rfl
  | n + 1, x87 => (dflat_l0_step_eq x82 x83 x84 x85 x86 x87 x88 x89 x90 (iterK (loopStep E (exec E look_dform noLps 400) 28 [false, true, true, false, false, true, false, false, true, false, false, true, false, false, true, false, false, true, false, false, true, false, true] 0 (codeAt E.P 28 [false, true, true, false, false, true, false, false, true, false, false, true, false, false, true, false, false, true, false, false, true, false, true])) n Q)).trans (congrArg (fun kn => M.dflat_l0_step x83 x86 x88 x89 x90 kn (Q .ret (St.mk (some (SV.ros x82 kP x83) :: none :: some (SV.bool false) :: some (SV.int .i64 x84) :: some (SV.int .i64 x85) :: some (SV.int .i64 x86) :: nn 49 ([]))
  [])) (Q (.exit 6) (St.mk (some (SV.ros x82 kP x83) :: none :: none :: some (SV.int .i64 x84) :: some (SV.int .i64 x85) :: some (SV.int .i64 x86) :: nn 49 ([])) [])) x87) (funext fun x87 => dflat_l0_iter x82 x83 x84 x85 x86 x88 x89 x90 Q n x87))
noncomputable def dflat_l0_go {α : Type} (ds : List D) (Q : Ex → St → Option α) : Option α :=
  dV ds fun x82 ds => dL kP ds fun x83 ds => dI ds fun x84 ds => dI ds fun x85 ds => dI ds fun x86 ds => dI ds fun x87 ds => dI ds fun x88 ds => dI ds fun x89 ds => dI ds fun x90 ds => dE ds (M.dflat_l0 x83 x86 x88 x89 x90 (Q .ret (St.mk (some (SV.ros x82 kP x83) :: none :: some (SV.bool false) :: some (SV.int .i64 x84) :: some (SV.int .i64 x85) :: some (SV.int .i64 x86) :: nn 49 ([]))
  [])) (Q (.exit 6) (St.mk (some (SV.ros x82 kP x83) :: none :: none :: some (SV.int .i64 x84) :: some (SV.int .i64 x85) :: some (SV.int .i64 x86) :: nn 49 ([])) [])) (100 + x83.length) x87)
theorem dflat_l0_ok {α : Type} : LoopOk E.P 28 [false, true, true, false, false, true, false, false, true, false, false, true, false, false, true, false, false, true, false, false, true, false, true] 0 (lEnt (α := α) (St.mk (some (SV.ros undef kP []) :: none :: none :: some (SV.int .i64 (0 : Int)) :: some (SV.int .i64 (0 : Int)) :: some (SV.int .i64 (0 : Int)) :: some (SV.ptr (nat_lit 0) (nat_lit 0)) :: some (SV.int .i64 (0 : Int)) :: nn 47 ([]))
  [.cells [SV.int .i64 (0 : Int), SV.int .i64 (0 : Int), SV.int .i64 (0 : Int)] (nat_lit 23)]) dflat_l0_go) :=
  lEnt_ok E (exec_sound E E_ok (look_dform_ok) (noLps_ok _) 400) fun ds Q r h S hS => by
    unfold dflat_l0_go at h
    obtain ⟨x82, ds, rfl, h1⟩ := dV_inv h
    obtain ⟨x83, ds, rfl, h2⟩ := dL_inv h1
    obtain ⟨x84, ds, rfl, h3⟩ := dI_inv h2
    obtain ⟨x85, ds, rfl, h4⟩ := dI_inv h3
    obtain ⟨x86, ds, rfl, h5⟩ := dI_inv h4
    obtain ⟨x87, ds, rfl, h6⟩ := dI_inv h5
    obtain ⟨x88, ds, rfl, h7⟩ := dI_inv h6
    obtain ⟨x89, ds, rfl, h8⟩ := dI_inv h7
    obtain ⟨x90, ds, rfl, h9⟩ := dI_inv h8
    obtain ⟨rfl, hE⟩ := dE_inv h9
    have e : fillS (St.mk (some (SV.ros undef kP []) :: none :: none :: some (SV.int .i64 (0 : Int)) :: some (SV.int .i64 (0 : Int)) :: some (SV.int .i64 (0 : Int)) :: some (SV.ptr (nat_lit 0) (nat_lit 0)) :: some (SV.int .i64 (0 : Int)) :: nn 47 ([]))
  [.cells [SV.int .i64 (0 : Int), SV.int .i64 (0 : Int), SV.int .i64 (0 : Int)] (nat_lit 23)]) [.v x82, .l kP x83, .i x84, .i x85, .i x86, .i x87, .i x88, .i x89, .i x90] = some (St.mk (some (SV.ros x82 kP x83) :: none :: none :: some (SV.int .i64 x84) :: some (SV.int .i64 x85) :: some (SV.int .i64 x86) :: some (SV.ptr (nat_lit 0) (nat_lit 0)) :: some (SV.int .i64 x87) :: nn 47 ([]))
  [.cells [SV.int .i64 x88, SV.int .i64 x89, SV.int .i64 x90] (nat_lit 23)]) := by kernel_rfl
    rw [e] at hS
    cases hS
    exact ⟨_, (dflat_l0_iter x82 x83 x84 x85 x86 x88 x89 x90 Q _ x87).trans hE⟩
noncomputable def dflat_l0_lps {α : Type} : LookL α := addLp 28 [false, true, true, false, false, true, false, false, true, false, false, true, false, false, true, false, false, true, false, false, true, false, true] 0 (lEnt (St.mk (some (SV.ros undef kP []) :: none :: none :: some (SV.int .i64 (0 : Int)) :: some (SV.int .i64 (0 : Int)) :: some (SV.int .i64 (0 : Int)) :: some (SV.ptr (nat_lit 0) (nat_lit 0)) :: some (SV.int .i64 (0 : Int)) :: nn 47 ([]))
  [.cells [SV.int .i64 (0 : Int), SV.int .i64 (0 : Int), SV.int .i64 (0 : Int)] (nat_lit 23)]) dflat_l0_go) noLps
theorem dflat_l0_lps_ok {α : Type} : LoopsOk E.P (dflat_l0_lps (α := α)) := addLp_ok dflat_l0_ok (noLps_ok _)

noncomputable def _root_.Go.Proofs.Ytkjellhkamfciaa.M.dflat_l1_step {α : Type} (x93 : L3) (x94 : Int) (x95 : Int) (kn : Int → Option α) (k0 : Option α) (k2 : Option α) (x96 : Int) : Option α :=
  if cLt x96 x95 = true then
  if (0 : Int) ≤ x96 ∧ x96 < (↑(List.length x93) : Int) then
    if (0 : Int) ≤ x95 ∧ x95 < (↑(List.length x93) : Int) then
      if (0 : Int) ≤ x94 ∧ x94 < (↑(List.length x93) : Int) then
        M.dflat_l0 x93 x96 (Prod.fst (V.pCross (V.pSub (List.getD x93 (Int.toNat x95) ((0 : Int), (0 : Int), (0 : Int))) (List.getD x93 (Int.toNat x96) ((0 : Int), (0 : Int), (0 : Int)))) (V.pSub (List.getD x93 (Int.toNat x94) ((0 : Int), (0 : Int), (0 : Int))) (List.getD x93 (Int.toNat x96) ((0 : Int), (0 : Int), (0 : Int))))))
          (Prod.fst (Prod.snd (V.pCross (V.pSub (List.getD x93 (Int.toNat x95) ((0 : Int), (0 : Int), (0 : Int))) (List.getD x93 (Int.toNat x96) ((0 : Int), (0 : Int), (0 : Int)))) (V.pSub (List.getD x93 (Int.toNat x94) ((0 : Int), (0 : Int), (0 : Int))) (List.getD x93 (Int.toNat x96) ((0 : Int), (0 : Int), (0 : Int)))))))
          (Prod.snd (Prod.snd (V.pCross (V.pSub (List.getD x93 (Int.toNat x95) ((0 : Int), (0 : Int), (0 : Int))) (List.getD x93 (Int.toNat x96) ((0 : Int), (0 : Int), (0 : Int)))) (V.pSub (List.getD x93 (Int.toNat x94) ((0 : Int), (0 : Int), (0 : Int))) (List.getD x93 (Int.toNat x96) ((0 : Int), (0 : Int), (0 : Int))))))) k0 (kn (IntKind.wrap .i64 (x96 + (1 : Int)))) ((100 : Nat) + List.length x93) (0 : Int)
      else none
    else none
  else none
else k2
noncomputable def _root_.Go.Proofs.Ytkjellhkamfciaa.M.dflat_l1 {α : Type} (x93 : L3) (x94 : Int) (x95 : Int) (k0 : Option α) (k2 : Option α) : Nat → Int → Option α
  | 0, _ => none
  | n + 1, x96 => M.dflat_l1_step x93 x94 x95 (M.dflat_l1 x93 x94 x95 k0 k2 n) k0 k2 x96
theorem dflat_l1_step_eq {α : Type} (x92 : Value) (x93 : L3) (x94 : Int) (x95 : Int) (x96 : Int) (Q : Ex → St → Option α) : (loopStep E (exec E look_dform dflat_l0_lps 400) 28 [false, true, false, false, true, false, false, true, false, false, true, false, false, true, false, true] 0 (codeAt E.P 28 [false, true, false, false, true, false, false, true, false, false, true, false, false, true, false, true])) (St.mk (some (SV.ros x92 kP x93) :: none :: none :: some (SV.int .i64 x94) :: some (SV.int .i64 x95) :: some (SV.int .i64 x96) :: nn 49 ([])) []) Q = M.dflat_l1_step x93 x94 x95 (fun (x97 : Int) => Q .normal (St.mk (some (SV.ros x92 kP x93) :: none :: none :: some (SV.int .i64 x94) :: some (SV.int .i64 x95) :: some (SV.int .i64 x97) :: nn 49 ([])) [])) (Q .ret (St.mk (some (SV.ros x92 kP x93) :: none :: some (SV.bool false) :: some (SV.int .i64 x94) :: some (SV.int .i64 x95) :: nn 50 ([])) [])) (Q (.exit 4) (St.mk (some (SV.ros x92 kP x93) :: none :: none :: some (SV.int .i64 x94) :: some (SV.int .i64 x95) :: nn 50 ([])) [])) x96 := by kernel_rfl
theorem dflat_l1_iter {α : Type} (x92 : Value) (x93 : L3) (x94 : Int) (x95 : Int) (Q : Ex → St → Option α) : ∀ (n : Nat) (x96 : Int), iter (loopStep E (exec E look_dform dflat_l0_lps 400) 28 [false, true, false, false, true, false, false, true, false, false, true, false, false, true, false, true] 0 (codeAt E.P 28 [false, true, false, false, true, false, false, true, false, false, true, false, false, true, false, true])) n (St.mk (some (SV.ros x92 kP x93) :: none :: none :: some (SV.int .i64 x94) :: some (SV.int .i64 x95) :: some (SV.int .i64 x96) :: nn 49 ([])) []) Q = M.dflat_l1 x93 x94 x95 (Q .ret (St.mk (some (SV.ros x92 kP x93) :: none :: some (SV.bool false) :: some (SV.int .i64 x94) :: some (SV.int .i64 x95) :: nn 50 ([])) [])) (Q (.exit 4) (St.mk (some (SV.ros x92 kP x93) :: none :: none :: some (SV.int .i64 x94) :: some (SV.int .i64 x95) :: nn 50 ([])) [])) n x96
  | 0, _ => rfl
  | n + 1, x96 => (dflat_l1_step_eq x92 x93 x94 x95 x96 (iterK (loopStep E (exec E look_dform dflat_l0_lps 400) 28 [false, true, false, false, true, false, false, true, false, false, true, false, false, true, false, true] 0 (codeAt E.P 28 [false, true, false, false, true, false, false, true, false, false, true, false, false, true, false, true])) n Q)).trans (congrArg (fun kn => M.dflat_l1_step x93 x94 x95 kn (Q .ret (St.mk (some (SV.ros x92 kP x93) :: none :: some (SV.bool false) :: some (SV.int .i64 x94) :: some (SV.int .i64 x95) :: nn 50 ([])) [])) (Q (.exit 4) (St.mk (some (SV.ros x92 kP x93) :: none :: none :: some (SV.int .i64 x94) :: some (SV.int .i64 x95) :: nn 50 ([])) [])) x96) (funext fun x96 => dflat_l1_iter x92 x93 x94 x95 Q n x96))
noncomputable def dflat_l1_go {α : Type} (ds : List D) (Q : Ex → St → Option α) : Option α :=
  dV ds fun x92 ds => dL kP ds fun x93 ds => dI ds fun x94 ds => dI ds fun x95 ds => dI ds fun x96 ds => dE ds (M.dflat_l1 x93 x94 x95 (Q .ret (St.mk (some (SV.ros x92 kP x93) :: none :: some (SV.bool false) :: some (SV.int .i64 x94) :: some (SV.int .i64 x95) :: nn 50 ([])) [])) (Q (.exit 4) (St.mk (some (SV.ros x92 kP x93) :: none :: none :: some (SV.int .i64 x94) :: some (SV.int .i64 x95) :: nn 50 ([])) [])) (100 + x93.length) x96)
theorem dflat_l1_ok {α : Type} : LoopOk E.P 28 [false, true, false, false, true, false, false, true, false, false, true, false, false, true, false, true] 0 (lEnt (α := α) (St.mk (some (SV.ros undef kP []) :: none :: none :: some (SV.int .i64 (0 : Int)) :: some (SV.int .i64 (0 : Int)) :: some (SV.int .i64 (0 : Int)) :: nn 49 ([]))
  []) dflat_l1_go) :=
  lEnt_ok E (exec_sound E E_ok (look_dform_ok) (dflat_l0_lps_ok) 400) fun ds Q r h S hS => by
    unfold dflat_l1_go at h
    obtain ⟨x92, ds, rfl, h1⟩ := dV_inv h
    obtain ⟨x93, ds, rfl, h2⟩ := dL_inv h1
    obtain ⟨x94, ds, rfl, h3⟩ := dI_inv h2
    obtain ⟨x95, ds, rfl, h4⟩ := dI_inv h3
    obtain ⟨x96, ds, rfl, h5⟩ := dI_inv h4
    obtain ⟨rfl, hE⟩ := dE_inv h5
    have e : fillS (St.mk (some (SV.ros undef kP []) :: none :: none :: some (SV.int .i64 (0 : Int)) :: some (SV.int .i64 (0 : Int)) :: some (SV.int .i64 (0 : Int)) :: nn 49 ([]))
  []) [.v x92, .l kP x93, .i x94, .i x95, .i x96] = some (St.mk (some (SV.ros x92 kP x93) :: none :: none :: some (SV.int .i64 x94) :: some (SV.int .i64 x95) :: some (SV.int .i64 x96) :: nn 49 ([])) []) := by kernel_rfl
    rw [e] at hS
    cases hS
    exact ⟨_, (dflat_l1_iter x92 x93 x94 x95 Q _ x96).trans hE⟩
noncomputable def dflat_l1_lps {α : Type} : LookL α := addLp 28 [false, true, false, false, true, false, false, true, false, false, true, false, false, true, false, true] 0 (lEnt (St.mk (some (SV.ros undef kP []) :: none :: none :: some (SV.int .i64 (0 : Int)) :: some (SV.int .i64 (0 : Int)) :: some (SV.int .i64 (0 : Int)) :: nn 49 ([]))
  []) dflat_l1_go) dflat_l0_lps
theorem dflat_l1_lps_ok {α : Type} : LoopsOk E.P (dflat_l1_lps (α := α)) := addLp_ok dflat_l1_ok (dflat_l0_lps_ok)

noncomputable def _root_.Go.Proofs.Ytkjellhkamfciaa.M.dflat_l2_step {α : Type} (x99 : L3) (x100 : Int) (kn : Int → Option α) (k0 : Option α) (k2 : Option α) (x101 : Int) : Option α :=
  if cLt x101 x100 = true then M.dflat_l1 x99 x100 x101 k0 (kn (IntKind.wrap .i64 (x101 + (1 : Int)))) ((100 : Nat) + List.length x99) (0 : Int) else k2
noncomputable def _root_.Go.Proofs.Ytkjellhkamfciaa.M.dflat_l2 {α : Type} (x99 : L3) (x100 : Int) (k0 : Option α) (k2 : Option α) : Nat → Int → Option α
  | 0, _ => none
  | n + 1, x101 => M.dflat_l2_step x99 x100 (M.dflat_l2 x99 x100 k0 k2 n) k0 k2 x101
theorem dflat_l2_step_eq {α : Type} (x98 : Value) (x99 : L3) (x100 : Int) (x101 : Int) (Q : Ex → St → Option α) : (loopStep E (exec E look_dform dflat_l1_lps 400) 28 [false, true, false, false, true, false, false, true, false, true] 0 (codeAt E.P 28 [false, true, false, false, true, false, false, true, false, true])) (St.mk (some (SV.ros x98 kP x99) :: none :: none :: some (SV.int .i64 x100) :: some (SV.int .i64 x101) :: nn 50 ([])) []) Q = M.dflat_l2_step x99 x100 (fun (x102 : Int) => Q .normal (St.mk (some (SV.ros x98 kP x99) :: none :: none :: some (SV.int .i64 x100) :: some (SV.int .i64 x102) :: nn 50 ([])) [])) (Q .ret (St.mk (some (SV.ros x98 kP x99) :: none :: some (SV.bool false) :: some (SV.int .i64 x100) :: nn 51 ([])) [])) (Q (.exit 2) (St.mk (some (SV.ros x98 kP x99) :: none :: none :: some (SV.int .i64 x100) :: nn 51 ([])) [])) x101 := by kernel_rfl
theorem dflat_l2_iter {α : Type} (x98 : Value) (x99 : L3) (x100 : Int) (Q : Ex → St → Option α) : ∀ (n : Nat) (x101 : Int), iter (loopStep E (exec E look_dform dflat_l1_lps 400) 28 [false, true, false, false, true, false, false, true, false, true] 0 (codeAt E.P 28 [false, true, false, false, true, false, false, true, false, true])) n (St.mk (some (SV.ros x98 kP x99) :: none :: none :: some (SV.int .i64 x100) :: some (SV.int .i64 x101) :: nn 50 ([])) []) Q = M.dflat_l2 x99 x100 (Q .ret (St.mk (some (SV.ros x98 kP x99) :: none :: some (SV.bool false) :: some (SV.int .i64 x100) :: nn 51 ([])) [])) (Q (.exit 2) (St.mk (some (SV.ros x98 kP x99) :: none :: none :: some (SV.int .i64 x100) :: nn 51 ([])) [])) n x101
  | 0, _ => rfl
  | n + 1, x101 => (dflat_l2_step_eq x98 x99 x100 x101 (iterK (loopStep E (exec E look_dform dflat_l1_lps 400) 28 [false, true, false, false, true, false, false, true, false, true] 0 (codeAt E.P 28 [false, true, false, false, true, false, false, true, false, true])) n Q)).trans (congrArg (fun kn => M.dflat_l2_step x99 x100 kn (Q .ret (St.mk (some (SV.ros x98 kP x99) :: none :: some (SV.bool false) :: some (SV.int .i64 x100) :: nn 51 ([])) [])) (Q (.exit 2) (St.mk (some (SV.ros x98 kP x99) :: none :: none :: some (SV.int .i64 x100) :: nn 51 ([])) [])) x101) (funext fun x101 => dflat_l2_iter x98 x99 x100 Q n x101))
noncomputable def dflat_l2_go {α : Type} (ds : List D) (Q : Ex → St → Option α) : Option α :=
  dV ds fun x98 ds => dL kP ds fun x99 ds => dI ds fun x100 ds => dI ds fun x101 ds => dE ds (M.dflat_l2 x99 x100 (Q .ret (St.mk (some (SV.ros x98 kP x99) :: none :: some (SV.bool false) :: some (SV.int .i64 x100) :: nn 51 ([])) [])) (Q (.exit 2) (St.mk (some (SV.ros x98 kP x99) :: none :: none :: some (SV.int .i64 x100) :: nn 51 ([])) [])) (100 + x99.length) x101)
theorem dflat_l2_ok {α : Type} : LoopOk E.P 28 [false, true, false, false, true, false, false, true, false, true] 0 (lEnt (α := α) (St.mk (some (SV.ros undef kP []) :: none :: none :: some (SV.int .i64 (0 : Int)) :: some (SV.int .i64 (0 : Int)) :: nn 50 ([])) []) dflat_l2_go) :=
  lEnt_ok E (exec_sound E E_ok (look_dform_ok) (dflat_l1_lps_ok) 400) fun ds Q r h S hS => by
    unfold dflat_l2_go at h
    obtain ⟨x98, ds, rfl, h1⟩ := dV_inv h
    obtain ⟨x99, ds, rfl, h2⟩ := dL_inv h1
    obtain ⟨x100, ds, rfl, h3⟩ := dI_inv h2
    obtain ⟨x101, ds, rfl, h4⟩ := dI_inv h3
    obtain ⟨rfl, hE⟩ := dE_inv h4
    have e : fillS (St.mk (some (SV.ros undef kP []) :: none :: none :: some (SV.int .i64 (0 : Int)) :: some (SV.int .i64 (0 : Int)) :: nn 50 ([])) []) [.v x98, .l kP x99, .i x100, .i x101] = some (St.mk (some (SV.ros x98 kP x99) :: none :: none :: some (SV.int .i64 x100) :: some (SV.int .i64 x101) :: nn 50 ([])) []) := by kernel_rfl
    rw [e] at hS
    cases hS
    exact ⟨_, (dflat_l2_iter x98 x99 x100 Q _ x101).trans hE⟩
noncomputable def dflat_l2_lps {α : Type} : LookL α := addLp 28 [false, true, false, false, true, false, false, true, false, true] 0 (lEnt (St.mk (some (SV.ros undef kP []) :: none :: none :: some (SV.int .i64 (0 : Int)) :: some (SV.int .i64 (0 : Int)) :: nn 50 ([])) []) dflat_l2_go) dflat_l1_lps
theorem dflat_l2_lps_ok {α : Type} : LoopsOk E.P (dflat_l2_lps (α := α)) := addLp_ok dflat_l2_ok (dflat_l1_lps_ok)

noncomputable def _root_.Go.Proofs.Ytkjellhkamfciaa.M.dflat_l3_step {α : Type} (x104 : L3) (kn : Int → Option α) (k0 : Option α) (k2 : Option α) (x105 : Int) : Option α :=
  if cLt x105 (↑(List.length x104) : Int) = true then M.dflat_l2 x104 x105 k0 (kn (IntKind.wrap .i64 (x105 + (1 : Int)))) ((100 : Nat) + List.length x104) (0 : Int) else k2
noncomputable def _root_.Go.Proofs.Ytkjellhkamfciaa.M.dflat_l3 {α : Type} (x104 : L3) (k0 : Option α) (k2 : Option α) : Nat → Int → Option α
  | 0, _ => none
  | n + 1, x105 => M.dflat_l3_step x104 (M.dflat_l3 x104 k0 k2 n) k0 k2 x105
theorem dflat_l3_step_eq {α : Type} (x103 : Value) (x104 : L3) (x105 : Int) (Q : Ex → St → Option α) : (loopStep E (exec E look_dform dflat_l2_lps 400) 28 [false, true, false, true] 0 (codeAt E.P 28 [false, true, false, true])) (St.mk (some (SV.ros x103 kP x104) :: none :: none :: some (SV.int .i64 x105) :: nn 51 ([])) []) Q = M.dflat_l3_step x104 (fun (x106 : Int) => Q .normal (St.mk (some (SV.ros x103 kP x104) :: none :: none :: some (SV.int .i64 x106) :: nn 51 ([])) [])) (Q .ret (St.mk (none :: none :: some (SV.bool false) :: nn 52 ([])) [])) (Q (.exit 0) (St.mk (nn 55 ([])) [])) x105 := by kernel_rfl
theorem dflat_l3_iter {α : Type} (x103 : Value) (x104 : L3) (Q : Ex → St → Option α) : ∀ (n : Nat) (x105 : Int), iter (loopStep E (exec E look_dform dflat_l2_lps 400) 28 [false, true, false, true] 0 (codeAt E.P 28 [false, true, false, true])) n (St.mk (some (SV.ros x103 kP x104) :: none :: none :: some (SV.int .i64 x105) :: nn 51 ([])) []) Q = M.dflat_l3 x104 (Q .ret (St.mk (none :: none :: some (SV.bool false) :: nn 52 ([])) [])) (Q (.exit 0) (St.mk (nn 55 ([])) [])) n x105
  | 0, _ => rfl
  | n + 1, x105 => (dflat_l3_step_eq x103 x104 x105 (iterK (loopStep E (exec E look_dform dflat_l2_lps 400) 28 [false, true, false, true] 0 (codeAt E.P 28 [false, true, false, true])) n Q)).trans (congrArg (fun kn => M.dflat_l3_step x104 kn (Q .ret (St.mk (none :: none :: some (SV.bool false) :: nn 52 ([])) [])) (Q (.exit 0) (St.mk (nn 55 ([])) [])) x105) (funext fun x105 => dflat_l3_iter x103 x104 Q n x105))
noncomputable def dflat_l3_go {α : Type} (ds : List D) (Q : Ex → St → Option α) : Option α :=
  dV ds fun x103 ds => dL kP ds fun x104 ds => dI ds fun x105 ds => dE ds (M.dflat_l3 x104 (Q .ret (St.mk (none :: none :: some (SV.bool false) :: nn 52 ([])) [])) (Q (.exit 0) (St.mk (nn 55 ([])) [])) (100 + x104.length) x105)
theorem dflat_l3_ok {α : Type} : LoopOk E.P 28 [false, true, false, true] 0 (lEnt (α := α) (St.mk (some (SV.ros undef kP []) :: none :: none :: some (SV.int .i64 (0 : Int)) :: nn 51 ([])) []) dflat_l3_go) :=
  lEnt_ok E (exec_sound E E_ok (look_dform_ok) (dflat_l2_lps_ok) 400) fun ds Q r h S hS => by
    unfold dflat_l3_go at h
    obtain ⟨x103, ds, rfl, h1⟩ := dV_inv h
    obtain ⟨x104, ds, rfl, h2⟩ := dL_inv h1
    obtain ⟨x105, ds, rfl, h3⟩ := dI_inv h2
    obtain ⟨rfl, hE⟩ := dE_inv h3
    have e : fillS (St.mk (some (SV.ros undef kP []) :: none :: none :: some (SV.int .i64 (0 : Int)) :: nn 51 ([])) []) [.v x103, .l kP x104, .i x105] = some (St.mk (some (SV.ros x103 kP x104) :: none :: none :: some (SV.int .i64 x105) :: nn 51 ([])) []) := by kernel_rfl
    rw [e] at hS
    cases hS
    exact ⟨_, (dflat_l3_iter x103 x104 Q _ x105).trans hE⟩
noncomputable def dflat_l3_lps {α : Type} : LookL α := addLp 28 [false, true, false, true] 0 (lEnt (St.mk (some (SV.ros undef kP []) :: none :: none :: some (SV.int .i64 (0 : Int)) :: nn 51 ([])) []) dflat_l3_go) dflat_l2_lps
theorem dflat_l3_lps_ok {α : Type} : LoopsOk E.P (dflat_l3_lps (α := α)) := addLp_ok dflat_l3_ok (dflat_l2_lps_ok)

noncomputable def _root_.Go.Proofs.Ytkjellhkamfciaa.M.dflat {α : Type} (l : L3) (k0 : Bool → Option α) : Option α :=
  M.dflat_l3 l (k0 false) (k0 true) ((100 : Nat) + List.length l) (0 : Int)
theorem dflat_eq {α : Type} (l : L3) (v107 : Value) (Q : SV → Hp → Option α) : callI E look_dform (exec E look_dform dflat_l3_lps 400) 28 ([SV.ros v107 kP l]) ([]) Q = M.dflat l (fun (x108 : Bool) => Q (SV.bool x108) ([])) := by kernel_rfl
def dflat_sp : List AS := [.ro kP]
def Off (l : List P3) (A B C : P3) : Prop := ∃ d ∈ l, dt3 (nrm A B C) (sub3 d A) ≠ 0
theorem Off.swap23 {l : List P3} {A B C : P3} (h : Off l A B C) : Off l A C B := by
  obtain ⟨d, hd, h1⟩ := h
  refine ⟨d, hd, ?_⟩
  rw [nrm_swap23, dt_neg]; omega
theorem Off.swap12 {l : List P3} {A B C : P3} (h : Off l A B C) : Off l B A C := by
  obtain ⟨d, hd, h1⟩ := h
  refine ⟨d, hd, ?_⟩
  rw [nrm_swap12, dt_neg, sub_sub d B A, dt_sub, nrm_dt]
  omega
theorem copl_off {l : List P3} (h : ¬ Copl l) : ∃ i j k, i < j ∧ j < k ∧ k < l.length ∧ Off l (pt l i) (pt l j) (pt l k) := by
  have : ∃ A ∈ l, ∃ B ∈ l, ∃ C ∈ l, Off l A B C := by
    apply Classical.byContradiction
    intro hn
    apply h
    intro a ha b hb c hc d hd
    apply Classical.byContradiction
    intro h0
    exact hn ⟨a, ha, b, hb, c, hc, d, hd, h0⟩
  obtain ⟨A, hA, B, hB, C, hC, hx⟩ := this
  have hne : nrm A B C ≠ (0, 0, 0) := by
    obtain ⟨d, _, h1⟩ := hx
    intro e; rw [e] at h1; simp [dt3] at h1
  obtain ⟨n1, n2, n3⟩ := nrm_ne12 hne
  obtain ⟨i, hi, rfl⟩ := pt_of_mem hA
  obtain ⟨j, hj, rfl⟩ := pt_of_mem hB
  obtain ⟨k, hk, rfl⟩ := pt_of_mem hC
  have m1 : i ≠ j := fun e => n1 (by rw [e])
  have m2 : i ≠ k := fun e => n2 (by rw [e])
  have m3 : j ≠ k := fun e => n3 (by rw [e])
  rcases Nat.lt_or_gt_of_ne m1 with c1 | c1 <;> rcases Nat.lt_or_gt_of_ne m2 with c2 | c2 <;> rcases Nat.lt_or_gt_of_ne m3 with c3 | c3
  · exact ⟨i, j, k, c1, c3, hk, hx⟩
  · exact ⟨i, k, j, c2, c3, hj, hx.swap23⟩
  · omega
  · exact ⟨k, i, j, c2, c1, hj, hx.swap23.swap12⟩
  · exact ⟨j, i, k, c1, c2, hk, hx.swap12⟩
  · omega
  · exact ⟨j, k, i, c3, c2, hi, hx.swap12.swap23⟩
  · exact ⟨k, j, i, c3, c1, hi, hx.swap12.swap23.swap12⟩
def offD (l : List P3) (m k i o : Nat) : Prop := V.pDot (triN l m k i) (V.pSub (pt l o) (pt l m)) ≠ 0
theorem offD_iff {l : List P3} (h : Pts l) {m k i o : Nat} (hm : m < l.length) (hk : k < l.length) (hi : i < l.length) (ho : o < l.length) : offD l m k i o ↔ dt3 (nrm (pt l m) (pt l k) (pt l i)) (sub3 (pt l o) (pt l m)) ≠ 0 := by
  obtain ⟨e, s⟩ := h.triN hm hk hi
  unfold offD
  rw [e, (h.sub hm ho).1, dt_sm s (h.sub hm ho).2]
  exact Iff.rfl
theorem flat_iff {l : List P3} (h : Pts l) : V.flatP l = true ↔ ¬ ∃ i, 0 ≤ i ∧ i < l.length ∧ ∃ k, 0 ≤ k ∧ k < i ∧ ∃ m, 0 ≤ m ∧ m < k ∧ ∃ o, 0 ≤ o ∧ o < l.length ∧ offD l m k i o := by
  rw [flatP_iff]
  constructor
  · rintro hc ⟨i, _, hi, k, _, hk, m, _, hm, o, _, ho, h1⟩
    rw [offD_iff h (by omega) (by omega) hi ho] at h1
    exact h1 (hc _ (pt_mem l m (by omega)) _ (pt_mem l k (by omega)) _ (pt_mem l i hi) _ (pt_mem l o ho))
  · intro hn
    apply Classical.byContradiction
    intro hc
    obtain ⟨m, k, i, h1, h2, h3, d, hd, h4⟩ := copl_off hc
    obtain ⟨o, ho, rfl⟩ := pt_of_mem hd
    exact hn ⟨i, Nat.zero_le _, h3, k, Nat.zero_le _, h2, m, Nat.zero_le _, h1, o, Nat.zero_le _, ho, (offD_iff h (by omega) (by omega) h3 ho).2 h4⟩
theorem dflat_l0_val {α : Type} (l : List P3) (hl : l.length < 1099511627776) (m k i : Nat) (hm : m < l.length) (k0 k2 : Option α) (fuel : Nat) (hf : l.length < fuel) :
    M.dflat_l0 l (m : Int) (triN l m k i).1 (triN l m k i).2.1 (triN l m k i).2.2 k0 k2 fuel 0 = if exB (∃ o, 0 ≤ o ∧ o < l.length ∧ offD l m k i o) = true then k0 else k2 := by
  refine scan (fun f o => M.dflat_l0 l (m : Int) (triN l m k i).1 (triN l m k i).2.1 (triN l m k i).2.2 k0 k2 f o) l.length (fun o => offD l m k i o) k0 k2 ?_ ?_ fuel 0 (by omega) (by omega)
  · intro f o ho
    show M.dflat_l0_step _ _ _ _ _ _ _ _ _ = _
    unfold M.dflat_l0_step
    have a : (0 : Int) ≤ (o : Int) ∧ (o : Int) < (l.length : Int) := by omega
    have b : (0 : Int) ≤ (m : Int) ∧ (m : Int) < (l.length : Int) := by omega
    rw [cLt_nat, if_pos (by simpa using ho), if_pos a, if_pos b, w_next (by omega), cEq_eq]
    exact if_exB (by simp only [toNat_nat, Bool.not_eq_true', beq_eq_false_iff_ne]; exact Iff.rfl) _ _
  · intro f
    show M.dflat_l0_step _ _ _ _ _ _ _ _ _ = _
    unfold M.dflat_l0_step
    rw [cLt_nat, if_neg (by simp)]
theorem dflat_l1_val {α : Type} (l : List P3) (hl : l.length < 1099511627776) (k i : Nat) (hk : k < i) (hi : i < l.length) (k0 k2 : Option α) (fuel : Nat) (hf : l.length < fuel) :
    M.dflat_l1 l (i : Int) (k : Int) k0 k2 fuel 0 = if exB (∃ m, 0 ≤ m ∧ m < k ∧ ∃ o, 0 ≤ o ∧ o < l.length ∧ offD l m k i o) = true then k0 else k2 := by
  refine scan (fun f m => M.dflat_l1 l (i : Int) (k : Int) k0 k2 f m) k (fun m => ∃ o, 0 ≤ o ∧ o < l.length ∧ offD l m k i o) k0 k2 ?_ ?_ fuel 0 (by omega) (by omega)
  · intro f m hm
    show M.dflat_l1_step _ _ _ _ _ _ _ = _
    unfold M.dflat_l1_step
    have a : (0 : Int) ≤ (m : Int) ∧ (m : Int) < (l.length : Int) := by omega
    have b : (0 : Int) ≤ (k : Int) ∧ (k : Int) < (l.length : Int) := by omega
    have c : (0 : Int) ≤ (i : Int) ∧ (i : Int) < (l.length : Int) := by omega
    rw [cLt_nat, if_pos (by simpa using hm), if_pos a, if_pos b, if_pos c, w_next (by omega)]
    exact dflat_l0_val l hl m k i (by omega) _ _ _ (by omega)
  · intro f
    show M.dflat_l1_step _ _ _ _ _ _ _ = _
    unfold M.dflat_l1_step
    rw [cLt_nat, if_neg (by simp)]
theorem dflat_l2_val {α : Type} (l : List P3) (hl : l.length < 1099511627776) (i : Nat) (hi : i < l.length) (k0 k2 : Option α) (fuel : Nat) (hf : l.length < fuel) :
    M.dflat_l2 l (i : Int) k0 k2 fuel 0 = if exB (∃ k, 0 ≤ k ∧ k < i ∧ ∃ m, 0 ≤ m ∧ m < k ∧ ∃ o, 0 ≤ o ∧ o < l.length ∧ offD l m k i o) = true then k0 else k2 := by
  refine scan (fun f k => M.dflat_l2 l (i : Int) k0 k2 f k) i (fun k => ∃ m, 0 ≤ m ∧ m < k ∧ ∃ o, 0 ≤ o ∧ o < l.length ∧ offD l m k i o) k0 k2 ?_ ?_ fuel 0 (by omega) (by omega)
  · intro f k hk
    show M.dflat_l2_step _ _ _ _ _ _ = _
    unfold M.dflat_l2_step
    rw [cLt_nat, if_pos (by simpa using hk), w_next (by omega)]
    exact dflat_l1_val l hl k i hk hi _ _ _ (by omega)
  · intro f
    show M.dflat_l2_step _ _ _ _ _ _ = _
    unfold M.dflat_l2_step
    rw [cLt_nat, if_neg (by simp)]
theorem dflat_v {α : Type} (l : List P3) (hg : V.ptsB l = true) (k0 : Bool → Option α) : M.dflat l k0 = k0 (V.flatP l) := by
  obtain ⟨g1, g2, g3, g4⟩ := ptsB_iff hg
  have hp : Pts l := ⟨fun p hp => sm_of (g1 p hp), g2⟩
  unfold M.dflat
  have h := scan (fun f i => M.dflat_l3 l (k0 false) (k0 true) f i) l.length (fun i => ∃ k, 0 ≤ k ∧ k < i ∧ ∃ m, 0 ≤ m ∧ m < k ∧ ∃ o, 0 ≤ o ∧ o < l.length ∧ offD l m k i o) (k0 false) (k0 true) ?_ ?_ (100 + l.length) 0 (by omega) (by omega)
  · refine Eq.trans h ?_
    cases hf : V.flatP l with
    | true =>
      rw [if_neg]
      rw [exB_false ((flat_iff hp).1 hf)]; decide
    | false =>
      rw [if_pos]
      apply exB_true
      apply Classical.byContradiction
      intro hn
      rw [(flat_iff hp).2 hn] at hf; cases hf
  · intro f i hi
    show M.dflat_l3_step _ _ _ _ _ = _
    unfold M.dflat_l3_step
    rw [cLt_nat, if_pos (by simpa using hi), w_next (by omega)]
    exact dflat_l2_val l g4 i hi _ _ _ (by omega)
  · intro f
    show M.dflat_l3_step _ _ _ _ _ = _
    unfold M.dflat_l3_step
    rw [cLt_nat, if_neg (by simp)]
noncomputable def dflat_h {α : Type} (ds : List D) (Q : SV → Hp → Option α) : Option α :=
  dL kP ds fun l ds => dE ds (if V.ptsB l = true then Q (.bool (V.flatP l)) ([]) else none)
theorem dflat_h_ok {α : Type} : FnOk E.P 28 (fEnt (α := α) dflat_sp dflat_h) :=
  fEntR_ok E (look_dform_ok) (exec_sound E E_ok (look_dform_ok) (dflat_l3_lps_ok) 400) fun ds Q r h => by
    unfold dflat_h at h
    obtain ⟨l, ds, rfl, h1⟩ := dL_inv h
    obtain ⟨rfl, hE⟩ := dE_inv h1
    split at hE
    · rename_i hg
      exact ⟨_, _, hE, fun vs => ⟨_, _, by kernel_rfl, (dflat_eq l (vs.headD undef) _).trans (dflat_v l hg _)⟩⟩
    · cases hE
noncomputable def look_dflat {α : Type} : LookF α := addFn 28 (fEnt dflat_sp dflat_h) look_dform
theorem look_dflat_ok {α : Type} : LookOk E.P (look_dflat (α := α)) := addFn_ok dflat_h_ok (look_dform_ok)
noncomputable def _root_.Go.Proofs.Ytkjellhkamfciaa.M.dcheck {α : Type} (k : Int) (r : Int) (hx : Int) (hy : Int) (hz : Int) (l : L3) (k0 : Int → Option α) : Option α :=
  if (!V.form k r hx hy hz l) = true then k0 (50 : Int) else if cEq k (4 : Int) = true then if V.ptsB l = true then if V.flatP l = true then k0 (51 : Int) else k0 (0 : Int) else none else k0 (0 : Int)
theorem dcheck_eq {α : Type} (k : Int) (r : Int) (hx : Int) (hy : Int) (hz : Int) (l : L3) (v109 : Value) (Q : SV → Hp → Option α) : callI E look_dflat (exec E look_dflat noLps 400) 12 ([SV.agg [SV.int .i64 k, SV.int .i64 r, SV.int .i64 hx, SV.int .i64 hy, SV.int .i64 hz, SV.ros v109 kP l]]) ([]) Q = M.dcheck k r hx hy hz l (fun (x110 : Int) => Q (SV.int .i64 x110) ([])) := by kernel_rfl
def dcheck_sp : List AS := [.st [.leaf (.int .i64 0), .leaf (.int .i64 0), .leaf (.int .i64 0), .leaf (.int .i64 0), .leaf (.int .i64 0), .ro kP]]
theorem dcheck_v {α : Type} (k r hx hy hz : Int) (l : List P3) (k0 : Int → Option α) : M.dcheck k r hx hy hz l k0 = k0 (V.chk k r hx hy hz l) := by
  unfold M.dcheck V.chk V.form
  simp only [hid_eq, cEq_eq, beq_iff_eq]
  rw [chk_form]
  cases h : formP k r hx hy hz l with
  | false => simp
  | true =>
    by_cases h4 : k = 4
    · subst h4
      have hf : inZ (l.length : Int) 4 12 = true ∧ V.apartP l = true := by
        unfold formP at h
        simp at h
        exact ⟨h.1.1, h.1.2⟩
      have hl : 4 ≤ l.length ∧ l.length ≤ 12 := by have := hf.1; simp [inZ] at this; omega
      have hp := ptsB_of hf.2 (by omega) (by omega)
      cases V.flatP l <;> simp [hp]
    · simp [h4]
noncomputable def dcheck_h {α : Type} (ds : List D) (Q : SV → Hp → Option α) : Option α :=
  dI ds fun k ds => dI ds fun r ds => dI ds fun hx ds => dI ds fun hy ds => dI ds fun hz ds => dL kP ds fun l ds => dE ds (Q (.int .i64 (V.chk k r hx hy hz l)) ([]))
theorem dcheck_h_ok {α : Type} : FnOk E.P 12 (fEnt (α := α) dcheck_sp dcheck_h) :=
  fEntR_ok E (look_dflat_ok) (exec_sound E E_ok (look_dflat_ok) (noLps_ok _) 400) fun ds Q r h => by
    unfold dcheck_h at h
    obtain ⟨k, ds, rfl, h1⟩ := dI_inv h
    obtain ⟨r, ds, rfl, h2⟩ := dI_inv h1
    obtain ⟨hx, ds, rfl, h3⟩ := dI_inv h2
    obtain ⟨hy, ds, rfl, h4⟩ := dI_inv h3
    obtain ⟨hz, ds, rfl, h5⟩ := dI_inv h4
    obtain ⟨l, ds, rfl, h6⟩ := dL_inv h5
    obtain ⟨rfl, hE⟩ := dE_inv h6
    exact ⟨_, _, hE, fun vs => ⟨_, _, by kernel_rfl, (dcheck_eq k r hx hy hz l ((cellsV (vs.headD undef)).tail.tail.tail.tail.tail.headD undef) _).trans (dcheck_v k r hx hy hz l _)⟩⟩
noncomputable def look_dcheck {α : Type} : LookF α := addFn 12 (fEnt dcheck_sp dcheck_h) look_dflat
theorem look_dcheck_ok {α : Type} : LookOk E.P (look_dcheck (α := α)) := addFn_ok dcheck_h_ok (look_dflat_ok)
end Go.Proofs.Ytkjellhkamfciaa.Sx
