/- ShapeTidy: its run tells true. -/
import Derived.Test.YtkjellhkamfciaaSrD
namespace Go.Proofs.Ytkjellhkamfciaa.Sx
open Go
set_option maxRecDepth 20000
set_option linter.unusedVariables false
set_option linter.unusedSimpArgs false
noncomputable def _root_.Go.Proofs.Ytkjellhkamfciaa.M.ltidy_l0_step {α : Type} (x33 : Int) (x34 : Int) (x39 : L3) (x40 : Int) (x41 : Int) (x42 : Int) (kn : Int → Option α) (k0 : Option α) (k2 : Option α) (x35 : Int) : Option α :=
  if cLt x35 x34 = true then
  if (0 : Int) ≤ x35 ∧ x35 < (↑(List.length x39) : Int) then
    if (cEq (Prod.fst (List.getD x39 (Int.toNat x35) ((0 : Int), (0 : Int), (0 : Int)))) x40 && (cEq (Prod.fst (Prod.snd (List.getD x39 (Int.toNat x35) ((0 : Int), (0 : Int), (0 : Int))))) x41 && (cEq (Prod.snd (Prod.snd (List.getD x39 (Int.toNat x35) ((0 : Int), (0 : Int), (0 : Int))))) x42 && true))) = true then k0
    else
      if cEq x33 (1 : Int) = true then
        if (0 : Int) ≤ x35 ∧ x35 < (↑(List.length x39) : Int) then
          if (cEq (Prod.fst (List.getD x39 (Int.toNat x35) ((0 : Int), (0 : Int), (0 : Int)))) (IntKind.wrap .i64 ((0 : Int) - x40)) && (cEq (Prod.fst (Prod.snd (List.getD x39 (Int.toNat x35) ((0 : Int), (0 : Int), (0 : Int))))) (IntKind.wrap .i64 ((0 : Int) - x41)) && (cEq (Prod.snd (Prod.snd (List.getD x39 (Int.toNat x35) ((0 : Int), (0 : Int), (0 : Int))))) (IntKind.wrap .i64 ((0 : Int) - x42)) && true))) = true then k0 else kn (IntKind.wrap .i64 (x35 + (1 : Int)))
        else none
      else kn (IntKind.wrap .i64 (x35 + (1 : Int)))
  else none
else k2
noncomputable def _root_.Go.Proofs.Ytkjellhkamfciaa.M.ltidy_l0 {α : Type} (x33 : Int) (x34 : Int) (x39 : L3) (x40 : Int) (x41 : Int) (x42 : Int) (k0 : Option α) (k2 : Option α) : Nat → Int → Option α
  | 0, _ => none
  | n + 1, x35 => M.ltidy_l0_step x33 x34 x39 x40 x41 x42 (M.ltidy_l0 x33 x34 x39 x40 x41 x42 k0 k2 n) k0 k2 x35
theorem ltidy_l0_step_eq {α : Type} (x33 : Int) (x34 : Int) (x35 : Int) (x36 : Int) (x37 : L3) (x38 : L3) (x39 : L3) (x40 : Int) (x41 : Int) (x42 : Int) (Q : Ex → St → Option α) : (loopStep E (exec E look_right noLps 400) 9 [false, true, true, true, false, false, true, false, false, true, true, true, false, false, true, false, false, true, false, true, true, true, true] 0 (codeAt E.P 9 [false, true, true, true, false, false, true, false, false, true, true, true, false, false, true, false, false, true, false, true, true, true, true])) (St.mk (nn 4 (some (SV.ptr (nat_lit 0) (nat_lit 0)) :: none :: some (SV.int .i64 x33) :: some (SV.sl (nat_lit 3)) :: some (SV.int .i64 x34) :: some (SV.ptr (nat_lit 4) (nat_lit 0)) :: some (SV.int .i64 x35) :: nn 78 ([])))
  [.cells [SV.sl (nat_lit 1), SV.sl (nat_lit 2), SV.sl (nat_lit 3), SV.int .i64 x36] (nat_lit 31), .seq kP x37 (nat_lit 23), .seq kP x38 (nat_lit 23), .seq kP x39 (nat_lit 23), .cells [SV.int .i64 x40, SV.int .i64 x41, SV.int .i64 x42] (nat_lit 23)]) Q = M.ltidy_l0_step x33 x34 x39 x40 x41 x42 (fun (x43 : Int) => Q .normal (St.mk (nn 4 (some (SV.ptr (nat_lit 0) (nat_lit 0)) :: none :: some (SV.int .i64 x33) :: some (SV.sl (nat_lit 3)) :: some (SV.int .i64 x34) :: some (SV.ptr (nat_lit 4) (nat_lit 0)) :: some (SV.int .i64 x43) :: nn 78 ([])))
  [.cells [SV.sl (nat_lit 1), SV.sl (nat_lit 2), SV.sl (nat_lit 3), SV.int .i64 x36] (nat_lit 31), .seq kP x37 (nat_lit 23), .seq kP x38 (nat_lit 23), .seq kP x39 (nat_lit 23), .cells [SV.int .i64 x40, SV.int .i64 x41, SV.int .i64 x42] (nat_lit 23)])) (Q .ret (St.mk (none :: none :: some (SV.bool false) :: none :: some (SV.ptr (nat_lit 0) (nat_lit 0)) :: none :: some (SV.int .i64 x33) :: some (SV.sl (nat_lit 3)) :: some (SV.int .i64 x34) :: nn 80 ([]))
  [.cells [SV.sl (nat_lit 1), SV.sl (nat_lit 2), SV.sl (nat_lit 3), SV.int .i64 x36] (nat_lit 31), .seq kP x37 (nat_lit 23), .seq kP x38 (nat_lit 23), .seq kP x39 (nat_lit 23)])) (Q (.exit 4) (St.mk (nn 4 (some (SV.ptr (nat_lit 0) (nat_lit 0)) :: none :: some (SV.int .i64 x33) :: some (SV.sl (nat_lit 3)) :: some (SV.int .i64 x34) :: nn 80 ([])))
  [.cells [SV.sl (nat_lit 1), SV.sl (nat_lit 2), SV.sl (nat_lit 3), SV.int .i64 x36] (nat_lit 31), .seq kP x37 (nat_lit 23), .seq kP x38 (nat_lit 23), .seq kP x39 (nat_lit 23)])) x35 := by kernel_rfl
theorem ltidy_l0_iter {α : Type} (x33 : Int) (x34 : Int) (x36 : Int) (x37 : L3) (x38 : L3) (x39 : L3) (x40 : Int) (x41 : Int) (x42 : Int) (Q : Ex → St → Option α) : ∀ (n : Nat) (x35 : Int), iter (loopStep E (exec E look_right noLps 400) 9 [false, true, true, true, false, false, true, false, false, true, true, true, false, false, true, false, false, true, false, true, true, true, true] 0 (codeAt E.P 9 [false, true, true, true, false, false, true, false, false, true, true, true, false, false, true, false, false, true, false, true, true, true, true])) n (St.mk (nn 4 (some (SV.ptr (nat_lit 0) (nat_lit 0)) :: none :: some (SV.int .i64 x33) :: some (SV.sl (nat_lit 3)) :: some (SV.int .i64 x34) :: some (SV.ptr (nat_lit 4) (nat_lit 0)) :: some (SV.int .i64 x35) :: nn 78 ([])))
  [.cells [SV.sl (nat_lit 1), SV.sl (nat_lit 2), SV.sl (nat_lit 3), SV.int .i64 x36] (nat_lit 31), .seq kP x37 (nat_lit 23), .seq kP x38 (nat_lit 23), .seq kP x39 (nat_lit 23), .cells [SV.int .i64 x40, SV.int .i64 x41, SV.int .i64 x42] (nat_lit 23)]) Q = M.ltidy_l0 x33 x34 x39 x40 x41 x42 (Q .ret (St.mk (none :: none :: some (SV.bool false) :: none :: some (SV.ptr (nat_lit 0) (nat_lit 0)) :: none :: some (SV.int .i64 x33) :: some (SV.sl (nat_lit 3)) :: some (SV.int .i64 x34) :: nn 80 ([]))
  [.cells [SV.sl (nat_lit 1), SV.sl (nat_lit 2), SV.sl (nat_lit 3), SV.int .i64 x36] (nat_lit 31), .seq kP x37 (nat_lit 23), .seq kP x38 (nat_lit 23), .seq kP x39 (nat_lit 23)])) (Q (.exit 4) (St.mk (nn 4 (some (SV.ptr (nat_lit 0) (nat_lit 0)) :: none :: some (SV.int .i64 x33) :: some (SV.sl (nat_lit 3)) :: some (SV.int .i64 x34) :: nn 80 ([])))
  [.cells [SV.sl (nat_lit 1), SV.sl (nat_lit 2), SV.sl (nat_lit 3), SV.int .i64 x36] (nat_lit 31), .seq kP x37 (nat_lit 23), .seq kP x38 (nat_lit 23), .seq kP x39 (nat_lit 23)])) n x35
  | 0, _ => rfl
  | n + 1, x35 => (ltidy_l0_step_eq x33 x34 x35 x36 x37 x38 x39 x40 x41 x42 (iterK (loopStep E (exec E look_right noLps 400) 9 [false, true, true, true, false, false, true, false, false, true, true, true, false, false, true, false, false, true, false, true, true, true, true] 0 (codeAt E.P 9 [false, true, true, true, false, false, true, false, false, true, true, true, false, false, true, false, false, true, false, true, true, true, true])) n Q)).trans (congrArg (fun kn => M.ltidy_l0_step x33 x34 x39 x40 x41 x42 kn (Q .ret (St.mk (none :: none :: some (SV.bool false) :: none :: some (SV.ptr (nat_lit 0) (nat_lit 0)) :: none :: some (SV.int .i64 x33) :: some (SV.sl (nat_lit 3)) :: some (SV.int .i64 x34) :: nn 80 ([]))
  [.cells [SV.sl (nat_lit 1), SV.sl (nat_lit 2), SV.sl (nat_lit 3), SV.int .i64 x36] (nat_lit 31), .seq kP x37 (nat_lit 23), .seq kP x38 (nat_lit 23), .seq kP x39 (nat_lit 23)])) (Q (.exit 4) (St.mk (nn 4 (some (SV.ptr (nat_lit 0) (nat_lit 0)) :: none :: some (SV.int .i64 x33) :: some (SV.sl (nat_lit 3)) :: some (SV.int .i64 x34) :: nn 80 ([])))
  [.cells [SV.sl (nat_lit 1), SV.sl (nat_lit 2), SV.sl (nat_lit 3), SV.int .i64 x36] (nat_lit 31), .seq kP x37 (nat_lit 23), .seq kP x38 (nat_lit 23), .seq kP x39 (nat_lit 23)])) x35) (funext fun x35 => ltidy_l0_iter x33 x34 x36 x37 x38 x39 x40 x41 x42 Q n x35))
noncomputable def ltidy_l0_go {α : Type} (ds : List D) (Q : Ex → St → Option α) : Option α :=
  dI ds fun x33 ds => dI ds fun x34 ds => dI ds fun x35 ds => dI ds fun x36 ds => dL kP ds fun x37 ds => dL kP ds fun x38 ds => dL kP ds fun x39 ds => dI ds fun x40 ds => dI ds fun x41 ds => dI ds fun x42 ds => dE ds (M.ltidy_l0 x33 x34 x39 x40 x41 x42 (Q .ret (St.mk (none :: none :: some (SV.bool false) :: none :: some (SV.ptr (nat_lit 0) (nat_lit 0)) :: none :: some (SV.int .i64 x33) :: some (SV.sl (nat_lit 3)) :: some (SV.int .i64 x34) :: nn 80 ([]))
  [.cells [SV.sl (nat_lit 1), SV.sl (nat_lit 2), SV.sl (nat_lit 3), SV.int .i64 x36] (nat_lit 31), .seq kP x37 (nat_lit 23), .seq kP x38 (nat_lit 23), .seq kP x39 (nat_lit 23)])) (Q (.exit 4) (St.mk (nn 4 (some (SV.ptr (nat_lit 0) (nat_lit 0)) :: none :: some (SV.int .i64 x33) :: some (SV.sl (nat_lit 3)) :: some (SV.int .i64 x34) :: nn 80 ([])))
  [.cells [SV.sl (nat_lit 1), SV.sl (nat_lit 2), SV.sl (nat_lit 3), SV.int .i64 x36] (nat_lit 31), .seq kP x37 (nat_lit 23), .seq kP x38 (nat_lit 23), .seq kP x39 (nat_lit 23)])) (100 + x37.length + x38.length + x39.length) x35)
theorem ltidy_l0_ok {α : Type} : LoopOk E.P 9 [false, true, true, true, false, false, true, false, false, true, true, true, false, false, true, false, false, true, false, true, true, true, true] 0 (lEnt (α := α) (St.mk (nn 4 (some (SV.ptr (nat_lit 0) (nat_lit 0)) :: none :: some (SV.int .i64 (0 : Int)) :: some (SV.sl (nat_lit 3)) :: some (SV.int .i64 (0 : Int)) :: some (SV.ptr (nat_lit 4) (nat_lit 0)) :: some (SV.int .i64 (0 : Int)) :: nn 78 ([])))
  [.cells [SV.sl (nat_lit 1), SV.sl (nat_lit 2), SV.sl (nat_lit 3), SV.int .i64 (0 : Int)] (nat_lit 31), .seq kP [] (nat_lit 23), .seq kP [] (nat_lit 23), .seq kP [] (nat_lit 23), .cells [SV.int .i64 (0 : Int), SV.int .i64 (0 : Int), SV.int .i64 (0 : Int)] (nat_lit 23)]) ltidy_l0_go) :=
  lEnt_ok E (exec_sound E E_ok (look_right_ok) (noLps_ok _) 400) fun ds Q r h S hS => by
    unfold ltidy_l0_go at h
    obtain ⟨x33, ds, rfl, h1⟩ := dI_inv h
    obtain ⟨x34, ds, rfl, h2⟩ := dI_inv h1
    obtain ⟨x35, ds, rfl, h3⟩ := dI_inv h2
    obtain ⟨x36, ds, rfl, h4⟩ := dI_inv h3
    obtain ⟨x37, ds, rfl, h5⟩ := dL_inv h4
    obtain ⟨x38, ds, rfl, h6⟩ := dL_inv h5
    obtain ⟨x39, ds, rfl, h7⟩ := dL_inv h6
    obtain ⟨x40, ds, rfl, h8⟩ := dI_inv h7
    obtain ⟨x41, ds, rfl, h9⟩ := dI_inv h8
    obtain ⟨x42, ds, rfl, h10⟩ := dI_inv h9
    obtain ⟨rfl, hE⟩ := dE_inv h10
    have e : fillS (St.mk (nn 4 (some (SV.ptr (nat_lit 0) (nat_lit 0)) :: none :: some (SV.int .i64 (0 : Int)) :: some (SV.sl (nat_lit 3)) :: some (SV.int .i64 (0 : Int)) :: some (SV.ptr (nat_lit 4) (nat_lit 0)) :: some (SV.int .i64 (0 : Int)) :: nn 78 ([])))
  [.cells [SV.sl (nat_lit 1), SV.sl (nat_lit 2), SV.sl (nat_lit 3), SV.int .i64 (0 : Int)] (nat_lit 31), .seq kP [] (nat_lit 23), .seq kP [] (nat_lit 23), .seq kP [] (nat_lit 23), .cells [SV.int .i64 (0 : Int), SV.int .i64 (0 : Int), SV.int .i64 (0 : Int)] (nat_lit 23)]) [.i x33, .i x34, .i x35, .i x36, .l kP x37, .l kP x38, .l kP x39, .i x40, .i x41, .i x42] = some (St.mk (nn 4 (some (SV.ptr (nat_lit 0) (nat_lit 0)) :: none :: some (SV.int .i64 x33) :: some (SV.sl (nat_lit 3)) :: some (SV.int .i64 x34) :: some (SV.ptr (nat_lit 4) (nat_lit 0)) :: some (SV.int .i64 x35) :: nn 78 ([])))
  [.cells [SV.sl (nat_lit 1), SV.sl (nat_lit 2), SV.sl (nat_lit 3), SV.int .i64 x36] (nat_lit 31), .seq kP x37 (nat_lit 23), .seq kP x38 (nat_lit 23), .seq kP x39 (nat_lit 23), .cells [SV.int .i64 x40, SV.int .i64 x41, SV.int .i64 x42] (nat_lit 23)]) := by kernel_rfl
    rw [e] at hS
    cases hS
    exact ⟨_, (ltidy_l0_iter x33 x34 x36 x37 x38 x39 x40 x41 x42 Q _ x35).trans hE⟩
noncomputable def ltidy_l0_lps {α : Type} : LookL α := addLp 9 [false, true, true, true, false, false, true, false, false, true, true, true, false, false, true, false, false, true, false, true, true, true, true] 0 (lEnt (St.mk (nn 4 (some (SV.ptr (nat_lit 0) (nat_lit 0)) :: none :: some (SV.int .i64 (0 : Int)) :: some (SV.sl (nat_lit 3)) :: some (SV.int .i64 (0 : Int)) :: some (SV.ptr (nat_lit 4) (nat_lit 0)) :: some (SV.int .i64 (0 : Int)) :: nn 78 ([])))
  [.cells [SV.sl (nat_lit 1), SV.sl (nat_lit 2), SV.sl (nat_lit 3), SV.int .i64 (0 : Int)] (nat_lit 31), .seq kP [] (nat_lit 23), .seq kP [] (nat_lit 23), .seq kP [] (nat_lit 23), .cells [SV.int .i64 (0 : Int), SV.int .i64 (0 : Int), SV.int .i64 (0 : Int)] (nat_lit 23)]) ltidy_l0_go) noLps
theorem ltidy_l0_lps_ok {α : Type} : LoopsOk E.P (ltidy_l0_lps (α := α)) := addLp_ok ltidy_l0_ok (noLps_ok _)

noncomputable def _root_.Go.Proofs.Ytkjellhkamfciaa.M.ltidy_l1_step {α : Type} (x44 : Int) (x47 : L3) (x48 : L3) (x49 : L3) (kn : Int → Option α) (k0 : Option α) (k2 : Option α) (x45 : Int) : Option α :=
  if cLt x45 (↑(List.length x49) : Int) = true then
  if (0 : Int) ≤ x45 ∧ x45 < (↑(List.length x49) : Int) then
    if (cEq (Prod.fst (List.getD x49 (Int.toNat x45) ((0 : Int), (0 : Int), (0 : Int)))) (0 : Int) && (cEq (Prod.fst (Prod.snd (List.getD x49 (Int.toNat x45) ((0 : Int), (0 : Int), (0 : Int))))) (0 : Int) && (cEq (Prod.snd (Prod.snd (List.getD x49 (Int.toNat x45) ((0 : Int), (0 : Int), (0 : Int))))) (0 : Int) && true))) = true then k0
    else
      if
          (!(cEq (Prod.fst (V.pShort (List.getD x49 (Int.toNat x45) ((0 : Int), (0 : Int), (0 : Int))))) (Prod.fst (List.getD x49 (Int.toNat x45) ((0 : Int), (0 : Int), (0 : Int)))) &&
                (cEq (Prod.fst (Prod.snd (V.pShort (List.getD x49 (Int.toNat x45) ((0 : Int), (0 : Int), (0 : Int)))))) (Prod.fst (Prod.snd (List.getD x49 (Int.toNat x45) ((0 : Int), (0 : Int), (0 : Int))))) && (cEq (Prod.snd (Prod.snd (V.pShort (List.getD x49 (Int.toNat x45) ((0 : Int), (0 : Int), (0 : Int)))))) (Prod.snd (Prod.snd (List.getD x49 (Int.toNat x45) ((0 : Int), (0 : Int), (0 : Int))))) && true)))) =
            true then
        k0
      else M.ltidy_l0 x44 x45 x49 (Prod.fst (List.getD x49 (Int.toNat x45) ((0 : Int), (0 : Int), (0 : Int)))) (Prod.fst (Prod.snd (List.getD x49 (Int.toNat x45) ((0 : Int), (0 : Int), (0 : Int))))) (Prod.snd (Prod.snd (List.getD x49 (Int.toNat x45) ((0 : Int), (0 : Int), (0 : Int))))) k0 (kn (IntKind.wrap .i64 (x45 + (1 : Int)))) ((100 : Nat) + List.length x47 + List.length x48 + List.length x49) (0 : Int)
  else none
else k2
noncomputable def _root_.Go.Proofs.Ytkjellhkamfciaa.M.ltidy_l1 {α : Type} (x44 : Int) (x47 : L3) (x48 : L3) (x49 : L3) (k0 : Option α) (k2 : Option α) : Nat → Int → Option α
  | 0, _ => none
  | n + 1, x45 => M.ltidy_l1_step x44 x47 x48 x49 (M.ltidy_l1 x44 x47 x48 x49 k0 k2 n) k0 k2 x45
theorem ltidy_l1_step_eq {α : Type} (x44 : Int) (x45 : Int) (x46 : Int) (x47 : L3) (x48 : L3) (x49 : L3) (Q : Ex → St → Option α) : (loopStep E (exec E look_right ltidy_l0_lps 400) 9 [false, true, true, true, false, false, true, false, false, true, false, true, true, true, true] 0 (codeAt E.P 9 [false, true, true, true, false, false, true, false, false, true, false, true, true, true, true])) (St.mk (nn 4 (some (SV.ptr (nat_lit 0) (nat_lit 0)) :: none :: some (SV.int .i64 x44) :: some (SV.sl (nat_lit 3)) :: some (SV.int .i64 x45) :: nn 80 ([])))
  [.cells [SV.sl (nat_lit 1), SV.sl (nat_lit 2), SV.sl (nat_lit 3), SV.int .i64 x46] (nat_lit 31), .seq kP x47 (nat_lit 23), .seq kP x48 (nat_lit 23), .seq kP x49 (nat_lit 23)]) Q = M.ltidy_l1_step x44 x47 x48 x49 (fun (x50 : Int) => Q .normal (St.mk (nn 4 (some (SV.ptr (nat_lit 0) (nat_lit 0)) :: none :: some (SV.int .i64 x44) :: some (SV.sl (nat_lit 3)) :: some (SV.int .i64 x50) :: nn 80 ([])))
  [.cells [SV.sl (nat_lit 1), SV.sl (nat_lit 2), SV.sl (nat_lit 3), SV.int .i64 x46] (nat_lit 31), .seq kP x47 (nat_lit 23), .seq kP x48 (nat_lit 23), .seq kP x49 (nat_lit 23)])) (Q .ret (St.mk (none :: none :: some (SV.bool false) :: none :: some (SV.ptr (nat_lit 0) (nat_lit 0)) :: none :: some (SV.int .i64 x44) :: nn 82 ([]))
  [.cells [SV.sl (nat_lit 1), SV.sl (nat_lit 2), SV.sl (nat_lit 3), SV.int .i64 x46] (nat_lit 31), .seq kP x47 (nat_lit 23), .seq kP x48 (nat_lit 23), .seq kP x49 (nat_lit 23)])) (Q (.exit 2) (St.mk (nn 4 (some (SV.ptr (nat_lit 0) (nat_lit 0)) :: none :: some (SV.int .i64 x44) :: nn 82 ([])))
  [.cells [SV.sl (nat_lit 1), SV.sl (nat_lit 2), SV.sl (nat_lit 3), SV.int .i64 x46] (nat_lit 31), .seq kP x47 (nat_lit 23), .seq kP x48 (nat_lit 23), .seq kP x49 (nat_lit 23)])) x45 := by kernel_rfl
theorem ltidy_l1_iter {α : Type} (x44 : Int) (x46 : Int) (x47 : L3) (x48 : L3) (x49 : L3) (Q : Ex → St → Option α) : ∀ (n : Nat) (x45 : Int), iter (loopStep E (exec E look_right ltidy_l0_lps 400) 9 [false, true, true, true, false, false, true, false, false, true, false, true, true, true, true] 0 (codeAt E.P 9 [false, true, true, true, false, false, true, false, false, true, false, true, true, true, true])) n (St.mk (nn 4 (some (SV.ptr (nat_lit 0) (nat_lit 0)) :: none :: some (SV.int .i64 x44) :: some (SV.sl (nat_lit 3)) :: some (SV.int .i64 x45) :: nn 80 ([])))
  [.cells [SV.sl (nat_lit 1), SV.sl (nat_lit 2), SV.sl (nat_lit 3), SV.int .i64 x46] (nat_lit 31), .seq kP x47 (nat_lit 23), .seq kP x48 (nat_lit 23), .seq kP x49 (nat_lit 23)]) Q = M.ltidy_l1 x44 x47 x48 x49 (Q .ret (St.mk (none :: none :: some (SV.bool false) :: none :: some (SV.ptr (nat_lit 0) (nat_lit 0)) :: none :: some (SV.int .i64 x44) :: nn 82 ([]))
  [.cells [SV.sl (nat_lit 1), SV.sl (nat_lit 2), SV.sl (nat_lit 3), SV.int .i64 x46] (nat_lit 31), .seq kP x47 (nat_lit 23), .seq kP x48 (nat_lit 23), .seq kP x49 (nat_lit 23)])) (Q (.exit 2) (St.mk (nn 4 (some (SV.ptr (nat_lit 0) (nat_lit 0)) :: none :: some (SV.int .i64 x44) :: nn 82 ([])))
  [.cells [SV.sl (nat_lit 1), SV.sl (nat_lit 2), SV.sl (nat_lit 3), SV.int .i64 x46] (nat_lit 31), .seq kP x47 (nat_lit 23), .seq kP x48 (nat_lit 23), .seq kP x49 (nat_lit 23)])) n x45
  | 0, _ => rfl
  | n + 1, x45 => (ltidy_l1_step_eq x44 x45 x46 x47 x48 x49 (iterK (loopStep E (exec E look_right ltidy_l0_lps 400) 9 [false, true, true, true, false, false, true, false, false, true, false, true, true, true, true] 0 (codeAt E.P 9 [false, true, true, true, false, false, true, false, false, true, false, true, true, true, true])) n Q)).trans (congrArg (fun kn => M.ltidy_l1_step x44 x47 x48 x49 kn (Q .ret (St.mk (none :: none :: some (SV.bool false) :: none :: some (SV.ptr (nat_lit 0) (nat_lit 0)) :: none :: some (SV.int .i64 x44) :: nn 82 ([]))
  [.cells [SV.sl (nat_lit 1), SV.sl (nat_lit 2), SV.sl (nat_lit 3), SV.int .i64 x46] (nat_lit 31), .seq kP x47 (nat_lit 23), .seq kP x48 (nat_lit 23), .seq kP x49 (nat_lit 23)])) (Q (.exit 2) (St.mk (nn 4 (some (SV.ptr (nat_lit 0) (nat_lit 0)) :: none :: some (SV.int .i64 x44) :: nn 82 ([])))
  [.cells [SV.sl (nat_lit 1), SV.sl (nat_lit 2), SV.sl (nat_lit 3), SV.int .i64 x46] (nat_lit 31), .seq kP x47 (nat_lit 23), .seq kP x48 (nat_lit 23), .seq kP x49 (nat_lit 23)])) x45) (funext fun x45 => ltidy_l1_iter x44 x46 x47 x48 x49 Q n x45))
noncomputable def ltidy_l1_go {α : Type} (ds : List D) (Q : Ex → St → Option α) : Option α :=
  dI ds fun x44 ds => dI ds fun x45 ds => dI ds fun x46 ds => dL kP ds fun x47 ds => dL kP ds fun x48 ds => dL kP ds fun x49 ds => dE ds (M.ltidy_l1 x44 x47 x48 x49 (Q .ret (St.mk (none :: none :: some (SV.bool false) :: none :: some (SV.ptr (nat_lit 0) (nat_lit 0)) :: none :: some (SV.int .i64 x44) :: nn 82 ([]))
  [.cells [SV.sl (nat_lit 1), SV.sl (nat_lit 2), SV.sl (nat_lit 3), SV.int .i64 x46] (nat_lit 31), .seq kP x47 (nat_lit 23), .seq kP x48 (nat_lit 23), .seq kP x49 (nat_lit 23)])) (Q (.exit 2) (St.mk (nn 4 (some (SV.ptr (nat_lit 0) (nat_lit 0)) :: none :: some (SV.int .i64 x44) :: nn 82 ([])))
  [.cells [SV.sl (nat_lit 1), SV.sl (nat_lit 2), SV.sl (nat_lit 3), SV.int .i64 x46] (nat_lit 31), .seq kP x47 (nat_lit 23), .seq kP x48 (nat_lit 23), .seq kP x49 (nat_lit 23)])) (100 + x47.length + x48.length + x49.length) x45)
theorem ltidy_l1_ok {α : Type} : LoopOk E.P 9 [false, true, true, true, false, false, true, false, false, true, false, true, true, true, true] 0 (lEnt (α := α) (St.mk (nn 4 (some (SV.ptr (nat_lit 0) (nat_lit 0)) :: none :: some (SV.int .i64 (0 : Int)) :: some (SV.sl (nat_lit 3)) :: some (SV.int .i64 (0 : Int)) :: nn 80 ([])))
  [.cells [SV.sl (nat_lit 1), SV.sl (nat_lit 2), SV.sl (nat_lit 3), SV.int .i64 (0 : Int)] (nat_lit 31), .seq kP [] (nat_lit 23), .seq kP [] (nat_lit 23), .seq kP [] (nat_lit 23)]) ltidy_l1_go) :=
  lEnt_ok E (exec_sound E E_ok (look_right_ok) (ltidy_l0_lps_ok) 400) fun ds Q r h S hS => by
    unfold ltidy_l1_go at h
    obtain ⟨x44, ds, rfl, h1⟩ := dI_inv h
    obtain ⟨x45, ds, rfl, h2⟩ := dI_inv h1
    obtain ⟨x46, ds, rfl, h3⟩ := dI_inv h2
    obtain ⟨x47, ds, rfl, h4⟩ := dL_inv h3
    obtain ⟨x48, ds, rfl, h5⟩ := dL_inv h4
    obtain ⟨x49, ds, rfl, h6⟩ := dL_inv h5
    obtain ⟨rfl, hE⟩ := dE_inv h6
    have e : fillS (St.mk (nn 4 (some (SV.ptr (nat_lit 0) (nat_lit 0)) :: none :: some (SV.int .i64 (0 : Int)) :: some (SV.sl (nat_lit 3)) :: some (SV.int .i64 (0 : Int)) :: nn 80 ([])))
  [.cells [SV.sl (nat_lit 1), SV.sl (nat_lit 2), SV.sl (nat_lit 3), SV.int .i64 (0 : Int)] (nat_lit 31), .seq kP [] (nat_lit 23), .seq kP [] (nat_lit 23), .seq kP [] (nat_lit 23)]) [.i x44, .i x45, .i x46, .l kP x47, .l kP x48, .l kP x49] = some (St.mk (nn 4 (some (SV.ptr (nat_lit 0) (nat_lit 0)) :: none :: some (SV.int .i64 x44) :: some (SV.sl (nat_lit 3)) :: some (SV.int .i64 x45) :: nn 80 ([])))
  [.cells [SV.sl (nat_lit 1), SV.sl (nat_lit 2), SV.sl (nat_lit 3), SV.int .i64 x46] (nat_lit 31), .seq kP x47 (nat_lit 23), .seq kP x48 (nat_lit 23), .seq kP x49 (nat_lit 23)]) := by kernel_rfl
    rw [e] at hS
    cases hS
    exact ⟨_, (ltidy_l1_iter x44 x46 x47 x48 x49 Q _ x45).trans hE⟩
noncomputable def ltidy_l1_lps {α : Type} : LookL α := addLp 9 [false, true, true, true, false, false, true, false, false, true, false, true, true, true, true] 0 (lEnt (St.mk (nn 4 (some (SV.ptr (nat_lit 0) (nat_lit 0)) :: none :: some (SV.int .i64 (0 : Int)) :: some (SV.sl (nat_lit 3)) :: some (SV.int .i64 (0 : Int)) :: nn 80 ([])))
  [.cells [SV.sl (nat_lit 1), SV.sl (nat_lit 2), SV.sl (nat_lit 3), SV.int .i64 (0 : Int)] (nat_lit 31), .seq kP [] (nat_lit 23), .seq kP [] (nat_lit 23), .seq kP [] (nat_lit 23)]) ltidy_l1_go) ltidy_l0_lps
theorem ltidy_l1_lps_ok {α : Type} : LoopsOk E.P (ltidy_l1_lps (α := α)) := addLp_ok ltidy_l1_ok (ltidy_l0_lps_ok)

noncomputable def _root_.Go.Proofs.Ytkjellhkamfciaa.M.ltidy_l2_step {α : Type} (x78 : Int) (x79 : Int) (x83 : L3) (x85 : Int) (x86 : Int) (x87 : Int) (kn : Int → Option α) (k0 : Option α) (k2 : Option α) (x80 : Int) : Option α :=
  if cLt x80 x79 = true then
  if (0 : Int) ≤ x80 ∧ x80 < (↑(List.length x83) : Int) then
    if (cEq (Prod.fst (List.getD x83 (Int.toNat x80) ((0 : Int), (0 : Int), (0 : Int)))) x85 && (cEq (Prod.fst (Prod.snd (List.getD x83 (Int.toNat x80) ((0 : Int), (0 : Int), (0 : Int))))) x86 && (cEq (Prod.snd (Prod.snd (List.getD x83 (Int.toNat x80) ((0 : Int), (0 : Int), (0 : Int))))) x87 && true))) = true then k0
    else
      if cEq x78 (1 : Int) = true then
        if (0 : Int) ≤ x80 ∧ x80 < (↑(List.length x83) : Int) then
          if (cEq (Prod.fst (List.getD x83 (Int.toNat x80) ((0 : Int), (0 : Int), (0 : Int)))) (IntKind.wrap .i64 ((0 : Int) - x85)) && (cEq (Prod.fst (Prod.snd (List.getD x83 (Int.toNat x80) ((0 : Int), (0 : Int), (0 : Int))))) (IntKind.wrap .i64 ((0 : Int) - x86)) && (cEq (Prod.snd (Prod.snd (List.getD x83 (Int.toNat x80) ((0 : Int), (0 : Int), (0 : Int))))) (IntKind.wrap .i64 ((0 : Int) - x87)) && true))) = true then k0 else kn (IntKind.wrap .i64 (x80 + (1 : Int)))
        else none
      else kn (IntKind.wrap .i64 (x80 + (1 : Int)))
  else none
else k2
noncomputable def _root_.Go.Proofs.Ytkjellhkamfciaa.M.ltidy_l2 {α : Type} (x78 : Int) (x79 : Int) (x83 : L3) (x85 : Int) (x86 : Int) (x87 : Int) (k0 : Option α) (k2 : Option α) : Nat → Int → Option α
  | 0, _ => none
  | n + 1, x80 => M.ltidy_l2_step x78 x79 x83 x85 x86 x87 (M.ltidy_l2 x78 x79 x83 x85 x86 x87 k0 k2 n) k0 k2 x80
theorem ltidy_l2_step_eq {α : Type} (x78 : Int) (x79 : Int) (x80 : Int) (x81 : Int) (x82 : L3) (x83 : L3) (x84 : L3) (x85 : Int) (x86 : Int) (x87 : Int) (Q : Ex → St → Option α) : (loopStep E (exec E look_right ltidy_l1_lps 400) 9 [false, true, true, true, false, false, true, false, false, true, true, true, false, false, true, false, false, true, false, true, true, true, true] 0 (codeAt E.P 9 [false, true, true, true, false, false, true, false, false, true, true, true, false, false, true, false, false, true, false, true, true, true, true])) (St.mk (nn 4 (some (SV.ptr (nat_lit 0) (nat_lit 0)) :: none :: some (SV.int .i64 x78) :: some (SV.sl (nat_lit 2)) :: some (SV.int .i64 x79) :: some (SV.ptr (nat_lit 4) (nat_lit 0)) :: some (SV.int .i64 x80) :: nn 78 ([])))
  [.cells [SV.sl (nat_lit 1), SV.sl (nat_lit 2), SV.sl (nat_lit 3), SV.int .i64 x81] (nat_lit 31), .seq kP x82 (nat_lit 23), .seq kP x83 (nat_lit 23), .seq kP x84 (nat_lit 23), .cells [SV.int .i64 x85, SV.int .i64 x86, SV.int .i64 x87] (nat_lit 23)]) Q = M.ltidy_l2_step x78 x79 x83 x85 x86 x87 (fun (x88 : Int) => Q .normal (St.mk (nn 4 (some (SV.ptr (nat_lit 0) (nat_lit 0)) :: none :: some (SV.int .i64 x78) :: some (SV.sl (nat_lit 2)) :: some (SV.int .i64 x79) :: some (SV.ptr (nat_lit 4) (nat_lit 0)) :: some (SV.int .i64 x88) :: nn 78 ([])))
  [.cells [SV.sl (nat_lit 1), SV.sl (nat_lit 2), SV.sl (nat_lit 3), SV.int .i64 x81] (nat_lit 31), .seq kP x82 (nat_lit 23), .seq kP x83 (nat_lit 23), .seq kP x84 (nat_lit 23), .cells [SV.int .i64 x85, SV.int .i64 x86, SV.int .i64 x87] (nat_lit 23)])) (Q .ret (St.mk (none :: none :: some (SV.bool false) :: none :: some (SV.ptr (nat_lit 0) (nat_lit 0)) :: none :: some (SV.int .i64 x78) :: some (SV.sl (nat_lit 2)) :: some (SV.int .i64 x79) :: nn 80 ([]))
  [.cells [SV.sl (nat_lit 1), SV.sl (nat_lit 2), SV.sl (nat_lit 3), SV.int .i64 x81] (nat_lit 31), .seq kP x82 (nat_lit 23), .seq kP x83 (nat_lit 23), .seq kP x84 (nat_lit 23)])) (Q (.exit 4) (St.mk (nn 4 (some (SV.ptr (nat_lit 0) (nat_lit 0)) :: none :: some (SV.int .i64 x78) :: some (SV.sl (nat_lit 2)) :: some (SV.int .i64 x79) :: nn 80 ([])))
  [.cells [SV.sl (nat_lit 1), SV.sl (nat_lit 2), SV.sl (nat_lit 3), SV.int .i64 x81] (nat_lit 31), .seq kP x82 (nat_lit 23), .seq kP x83 (nat_lit 23), .seq kP x84 (nat_lit 23)])) x80 := by kernel_rfl
theorem ltidy_l2_iter {α : Type} (x78 : Int) (x79 : Int) (x81 : Int) (x82 : L3) (x83 : L3) (x84 : L3) (x85 : Int) (x86 : Int) (x87 : Int) (Q : Ex → St → Option α) : ∀ (n : Nat) (x80 : Int), iter (loopStep E (exec E look_right ltidy_l1_lps 400) 9 [false, true, true, true, false, false, true, false, false, true, true, true, false, false, true, false, false, true, false, true, true, true, true] 0 (codeAt E.P 9 [false, true, true, true, false, false, true, false, false, true, true, true, false, false, true, false, false, true, false, true, true, true, true])) n (St.mk (nn 4 (some (SV.ptr (nat_lit 0) (nat_lit 0)) :: none :: some (SV.int .i64 x78) :: some (SV.sl (nat_lit 2)) :: some (SV.int .i64 x79) :: some (SV.ptr (nat_lit 4) (nat_lit 0)) :: some (SV.int .i64 x80) :: nn 78 ([])))
  [.cells [SV.sl (nat_lit 1), SV.sl (nat_lit 2), SV.sl (nat_lit 3), SV.int .i64 x81] (nat_lit 31), .seq kP x82 (nat_lit 23), .seq kP x83 (nat_lit 23), .seq kP x84 (nat_lit 23), .cells [SV.int .i64 x85, SV.int .i64 x86, SV.int .i64 x87] (nat_lit 23)]) Q = M.ltidy_l2 x78 x79 x83 x85 x86 x87 (Q .ret (St.mk (none :: none :: some (SV.bool false) :: none :: some (SV.ptr (nat_lit 0) (nat_lit 0)) :: none :: some (SV.int .i64 x78) :: some (SV.sl (nat_lit 2)) :: some (SV.int .i64 x79) :: nn 80 ([]))
  [.cells [SV.sl (nat_lit 1), SV.sl (nat_lit 2), SV.sl (nat_lit 3), SV.int .i64 x81] (nat_lit 31), .seq kP x82 (nat_lit 23), .seq kP x83 (nat_lit 23), .seq kP x84 (nat_lit 23)])) (Q (.exit 4) (St.mk (nn 4 (some (SV.ptr (nat_lit 0) (nat_lit 0)) :: none :: some (SV.int .i64 x78) :: some (SV.sl (nat_lit 2)) :: some (SV.int .i64 x79) :: nn 80 ([])))
  [.cells [SV.sl (nat_lit 1), SV.sl (nat_lit 2), SV.sl (nat_lit 3), SV.int .i64 x81] (nat_lit 31), .seq kP x82 (nat_lit 23), .seq kP x83 (nat_lit 23), .seq kP x84 (nat_lit 23)])) n x80
  | 0, _ => rfl
  | n + 1, x80 => (ltidy_l2_step_eq x78 x79 x80 x81 x82 x83 x84 x85 x86 x87 (iterK (loopStep E (exec E look_right ltidy_l1_lps 400) 9 [false, true, true, true, false, false, true, false, false, true, true, true, false, false, true, false, false, true, false, true, true, true, true] 0 (codeAt E.P 9 [false, true, true, true, false, false, true, false, false, true, true, true, false, false, true, false, false, true, false, true, true, true, true])) n Q)).trans (congrArg (fun kn => M.ltidy_l2_step x78 x79 x83 x85 x86 x87 kn (Q .ret (St.mk (none :: none :: some (SV.bool false) :: none :: some (SV.ptr (nat_lit 0) (nat_lit 0)) :: none :: some (SV.int .i64 x78) :: some (SV.sl (nat_lit 2)) :: some (SV.int .i64 x79) :: nn 80 ([]))
  [.cells [SV.sl (nat_lit 1), SV.sl (nat_lit 2), SV.sl (nat_lit 3), SV.int .i64 x81] (nat_lit 31), .seq kP x82 (nat_lit 23), .seq kP x83 (nat_lit 23), .seq kP x84 (nat_lit 23)])) (Q (.exit 4) (St.mk (nn 4 (some (SV.ptr (nat_lit 0) (nat_lit 0)) :: none :: some (SV.int .i64 x78) :: some (SV.sl (nat_lit 2)) :: some (SV.int .i64 x79) :: nn 80 ([])))
  [.cells [SV.sl (nat_lit 1), SV.sl (nat_lit 2), SV.sl (nat_lit 3), SV.int .i64 x81] (nat_lit 31), .seq kP x82 (nat_lit 23), .seq kP x83 (nat_lit 23), .seq kP x84 (nat_lit 23)])) x80) (funext fun x80 => ltidy_l2_iter x78 x79 x81 x82 x83 x84 x85 x86 x87 Q n x80))
noncomputable def ltidy_l2_go {α : Type} (ds : List D) (Q : Ex → St → Option α) : Option α :=
  dI ds fun x78 ds => dI ds fun x79 ds => dI ds fun x80 ds => dI ds fun x81 ds => dL kP ds fun x82 ds => dL kP ds fun x83 ds => dL kP ds fun x84 ds => dI ds fun x85 ds => dI ds fun x86 ds => dI ds fun x87 ds => dE ds (M.ltidy_l2 x78 x79 x83 x85 x86 x87 (Q .ret (St.mk (none :: none :: some (SV.bool false) :: none :: some (SV.ptr (nat_lit 0) (nat_lit 0)) :: none :: some (SV.int .i64 x78) :: some (SV.sl (nat_lit 2)) :: some (SV.int .i64 x79) :: nn 80 ([]))
  [.cells [SV.sl (nat_lit 1), SV.sl (nat_lit 2), SV.sl (nat_lit 3), SV.int .i64 x81] (nat_lit 31), .seq kP x82 (nat_lit 23), .seq kP x83 (nat_lit 23), .seq kP x84 (nat_lit 23)])) (Q (.exit 4) (St.mk (nn 4 (some (SV.ptr (nat_lit 0) (nat_lit 0)) :: none :: some (SV.int .i64 x78) :: some (SV.sl (nat_lit 2)) :: some (SV.int .i64 x79) :: nn 80 ([])))
  [.cells [SV.sl (nat_lit 1), SV.sl (nat_lit 2), SV.sl (nat_lit 3), SV.int .i64 x81] (nat_lit 31), .seq kP x82 (nat_lit 23), .seq kP x83 (nat_lit 23), .seq kP x84 (nat_lit 23)])) (100 + x82.length + x83.length + x84.length) x80)
theorem ltidy_l2_ok {α : Type} : LoopOk E.P 9 [false, true, true, true, false, false, true, false, false, true, true, true, false, false, true, false, false, true, false, true, true, true, true] 0 (lEnt (α := α) (St.mk (nn 4 (some (SV.ptr (nat_lit 0) (nat_lit 0)) :: none :: some (SV.int .i64 (0 : Int)) :: some (SV.sl (nat_lit 2)) :: some (SV.int .i64 (0 : Int)) :: some (SV.ptr (nat_lit 4) (nat_lit 0)) :: some (SV.int .i64 (0 : Int)) :: nn 78 ([])))
  [.cells [SV.sl (nat_lit 1), SV.sl (nat_lit 2), SV.sl (nat_lit 3), SV.int .i64 (0 : Int)] (nat_lit 31), .seq kP [] (nat_lit 23), .seq kP [] (nat_lit 23), .seq kP [] (nat_lit 23), .cells [SV.int .i64 (0 : Int), SV.int .i64 (0 : Int), SV.int .i64 (0 : Int)] (nat_lit 23)]) ltidy_l2_go) :=
  lEnt_ok E (exec_sound E E_ok (look_right_ok) (ltidy_l1_lps_ok) 400) fun ds Q r h S hS => by
    unfold ltidy_l2_go at h
    obtain ⟨x78, ds, rfl, h1⟩ := dI_inv h
    obtain ⟨x79, ds, rfl, h2⟩ := dI_inv h1
    obtain ⟨x80, ds, rfl, h3⟩ := dI_inv h2
    obtain ⟨x81, ds, rfl, h4⟩ := dI_inv h3
    obtain ⟨x82, ds, rfl, h5⟩ := dL_inv h4
    obtain ⟨x83, ds, rfl, h6⟩ := dL_inv h5
    obtain ⟨x84, ds, rfl, h7⟩ := dL_inv h6
    obtain ⟨x85, ds, rfl, h8⟩ := dI_inv h7
    obtain ⟨x86, ds, rfl, h9⟩ := dI_inv h8
    obtain ⟨x87, ds, rfl, h10⟩ := dI_inv h9
    obtain ⟨rfl, hE⟩ := dE_inv h10
    have e : fillS (St.mk (nn 4 (some (SV.ptr (nat_lit 0) (nat_lit 0)) :: none :: some (SV.int .i64 (0 : Int)) :: some (SV.sl (nat_lit 2)) :: some (SV.int .i64 (0 : Int)) :: some (SV.ptr (nat_lit 4) (nat_lit 0)) :: some (SV.int .i64 (0 : Int)) :: nn 78 ([])))
  [.cells [SV.sl (nat_lit 1), SV.sl (nat_lit 2), SV.sl (nat_lit 3), SV.int .i64 (0 : Int)] (nat_lit 31), .seq kP [] (nat_lit 23), .seq kP [] (nat_lit 23), .seq kP [] (nat_lit 23), .cells [SV.int .i64 (0 : Int), SV.int .i64 (0 : Int), SV.int .i64 (0 : Int)] (nat_lit 23)]) [.i x78, .i x79, .i x80, .i x81, .l kP x82, .l kP x83, .l kP x84, .i x85, .i x86, .i x87] = some (St.mk (nn 4 (some (SV.ptr (nat_lit 0) (nat_lit 0)) :: none :: some (SV.int .i64 x78) :: some (SV.sl (nat_lit 2)) :: some (SV.int .i64 x79) :: some (SV.ptr (nat_lit 4) (nat_lit 0)) :: some (SV.int .i64 x80) :: nn 78 ([])))
  [.cells [SV.sl (nat_lit 1), SV.sl (nat_lit 2), SV.sl (nat_lit 3), SV.int .i64 x81] (nat_lit 31), .seq kP x82 (nat_lit 23), .seq kP x83 (nat_lit 23), .seq kP x84 (nat_lit 23), .cells [SV.int .i64 x85, SV.int .i64 x86, SV.int .i64 x87] (nat_lit 23)]) := by kernel_rfl
    rw [e] at hS
    cases hS
    exact ⟨_, (ltidy_l2_iter x78 x79 x81 x82 x83 x84 x85 x86 x87 Q _ x80).trans hE⟩
noncomputable def ltidy_l2_lps {α : Type} : LookL α := addLp 9 [false, true, true, true, false, false, true, false, false, true, true, true, false, false, true, false, false, true, false, true, true, true, true] 0 (lEnt (St.mk (nn 4 (some (SV.ptr (nat_lit 0) (nat_lit 0)) :: none :: some (SV.int .i64 (0 : Int)) :: some (SV.sl (nat_lit 2)) :: some (SV.int .i64 (0 : Int)) :: some (SV.ptr (nat_lit 4) (nat_lit 0)) :: some (SV.int .i64 (0 : Int)) :: nn 78 ([])))
  [.cells [SV.sl (nat_lit 1), SV.sl (nat_lit 2), SV.sl (nat_lit 3), SV.int .i64 (0 : Int)] (nat_lit 31), .seq kP [] (nat_lit 23), .seq kP [] (nat_lit 23), .seq kP [] (nat_lit 23), .cells [SV.int .i64 (0 : Int), SV.int .i64 (0 : Int), SV.int .i64 (0 : Int)] (nat_lit 23)]) ltidy_l2_go) ltidy_l1_lps
theorem ltidy_l2_lps_ok {α : Type} : LoopsOk E.P (ltidy_l2_lps (α := α)) := addLp_ok ltidy_l2_ok (ltidy_l1_lps_ok)

noncomputable def _root_.Go.Proofs.Ytkjellhkamfciaa.M.ltidy_l3_step {α : Type} (x89 : Int) (x92 : L3) (x93 : L3) (x94 : L3) (kn : Int → Option α) (k0 : Option α) (k2 : Option α) (x90 : Int) : Option α :=
  if cLt x90 (↑(List.length x93) : Int) = true then
  if (0 : Int) ≤ x90 ∧ x90 < (↑(List.length x93) : Int) then
    if (cEq (Prod.fst (List.getD x93 (Int.toNat x90) ((0 : Int), (0 : Int), (0 : Int)))) (0 : Int) && (cEq (Prod.fst (Prod.snd (List.getD x93 (Int.toNat x90) ((0 : Int), (0 : Int), (0 : Int))))) (0 : Int) && (cEq (Prod.snd (Prod.snd (List.getD x93 (Int.toNat x90) ((0 : Int), (0 : Int), (0 : Int))))) (0 : Int) && true))) = true then k0
    else
      if
          (!(cEq (Prod.fst (V.pShort (List.getD x93 (Int.toNat x90) ((0 : Int), (0 : Int), (0 : Int))))) (Prod.fst (List.getD x93 (Int.toNat x90) ((0 : Int), (0 : Int), (0 : Int)))) &&
                (cEq (Prod.fst (Prod.snd (V.pShort (List.getD x93 (Int.toNat x90) ((0 : Int), (0 : Int), (0 : Int)))))) (Prod.fst (Prod.snd (List.getD x93 (Int.toNat x90) ((0 : Int), (0 : Int), (0 : Int))))) && (cEq (Prod.snd (Prod.snd (V.pShort (List.getD x93 (Int.toNat x90) ((0 : Int), (0 : Int), (0 : Int)))))) (Prod.snd (Prod.snd (List.getD x93 (Int.toNat x90) ((0 : Int), (0 : Int), (0 : Int))))) && true)))) =
            true then
        k0
      else M.ltidy_l2 x89 x90 x93 (Prod.fst (List.getD x93 (Int.toNat x90) ((0 : Int), (0 : Int), (0 : Int)))) (Prod.fst (Prod.snd (List.getD x93 (Int.toNat x90) ((0 : Int), (0 : Int), (0 : Int))))) (Prod.snd (Prod.snd (List.getD x93 (Int.toNat x90) ((0 : Int), (0 : Int), (0 : Int))))) k0 (kn (IntKind.wrap .i64 (x90 + (1 : Int)))) ((100 : Nat) + List.length x92 + List.length x93 + List.length x94) (0 : Int)
  else none
else k2
noncomputable def _root_.Go.Proofs.Ytkjellhkamfciaa.M.ltidy_l3 {α : Type} (x89 : Int) (x92 : L3) (x93 : L3) (x94 : L3) (k0 : Option α) (k2 : Option α) : Nat → Int → Option α
  | 0, _ => none
  | n + 1, x90 => M.ltidy_l3_step x89 x92 x93 x94 (M.ltidy_l3 x89 x92 x93 x94 k0 k2 n) k0 k2 x90
theorem ltidy_l3_step_eq {α : Type} (x89 : Int) (x90 : Int) (x91 : Int) (x92 : L3) (x93 : L3) (x94 : L3) (Q : Ex → St → Option α) : (loopStep E (exec E look_right ltidy_l2_lps 400) 9 [false, true, true, true, false, false, true, false, false, true, false, true, true, true, true] 0 (codeAt E.P 9 [false, true, true, true, false, false, true, false, false, true, false, true, true, true, true])) (St.mk (nn 4 (some (SV.ptr (nat_lit 0) (nat_lit 0)) :: none :: some (SV.int .i64 x89) :: some (SV.sl (nat_lit 2)) :: some (SV.int .i64 x90) :: nn 80 ([])))
  [.cells [SV.sl (nat_lit 1), SV.sl (nat_lit 2), SV.sl (nat_lit 3), SV.int .i64 x91] (nat_lit 31), .seq kP x92 (nat_lit 23), .seq kP x93 (nat_lit 23), .seq kP x94 (nat_lit 23)]) Q = M.ltidy_l3_step x89 x92 x93 x94 (fun (x95 : Int) => Q .normal (St.mk (nn 4 (some (SV.ptr (nat_lit 0) (nat_lit 0)) :: none :: some (SV.int .i64 x89) :: some (SV.sl (nat_lit 2)) :: some (SV.int .i64 x95) :: nn 80 ([])))
  [.cells [SV.sl (nat_lit 1), SV.sl (nat_lit 2), SV.sl (nat_lit 3), SV.int .i64 x91] (nat_lit 31), .seq kP x92 (nat_lit 23), .seq kP x93 (nat_lit 23), .seq kP x94 (nat_lit 23)])) (Q .ret (St.mk (none :: none :: some (SV.bool false) :: none :: some (SV.ptr (nat_lit 0) (nat_lit 0)) :: none :: some (SV.int .i64 x89) :: nn 82 ([]))
  [.cells [SV.sl (nat_lit 1), SV.sl (nat_lit 2), SV.sl (nat_lit 3), SV.int .i64 x91] (nat_lit 31), .seq kP x92 (nat_lit 23), .seq kP x93 (nat_lit 23), .seq kP x94 (nat_lit 23)])) (Q (.exit 2) (St.mk (nn 4 (some (SV.ptr (nat_lit 0) (nat_lit 0)) :: none :: some (SV.int .i64 x89) :: nn 82 ([])))
  [.cells [SV.sl (nat_lit 1), SV.sl (nat_lit 2), SV.sl (nat_lit 3), SV.int .i64 x91] (nat_lit 31), .seq kP x92 (nat_lit 23), .seq kP x93 (nat_lit 23), .seq kP x94 (nat_lit 23)])) x90 := by kernel_rfl
theorem ltidy_l3_iter {α : Type} (x89 : Int) (x91 : Int) (x92 : L3) (x93 : L3) (x94 : L3) (Q : Ex → St → Option α) : ∀ (n : Nat) (x90 : Int), iter (loopStep E (exec E look_right ltidy_l2_lps 400) 9 [false, true, true, true, false, false, true, false, false, true, false, true, true, true, true] 0 (codeAt E.P 9 [false, true, true, true, false, false, true, false, false, true, false, true, true, true, true])) n (St.mk (nn 4 (some (SV.ptr (nat_lit 0) (nat_lit 0)) :: none :: some (SV.int .i64 x89) :: some (SV.sl (nat_lit 2)) :: some (SV.int .i64 x90) :: nn 80 ([])))
  [.cells [SV.sl (nat_lit 1), SV.sl (nat_lit 2), SV.sl (nat_lit 3), SV.int .i64 x91] (nat_lit 31), .seq kP x92 (nat_lit 23), .seq kP x93 (nat_lit 23), .seq kP x94 (nat_lit 23)]) Q = M.ltidy_l3 x89 x92 x93 x94 (Q .ret (St.mk (none :: none :: some (SV.bool false) :: none :: some (SV.ptr (nat_lit 0) (nat_lit 0)) :: none :: some (SV.int .i64 x89) :: nn 82 ([]))
  [.cells [SV.sl (nat_lit 1), SV.sl (nat_lit 2), SV.sl (nat_lit 3), SV.int .i64 x91] (nat_lit 31), .seq kP x92 (nat_lit 23), .seq kP x93 (nat_lit 23), .seq kP x94 (nat_lit 23)])) (Q (.exit 2) (St.mk (nn 4 (some (SV.ptr (nat_lit 0) (nat_lit 0)) :: none :: some (SV.int .i64 x89) :: nn 82 ([])))
  [.cells [SV.sl (nat_lit 1), SV.sl (nat_lit 2), SV.sl (nat_lit 3), SV.int .i64 x91] (nat_lit 31), .seq kP x92 (nat_lit 23), .seq kP x93 (nat_lit 23), .seq kP x94 (nat_lit 23)])) n x90
  | 0, _ => rfl
  | n + 1, x90 => (ltidy_l3_step_eq x89 x90 x91 x92 x93 x94 (iterK (loopStep E (exec E look_right ltidy_l2_lps 400) 9 [false, true, true, true, false, false, true, false, false, true, false, true, true, true, true] 0 (codeAt E.P 9 [false, true, true, true, false, false, true, false, false, true, false, true, true, true, true])) n Q)).trans (congrArg (fun kn => M.ltidy_l3_step x89 x92 x93 x94 kn (Q .ret (St.mk (none :: none :: some (SV.bool false) :: none :: some (SV.ptr (nat_lit 0) (nat_lit 0)) :: none :: some (SV.int .i64 x89) :: nn 82 ([]))
  [.cells [SV.sl (nat_lit 1), SV.sl (nat_lit 2), SV.sl (nat_lit 3), SV.int .i64 x91] (nat_lit 31), .seq kP x92 (nat_lit 23), .seq kP x93 (nat_lit 23), .seq kP x94 (nat_lit 23)])) (Q (.exit 2) (St.mk (nn 4 (some (SV.ptr (nat_lit 0) (nat_lit 0)) :: none :: some (SV.int .i64 x89) :: nn 82 ([])))
  [.cells [SV.sl (nat_lit 1), SV.sl (nat_lit 2), SV.sl (nat_lit 3), SV.int .i64 x91] (nat_lit 31), .seq kP x92 (nat_lit 23), .seq kP x93 (nat_lit 23), .seq kP x94 (nat_lit 23)])) x90) (funext fun x90 => ltidy_l3_iter x89 x91 x92 x93 x94 Q n x90))
noncomputable def ltidy_l3_go {α : Type} (ds : List D) (Q : Ex → St → Option α) : Option α :=
  dI ds fun x89 ds => dI ds fun x90 ds => dI ds fun x91 ds => dL kP ds fun x92 ds => dL kP ds fun x93 ds => dL kP ds fun x94 ds => dE ds (M.ltidy_l3 x89 x92 x93 x94 (Q .ret (St.mk (none :: none :: some (SV.bool false) :: none :: some (SV.ptr (nat_lit 0) (nat_lit 0)) :: none :: some (SV.int .i64 x89) :: nn 82 ([]))
  [.cells [SV.sl (nat_lit 1), SV.sl (nat_lit 2), SV.sl (nat_lit 3), SV.int .i64 x91] (nat_lit 31), .seq kP x92 (nat_lit 23), .seq kP x93 (nat_lit 23), .seq kP x94 (nat_lit 23)])) (Q (.exit 2) (St.mk (nn 4 (some (SV.ptr (nat_lit 0) (nat_lit 0)) :: none :: some (SV.int .i64 x89) :: nn 82 ([])))
  [.cells [SV.sl (nat_lit 1), SV.sl (nat_lit 2), SV.sl (nat_lit 3), SV.int .i64 x91] (nat_lit 31), .seq kP x92 (nat_lit 23), .seq kP x93 (nat_lit 23), .seq kP x94 (nat_lit 23)])) (100 + x92.length + x93.length + x94.length) x90)
theorem ltidy_l3_ok {α : Type} : LoopOk E.P 9 [false, true, true, true, false, false, true, false, false, true, false, true, true, true, true] 0 (lEnt (α := α) (St.mk (nn 4 (some (SV.ptr (nat_lit 0) (nat_lit 0)) :: none :: some (SV.int .i64 (0 : Int)) :: some (SV.sl (nat_lit 2)) :: some (SV.int .i64 (0 : Int)) :: nn 80 ([])))
  [.cells [SV.sl (nat_lit 1), SV.sl (nat_lit 2), SV.sl (nat_lit 3), SV.int .i64 (0 : Int)] (nat_lit 31), .seq kP [] (nat_lit 23), .seq kP [] (nat_lit 23), .seq kP [] (nat_lit 23)]) ltidy_l3_go) :=
  lEnt_ok E (exec_sound E E_ok (look_right_ok) (ltidy_l2_lps_ok) 400) fun ds Q r h S hS => by
    unfold ltidy_l3_go at h
    obtain ⟨x89, ds, rfl, h1⟩ := dI_inv h
    obtain ⟨x90, ds, rfl, h2⟩ := dI_inv h1
    obtain ⟨x91, ds, rfl, h3⟩ := dI_inv h2
    obtain ⟨x92, ds, rfl, h4⟩ := dL_inv h3
    obtain ⟨x93, ds, rfl, h5⟩ := dL_inv h4
    obtain ⟨x94, ds, rfl, h6⟩ := dL_inv h5
    obtain ⟨rfl, hE⟩ := dE_inv h6
    have e : fillS (St.mk (nn 4 (some (SV.ptr (nat_lit 0) (nat_lit 0)) :: none :: some (SV.int .i64 (0 : Int)) :: some (SV.sl (nat_lit 2)) :: some (SV.int .i64 (0 : Int)) :: nn 80 ([])))
  [.cells [SV.sl (nat_lit 1), SV.sl (nat_lit 2), SV.sl (nat_lit 3), SV.int .i64 (0 : Int)] (nat_lit 31), .seq kP [] (nat_lit 23), .seq kP [] (nat_lit 23), .seq kP [] (nat_lit 23)]) [.i x89, .i x90, .i x91, .l kP x92, .l kP x93, .l kP x94] = some (St.mk (nn 4 (some (SV.ptr (nat_lit 0) (nat_lit 0)) :: none :: some (SV.int .i64 x89) :: some (SV.sl (nat_lit 2)) :: some (SV.int .i64 x90) :: nn 80 ([])))
  [.cells [SV.sl (nat_lit 1), SV.sl (nat_lit 2), SV.sl (nat_lit 3), SV.int .i64 x91] (nat_lit 31), .seq kP x92 (nat_lit 23), .seq kP x93 (nat_lit 23), .seq kP x94 (nat_lit 23)]) := by kernel_rfl
    rw [e] at hS
    cases hS
    exact ⟨_, (ltidy_l3_iter x89 x91 x92 x93 x94 Q _ x90).trans hE⟩
noncomputable def ltidy_l3_lps {α : Type} : LookL α := addLp 9 [false, true, true, true, false, false, true, false, false, true, false, true, true, true, true] 0 (lEnt (St.mk (nn 4 (some (SV.ptr (nat_lit 0) (nat_lit 0)) :: none :: some (SV.int .i64 (0 : Int)) :: some (SV.sl (nat_lit 2)) :: some (SV.int .i64 (0 : Int)) :: nn 80 ([])))
  [.cells [SV.sl (nat_lit 1), SV.sl (nat_lit 2), SV.sl (nat_lit 3), SV.int .i64 (0 : Int)] (nat_lit 31), .seq kP [] (nat_lit 23), .seq kP [] (nat_lit 23), .seq kP [] (nat_lit 23)]) ltidy_l3_go) ltidy_l2_lps
theorem ltidy_l3_lps_ok {α : Type} : LoopsOk E.P (ltidy_l3_lps (α := α)) := addLp_ok ltidy_l3_ok (ltidy_l2_lps_ok)

noncomputable def _root_.Go.Proofs.Ytkjellhkamfciaa.M.ltidy_l4_step {α : Type} (x98 : L3) (x99 : L3) (x100 : L3) (kn : Int → Option α) (k0 : Option α) (k2 : Option α) (x96 : Int) : Option α :=
  if cLt x96 (2 : Int) = true then if cEq x96 (1 : Int) = true then M.ltidy_l1 x96 x98 x99 x100 k0 (kn (IntKind.wrap .i64 (x96 + (1 : Int)))) ((100 : Nat) + List.length x98 + List.length x99 + List.length x100) (0 : Int) else M.ltidy_l3 x96 x98 x99 x100 k0 (kn (IntKind.wrap .i64 (x96 + (1 : Int)))) ((100 : Nat) + List.length x98 + List.length x99 + List.length x100) (0 : Int) else k2
noncomputable def _root_.Go.Proofs.Ytkjellhkamfciaa.M.ltidy_l4 {α : Type} (x98 : L3) (x99 : L3) (x100 : L3) (k0 : Option α) (k2 : Option α) : Nat → Int → Option α
  | 0, _ => none
  | n + 1, x96 => M.ltidy_l4_step x98 x99 x100 (M.ltidy_l4 x98 x99 x100 k0 k2 n) k0 k2 x96
theorem ltidy_l4_step_eq {α : Type} (x96 : Int) (x97 : Int) (x98 : L3) (x99 : L3) (x100 : L3) (Q : Ex → St → Option α) : (loopStep E (exec E look_right ltidy_l3_lps 400) 9 [false, true, false, true, true, true, true] 0 (codeAt E.P 9 [false, true, false, true, true, true, true])) (St.mk (nn 4 (some (SV.ptr (nat_lit 0) (nat_lit 0)) :: none :: some (SV.int .i64 x96) :: nn 82 ([])))
  [.cells [SV.sl (nat_lit 1), SV.sl (nat_lit 2), SV.sl (nat_lit 3), SV.int .i64 x97] (nat_lit 31), .seq kP x98 (nat_lit 23), .seq kP x99 (nat_lit 23), .seq kP x100 (nat_lit 23)]) Q = M.ltidy_l4_step x98 x99 x100 (fun (x101 : Int) => Q .normal (St.mk (nn 4 (some (SV.ptr (nat_lit 0) (nat_lit 0)) :: none :: some (SV.int .i64 x101) :: nn 82 ([])))
  [.cells [SV.sl (nat_lit 1), SV.sl (nat_lit 2), SV.sl (nat_lit 3), SV.int .i64 x97] (nat_lit 31), .seq kP x98 (nat_lit 23), .seq kP x99 (nat_lit 23), .seq kP x100 (nat_lit 23)])) (Q .ret (St.mk (none :: none :: some (SV.bool false) :: none :: some (SV.ptr (nat_lit 0) (nat_lit 0)) :: nn 84 ([]))
  [.cells [SV.sl (nat_lit 1), SV.sl (nat_lit 2), SV.sl (nat_lit 3), SV.int .i64 x97] (nat_lit 31), .seq kP x98 (nat_lit 23), .seq kP x99 (nat_lit 23), .seq kP x100 (nat_lit 23)])) (Q (.exit 0) (St.mk (nn 4 (some (SV.ptr (nat_lit 0) (nat_lit 0)) :: nn 84 ([])))
  [.cells [SV.sl (nat_lit 1), SV.sl (nat_lit 2), SV.sl (nat_lit 3), SV.int .i64 x97] (nat_lit 31), .seq kP x98 (nat_lit 23), .seq kP x99 (nat_lit 23), .seq kP x100 (nat_lit 23)])) x96 := by kernel_rfl
theorem ltidy_l4_iter {α : Type} (x97 : Int) (x98 : L3) (x99 : L3) (x100 : L3) (Q : Ex → St → Option α) : ∀ (n : Nat) (x96 : Int), iter (loopStep E (exec E look_right ltidy_l3_lps 400) 9 [false, true, false, true, true, true, true] 0 (codeAt E.P 9 [false, true, false, true, true, true, true])) n (St.mk (nn 4 (some (SV.ptr (nat_lit 0) (nat_lit 0)) :: none :: some (SV.int .i64 x96) :: nn 82 ([])))
  [.cells [SV.sl (nat_lit 1), SV.sl (nat_lit 2), SV.sl (nat_lit 3), SV.int .i64 x97] (nat_lit 31), .seq kP x98 (nat_lit 23), .seq kP x99 (nat_lit 23), .seq kP x100 (nat_lit 23)]) Q = M.ltidy_l4 x98 x99 x100 (Q .ret (St.mk (none :: none :: some (SV.bool false) :: none :: some (SV.ptr (nat_lit 0) (nat_lit 0)) :: nn 84 ([]))
  [.cells [SV.sl (nat_lit 1), SV.sl (nat_lit 2), SV.sl (nat_lit 3), SV.int .i64 x97] (nat_lit 31), .seq kP x98 (nat_lit 23), .seq kP x99 (nat_lit 23), .seq kP x100 (nat_lit 23)])) (Q (.exit 0) (St.mk (nn 4 (some (SV.ptr (nat_lit 0) (nat_lit 0)) :: nn 84 ([])))
  [.cells [SV.sl (nat_lit 1), SV.sl (nat_lit 2), SV.sl (nat_lit 3), SV.int .i64 x97] (nat_lit 31), .seq kP x98 (nat_lit 23), .seq kP x99 (nat_lit 23), .seq kP x100 (nat_lit 23)])) n x96
  | 0, _ => rfl
  | n + 1, x96 => (ltidy_l4_step_eq x96 x97 x98 x99 x100 (iterK (loopStep E (exec E look_right ltidy_l3_lps 400) 9 [false, true, false, true, true, true, true] 0 (codeAt E.P 9 [false, true, false, true, true, true, true])) n Q)).trans (congrArg (fun kn => M.ltidy_l4_step x98 x99 x100 kn (Q .ret (St.mk (none :: none :: some (SV.bool false) :: none :: some (SV.ptr (nat_lit 0) (nat_lit 0)) :: nn 84 ([]))
  [.cells [SV.sl (nat_lit 1), SV.sl (nat_lit 2), SV.sl (nat_lit 3), SV.int .i64 x97] (nat_lit 31), .seq kP x98 (nat_lit 23), .seq kP x99 (nat_lit 23), .seq kP x100 (nat_lit 23)])) (Q (.exit 0) (St.mk (nn 4 (some (SV.ptr (nat_lit 0) (nat_lit 0)) :: nn 84 ([])))
  [.cells [SV.sl (nat_lit 1), SV.sl (nat_lit 2), SV.sl (nat_lit 3), SV.int .i64 x97] (nat_lit 31), .seq kP x98 (nat_lit 23), .seq kP x99 (nat_lit 23), .seq kP x100 (nat_lit 23)])) x96) (funext fun x96 => ltidy_l4_iter x97 x98 x99 x100 Q n x96))
noncomputable def ltidy_l4_go {α : Type} (ds : List D) (Q : Ex → St → Option α) : Option α :=
  dI ds fun x96 ds => dI ds fun x97 ds => dL kP ds fun x98 ds => dL kP ds fun x99 ds => dL kP ds fun x100 ds => dE ds (M.ltidy_l4 x98 x99 x100 (Q .ret (St.mk (none :: none :: some (SV.bool false) :: none :: some (SV.ptr (nat_lit 0) (nat_lit 0)) :: nn 84 ([]))
  [.cells [SV.sl (nat_lit 1), SV.sl (nat_lit 2), SV.sl (nat_lit 3), SV.int .i64 x97] (nat_lit 31), .seq kP x98 (nat_lit 23), .seq kP x99 (nat_lit 23), .seq kP x100 (nat_lit 23)])) (Q (.exit 0) (St.mk (nn 4 (some (SV.ptr (nat_lit 0) (nat_lit 0)) :: nn 84 ([])))
  [.cells [SV.sl (nat_lit 1), SV.sl (nat_lit 2), SV.sl (nat_lit 3), SV.int .i64 x97] (nat_lit 31), .seq kP x98 (nat_lit 23), .seq kP x99 (nat_lit 23), .seq kP x100 (nat_lit 23)])) (100 + x98.length + x99.length + x100.length) x96)
theorem ltidy_l4_ok {α : Type} : LoopOk E.P 9 [false, true, false, true, true, true, true] 0 (lEnt (α := α) (St.mk (nn 4 (some (SV.ptr (nat_lit 0) (nat_lit 0)) :: none :: some (SV.int .i64 (0 : Int)) :: nn 82 ([])))
  [.cells [SV.sl (nat_lit 1), SV.sl (nat_lit 2), SV.sl (nat_lit 3), SV.int .i64 (0 : Int)] (nat_lit 31), .seq kP [] (nat_lit 23), .seq kP [] (nat_lit 23), .seq kP [] (nat_lit 23)]) ltidy_l4_go) :=
  lEnt_ok E (exec_sound E E_ok (look_right_ok) (ltidy_l3_lps_ok) 400) fun ds Q r h S hS => by
    unfold ltidy_l4_go at h
    obtain ⟨x96, ds, rfl, h1⟩ := dI_inv h
    obtain ⟨x97, ds, rfl, h2⟩ := dI_inv h1
    obtain ⟨x98, ds, rfl, h3⟩ := dL_inv h2
    obtain ⟨x99, ds, rfl, h4⟩ := dL_inv h3
    obtain ⟨x100, ds, rfl, h5⟩ := dL_inv h4
    obtain ⟨rfl, hE⟩ := dE_inv h5
    have e : fillS (St.mk (nn 4 (some (SV.ptr (nat_lit 0) (nat_lit 0)) :: none :: some (SV.int .i64 (0 : Int)) :: nn 82 ([])))
  [.cells [SV.sl (nat_lit 1), SV.sl (nat_lit 2), SV.sl (nat_lit 3), SV.int .i64 (0 : Int)] (nat_lit 31), .seq kP [] (nat_lit 23), .seq kP [] (nat_lit 23), .seq kP [] (nat_lit 23)]) [.i x96, .i x97, .l kP x98, .l kP x99, .l kP x100] = some (St.mk (nn 4 (some (SV.ptr (nat_lit 0) (nat_lit 0)) :: none :: some (SV.int .i64 x96) :: nn 82 ([])))
  [.cells [SV.sl (nat_lit 1), SV.sl (nat_lit 2), SV.sl (nat_lit 3), SV.int .i64 x97] (nat_lit 31), .seq kP x98 (nat_lit 23), .seq kP x99 (nat_lit 23), .seq kP x100 (nat_lit 23)]) := by kernel_rfl
    rw [e] at hS
    cases hS
    exact ⟨_, (ltidy_l4_iter x97 x98 x99 x100 Q _ x96).trans hE⟩
noncomputable def ltidy_l4_lps {α : Type} : LookL α := addLp 9 [false, true, false, true, true, true, true] 0 (lEnt (St.mk (nn 4 (some (SV.ptr (nat_lit 0) (nat_lit 0)) :: none :: some (SV.int .i64 (0 : Int)) :: nn 82 ([])))
  [.cells [SV.sl (nat_lit 1), SV.sl (nat_lit 2), SV.sl (nat_lit 3), SV.int .i64 (0 : Int)] (nat_lit 31), .seq kP [] (nat_lit 23), .seq kP [] (nat_lit 23), .seq kP [] (nat_lit 23)]) ltidy_l4_go) ltidy_l3_lps
theorem ltidy_l4_lps_ok {α : Type} : LoopsOk E.P (ltidy_l4_lps (α := α)) := addLp_ok ltidy_l4_ok (ltidy_l3_lps_ok)

noncomputable def _root_.Go.Proofs.Ytkjellhkamfciaa.M.ltidy {α : Type} (k : Int) (r : Int) (hx : Int) (hy : Int) (hz : Int) (l : L3) (k0 : Bool → Option α) : Option α :=
  if V.rgG k r hx hy hz l = true then
  if (!cEq (V.chk (V.rgK k r hx hy hz l) (V.rgR r) (V.rgH hx) (V.rgH hy) (V.rgH hz) (V.rgP k r hx hy hz l)) (0 : Int)) = true then k0 false
  else
    M.ltidy_l4 (V.corP (V.rgK k r hx hy hz l) (V.rgR r) (V.rgH hx) (V.rgH hy) (V.rgH hz) (V.rgP k r hx hy hz l)) (V.corA (V.rgK k r hx hy hz l) (V.rgR r) (V.rgH hx) (V.rgH hy) (V.rgH hz) (V.rgP k r hx hy hz l)) (V.corE (V.rgK k r hx hy hz l) (V.rgR r) (V.rgH hx) (V.rgH hy) (V.rgH hz) (V.rgP k r hx hy hz l)) (k0 false) (k0 (cLt (0 : Int) (↑(List.length (V.corP (V.rgK k r hx hy hz l) (V.rgR r) (V.rgH hx) (V.rgH hy) (V.rgH hz) (V.rgP k r hx hy hz l))) : Int)))
      ((100 : Nat) + List.length (V.corP (V.rgK k r hx hy hz l) (V.rgR r) (V.rgH hx) (V.rgH hy) (V.rgH hz) (V.rgP k r hx hy hz l)) + List.length (V.corA (V.rgK k r hx hy hz l) (V.rgR r) (V.rgH hx) (V.rgH hy) (V.rgH hz) (V.rgP k r hx hy hz l)) + List.length (V.corE (V.rgK k r hx hy hz l) (V.rgR r) (V.rgH hx) (V.rgH hy) (V.rgH hz) (V.rgP k r hx hy hz l))) (0 : Int)
else none
theorem ltidy_eq {α : Type} (k : Int) (r : Int) (hx : Int) (hy : Int) (hz : Int) (l : L3) (v102 : Value) (Q : SV → Hp → Option α) : callI E look_right (exec E look_right ltidy_l4_lps 400) 9 ([SV.agg [SV.int .i64 k, SV.int .i64 r, SV.int .i64 hx, SV.int .i64 hy, SV.int .i64 hz, SV.ros v102 kP l]]) ([]) Q = M.ltidy k r hx hy hz l (fun (x103 : Bool) => Q (SV.bool x103) ([])) := by kernel_rfl
def ltidy_sp : List AS := [.st [.leaf (.int .i64 0), .leaf (.int .i64 0), .leaf (.int .i64 0), .leaf (.int .i64 0), .leaf (.int .i64 0), .ro kP]]
theorem pass {α : Type} (F : Nat → Int → Option α) (n : Nat) (k2 : Option α) (hstep : ∀ f i, i < n → F (f + 1) (i : Int) = F f ((i + 1 : Nat) : Int)) (hend : ∀ f, F (f + 1) (n : Int) = k2) :
    ∀ fuel i, i ≤ n → n - i < fuel → F fuel (i : Int) = k2
  | 0, i, h1, h2 => by omega
  | f + 1, i, h1, h2 => by
    by_cases hi : i < n
    · rw [hstep f i hi]; exact pass F n k2 hstep hend f (i + 1) (by omega) (by omega)
    · have : i = n := by omega
      subst this
      exact hend f
theorem tidy_in0 {α : Type} (kq : Int) (L : List P3) (hL : L.length < 1000000) (i : Nat) (hi : i < L.length) (h1 : ∀ j, j < i → pt L j ≠ pt L i) (h2 : kq = 1 → ∀ j, j < i → pt L j ≠ negT (pt L i)) (hb : bigP (pt L i) 1048576 = false) (k0 k2 : Option α) (fuel : Nat) (hf : i < fuel) :
    M.ltidy_l0 kq (i : Int) L (pt L i).1 (pt L i).2.1 (pt L i).2.2 k0 k2 fuel 0 = k2 := by
  refine pass (fun f j => M.ltidy_l0 kq (i : Int) L (pt L i).1 (pt L i).2.1 (pt L i).2.2 k0 k2 f j) i k2 ?_ ?_ fuel 0 (by omega) (by omega)
  · intro f j hj
    show M.ltidy_l0_step _ _ _ _ _ _ _ _ _ _ = _
    unfold M.ltidy_l0_step
    have a : (0 : Int) ≤ (j : Int) ∧ (j : Int) < (L.length : Int) := by omega
    have hs := bigP_false hb
    have n1 := h1 j hj
    unfold pt at n1
    have e1 : ∀ x y z : Int, (cEq (L.getD (Int.toNat (j : Int)) (0, 0, 0)).1 x && (cEq (L.getD (Int.toNat (j : Int)) (0, 0, 0)).2.1 y && (cEq (L.getD (Int.toNat (j : Int)) (0, 0, 0)).2.2 z && true))) = decide (pt L j = (x, y, z)) := fun x y z => eq3 _ _ _ (x, y, z)
    rw [cLt_nat, if_pos (by simpa using hj), if_pos a, w_next (by omega), e1, e1, IntWalk.i64_in (0 - (pt L i).1) (by omega), IntWalk.i64_in (0 - (pt L i).2.1) (by omega), IntWalk.i64_in (0 - (pt L i).2.2) (by omega)]
    rw [if_neg (by simpa using h1 j hj), if_pos a, cEq_eq]
    by_cases hk : kq = 1
    · have := h2 hk j hj
      rw [if_pos (by simpa using hk), if_neg]
      simp only [Int.zero_sub, decide_eq_true_eq]
      exact this
    · rw [if_neg (by simpa using hk)]
  · intro f
    show M.ltidy_l0_step _ _ _ _ _ _ _ _ _ _ = _
    unfold M.ltidy_l0_step
    rw [cLt_nat, if_neg (by simp)]
theorem tidy_in2 {α : Type} (kq : Int) (L : List P3) (hL : L.length < 1000000) (i : Nat) (hi : i < L.length) (h1 : ∀ j, j < i → pt L j ≠ pt L i) (h2 : kq = 1 → ∀ j, j < i → pt L j ≠ negT (pt L i)) (hb : bigP (pt L i) 1048576 = false) (k0 k2 : Option α) (fuel : Nat) (hf : i < fuel) :
    M.ltidy_l2 kq (i : Int) L (pt L i).1 (pt L i).2.1 (pt L i).2.2 k0 k2 fuel 0 = k2 := by
  refine pass (fun f j => M.ltidy_l2 kq (i : Int) L (pt L i).1 (pt L i).2.1 (pt L i).2.2 k0 k2 f j) i k2 ?_ ?_ fuel 0 (by omega) (by omega)
  · intro f j hj
    show M.ltidy_l2_step _ _ _ _ _ _ _ _ _ _ = _
    unfold M.ltidy_l2_step
    have a : (0 : Int) ≤ (j : Int) ∧ (j : Int) < (L.length : Int) := by omega
    have hs := bigP_false hb
    have n1 := h1 j hj
    unfold pt at n1
    have e1 : ∀ x y z : Int, (cEq (L.getD (Int.toNat (j : Int)) (0, 0, 0)).1 x && (cEq (L.getD (Int.toNat (j : Int)) (0, 0, 0)).2.1 y && (cEq (L.getD (Int.toNat (j : Int)) (0, 0, 0)).2.2 z && true))) = decide (pt L j = (x, y, z)) := fun x y z => eq3 _ _ _ (x, y, z)
    rw [cLt_nat, if_pos (by simpa using hj), if_pos a, w_next (by omega), e1, e1, IntWalk.i64_in (0 - (pt L i).1) (by omega), IntWalk.i64_in (0 - (pt L i).2.1) (by omega), IntWalk.i64_in (0 - (pt L i).2.2) (by omega)]
    rw [if_neg (by simpa using h1 j hj), if_pos a, cEq_eq]
    by_cases hk : kq = 1
    · have := h2 hk j hj
      rw [if_pos (by simpa using hk), if_neg]
      simp only [Int.zero_sub, decide_eq_true_eq]
      exact this
    · rw [if_neg (by simpa using hk)]
  · intro f
    show M.ltidy_l2_step _ _ _ _ _ _ _ _ _ _ = _
    unfold M.ltidy_l2_step
    rw [cLt_nat, if_neg (by simp)]
theorem tidy_out1 {α : Type} (kq : Int) (A B C : List P3) (hL : C.length < 1000000) (hn : C.Nodup) (ht : ∀ e ∈ C, Neat e) (h2 : kq = 1 → ∀ e ∈ C, negT e ∉ C) (k0 k2 : Option α) (fuel : Nat) (hf : C.length < fuel) :
    M.ltidy_l1 kq A B C k0 k2 fuel 0 = k2 := by
  refine pass (fun f j => M.ltidy_l1 kq A B C k0 k2 f j) C.length k2 ?_ ?_ fuel 0 (by omega) (by omega)
  · intro f i hi
    show M.ltidy_l1_step _ _ _ _ _ _ _ _ = _
    unfold M.ltidy_l1_step
    have a : (0 : Int) ≤ (i : Int) ∧ (i : Int) < (C.length : Int) := by omega
    have hm := pt_mem C i hi
    obtain ⟨t1, t2, t3⟩ := ht _ hm
    have e0 : (cEq (C.getD (Int.toNat (i : Int)) (0, 0, 0)).1 0 && (cEq (C.getD (Int.toNat (i : Int)) (0, 0, 0)).2.1 0 && (cEq (C.getD (Int.toNat (i : Int)) (0, 0, 0)).2.2 0 && true))) = decide (pt C i = (0, 0, 0)) := eq3 _ _ _ (0, 0, 0)
    have e1 : V.pShort (C.getD (Int.toNat (i : Int)) (0, 0, 0)) = C.getD (Int.toNat (i : Int)) (0, 0, 0) := by rw [short_eq']; exact t2
    rw [cLt_nat, if_pos (by simpa using hi), if_pos a, w_next (by omega), e0, e1, if_neg (by simpa using t1)]
    rw [if_neg (by simp [cEq_self])]
    refine tidy_in0 kq C hL i hi ?_ ?_ t3 _ _ _ (by omega)
    · intro j hj e
      rw [pt_eq C i hi, pt_eq C j (by omega)] at e
      have := (List.getElem_inj hn).1 e
      omega
    · intro hk j hj e
      exact h2 hk _ hm (e ▸ pt_mem C j (by omega))
  · intro f
    show M.ltidy_l1_step _ _ _ _ _ _ _ _ = _
    unfold M.ltidy_l1_step
    rw [cLt_nat, if_neg (by simp)]
theorem tidy_out3 {α : Type} (kq : Int) (A B C : List P3) (hL : B.length < 1000000) (hn : B.Nodup) (ht : ∀ e ∈ B, Neat e) (h2 : kq = 1 → ∀ e ∈ B, negT e ∉ B) (k0 k2 : Option α) (fuel : Nat) (hf : B.length < fuel) :
    M.ltidy_l3 kq A B C k0 k2 fuel 0 = k2 := by
  refine pass (fun f j => M.ltidy_l3 kq A B C k0 k2 f j) B.length k2 ?_ ?_ fuel 0 (by omega) (by omega)
  · intro f i hi
    show M.ltidy_l3_step _ _ _ _ _ _ _ _ = _
    unfold M.ltidy_l3_step
    have a : (0 : Int) ≤ (i : Int) ∧ (i : Int) < (B.length : Int) := by omega
    have hm := pt_mem B i hi
    obtain ⟨t1, t2, t3⟩ := ht _ hm
    have e0 : (cEq (B.getD (Int.toNat (i : Int)) (0, 0, 0)).1 0 && (cEq (B.getD (Int.toNat (i : Int)) (0, 0, 0)).2.1 0 && (cEq (B.getD (Int.toNat (i : Int)) (0, 0, 0)).2.2 0 && true))) = decide (pt B i = (0, 0, 0)) := eq3 _ _ _ (0, 0, 0)
    have e1 : V.pShort (B.getD (Int.toNat (i : Int)) (0, 0, 0)) = B.getD (Int.toNat (i : Int)) (0, 0, 0) := by rw [short_eq']; exact t2
    rw [cLt_nat, if_pos (by simpa using hi), if_pos a, w_next (by omega), e0, e1, if_neg (by simpa using t1)]
    rw [if_neg (by simp [cEq_self])]
    refine tidy_in2 kq B hL i hi ?_ ?_ t3 _ _ _ (by omega)
    · intro j hj e
      rw [pt_eq B i hi, pt_eq B j (by omega)] at e
      have := (List.getElem_inj hn).1 e
      omega
    · intro hk j hj e
      exact h2 hk _ hm (e ▸ pt_mem B j (by omega))
  · intro f
    show M.ltidy_l3_step _ _ _ _ _ _ _ _ = _
    unfold M.ltidy_l3_step
    rw [cLt_nat, if_neg (by simp)]
theorem ltidy_v {α : Type} (k r hx hy hz : Int) (l : List P3) (hg : (-9223372036854775808 ≤ k ∧ k < 9223372036854775808) ∧ (-9223372036854775808 ≤ r ∧ r < 9223372036854775808) ∧ (-9223372036854775808 ≤ hx ∧ hx < 9223372036854775808) ∧ (-9223372036854775808 ≤ hy ∧ hy < 9223372036854775808) ∧ (-9223372036854775808 ≤ hz ∧ hz < 9223372036854775808) ∧ (l.length < 9223372036854775808 ∧ ∀ x ∈ l, (RT.good (.i .i64) [.i .i64, .i .i64]) x)) (k0 : Bool → Option α) : M.ltidy k r hx hy hz l k0 = k0 true := by
  obtain ⟨g1, g2, g3, g4, g5, gl, gp⟩ := hg
  unfold M.ltidy
  have hG : V.rgG k r hx hy hz l = true := gB_of ⟨⟨g1, g2, g3, g4, g5⟩, gl, fun p hp => good_rp (gp p hp)⟩
  have ok := right_ok (l := l) g1 g2 g3 g4 g5
  have hlen := corA_len (V.rgK k r hx hy hz l) (V.rgR r) (V.rgH hx) (V.rgH hy) (V.rgH hz) (V.rgP k r hx hy hz l)
  rw [if_pos hG]
  obtain ⟨ca, cb, cc⟩ := core_tidy ok
  obtain ⟨cp, _, _⟩ := corPP_pos ok
  simp only [V.rgK, V.rgR, V.rgH, V.rgP, V.chk, V.corA, V.corE, V.corP, hid_eq, ok, if_true] at hlen ⊢
  rw [if_neg (by rw [cEq_eq]; decide)]
  generalize corAP _ _ = A at *
  generalize corEP _ _ = B at *
  generalize corPP _ _ _ _ _ = P at *
  have w0 : IntKind.wrap .i64 (0 + 1) = 1 := by decide
  have w1 : IntKind.wrap .i64 (1 + 1) = 2 := by decide
  rw [show 100 + P.length + A.length + B.length = (97 + P.length + A.length + B.length) + 3 by omega]
  unfold M.ltidy_l4 M.ltidy_l4_step
  rw [if_pos (by rw [cLt_eq]; decide), if_neg (by rw [cEq_eq]; decide), w0, tidy_out3 0 P A B (by omega) ca cb (fun h => absurd h (by decide)) _ _ _ (by omega)]
  unfold M.ltidy_l4 M.ltidy_l4_step
  rw [if_pos (by rw [cLt_eq]; decide), if_pos (by rw [cEq_eq]; decide), w1, tidy_out1 1 P A B (by omega) cc.nd cc.neat (fun _ => cc.neg) _ _ _ (by omega)]
  unfold M.ltidy_l4 M.ltidy_l4_step
  rw [if_neg (by rw [cLt_eq]; decide), cLt_eq]
  rw [decide_eq_true (by omega : (0 : Int) < (P.length : Int))]
noncomputable def ltidy_h {α : Type} (ds : List D) (Q : SV → Hp → Option α) : Option α :=
  dI ds fun k ds => dI ds fun r ds => dI ds fun hx ds => dI ds fun hy ds => dI ds fun hz ds => dL kP ds fun l ds => dE ds (if V.gB ((-9223372036854775808 ≤ k ∧ k < 9223372036854775808) ∧ (-9223372036854775808 ≤ r ∧ r < 9223372036854775808) ∧ (-9223372036854775808 ≤ hx ∧ hx < 9223372036854775808) ∧ (-9223372036854775808 ≤ hy ∧ hy < 9223372036854775808) ∧ (-9223372036854775808 ≤ hz ∧ hz < 9223372036854775808) ∧ (l.length < 9223372036854775808 ∧ ∀ x ∈ l, (RT.good (.i .i64) [.i .i64, .i .i64]) x)) = true then Q (.bool true) ([]) else none)
theorem ltidy_h_ok {α : Type} : FnOk E.P 9 (fEnt (α := α) ltidy_sp ltidy_h) :=
  fEntR_ok E (look_right_ok) (exec_sound E E_ok (look_right_ok) (ltidy_l4_lps_ok) 400) fun ds Q r h => by
    unfold ltidy_h at h
    obtain ⟨k, ds, rfl, h1⟩ := dI_inv h
    obtain ⟨r, ds, rfl, h2⟩ := dI_inv h1
    obtain ⟨hx, ds, rfl, h3⟩ := dI_inv h2
    obtain ⟨hy, ds, rfl, h4⟩ := dI_inv h3
    obtain ⟨hz, ds, rfl, h5⟩ := dI_inv h4
    obtain ⟨l, ds, rfl, h6⟩ := dL_inv h5
    obtain ⟨rfl, hE⟩ := dE_inv h6
    split at hE
    · rename_i hg
      exact ⟨_, _, hE, fun vs => ⟨_, _, by kernel_rfl, (ltidy_eq k r hx hy hz l ((cellsV (vs.headD undef)).tail.tail.tail.tail.tail.headD undef) _).trans (ltidy_v k r hx hy hz l (gB_iff hg) _)⟩⟩
    · cases hE
end Go.Proofs.Ytkjellhkamfciaa.Sx
