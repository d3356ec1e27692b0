/- The document's own numbers: Times. -/
import Derived.Test.YtkjellhkamfciaaFxR2
namespace Go.Proofs.Ytkjellhkamfciaa.Sx
open Go
set_option maxRecDepth 20000
set_option linter.unusedVariables false
set_option linter.unusedSimpArgs false
noncomputable def _root_.Go.Proofs.Ytkjellhkamfciaa.M.rtimes_l0_step {α : Type} (x29 : Int) (x33 : List Int) (x35 : List Int) (kn : Int → Int → List Int → Option α) (k1 : List Int → Option α) (x30 : Int) (x31 : Int) (x39 : List Int) : Option α :=
  if cLt (IntKind.wrap .i64 (x29 + x31)) (8 : Int) = true then
  if (0 : Int) ≤ IntKind.wrap .i64 (x29 + x31) ∧ IntKind.wrap .i64 (x29 + x31) < (8 : Int) then
    if (0 : Int) ≤ x29 ∧ x29 < (8 : Int) then
      if (0 : Int) ≤ x31 ∧ x31 < (8 : Int) then
        if (0 : Int) ≤ IntKind.wrap .i64 (x29 + x31) ∧ IntKind.wrap .i64 (x29 + x31) < (8 : Int) then
          kn (IntKind.wrap .i64 (Int.tdiv (IntKind.wrap .i64 (IntKind.wrap .i64 (List.getD x39 (Int.toNat (IntKind.wrap .i64 (x29 + x31))) (0 : Int) + IntKind.wrap .i64 (List.getD x33 (Int.toNat x29) (0 : Int) * List.getD x35 (Int.toNat x31) (0 : Int))) + x30)) (16777216 : Int))) (IntKind.wrap .i64 (x31 + (1 : Int)))
            (List.set x39 (Int.toNat (IntKind.wrap .i64 (x29 + x31))) (Int.tmod (IntKind.wrap .i64 (IntKind.wrap .i64 (List.getD x39 (Int.toNat (IntKind.wrap .i64 (x29 + x31))) (0 : Int) + IntKind.wrap .i64 (List.getD x33 (Int.toNat x29) (0 : Int) * List.getD x35 (Int.toNat x31) (0 : Int))) + x30)) (16777216 : Int)))
        else none
      else none
    else none
  else none
else k1 x39
noncomputable def _root_.Go.Proofs.Ytkjellhkamfciaa.M.rtimes_l0 {α : Type} (x29 : Int) (x33 : List Int) (x35 : List Int) (k1 : List Int → Option α) : Nat → Int → Int → List Int → Option α
  | 0, _, _, _ => none
  | n + 1, x30, x31, x39 => M.rtimes_l0_step x29 x33 x35 (M.rtimes_l0 x29 x33 x35 k1 n) k1 x30 x31 x39
theorem rtimes_l0_step_eq {α : Type} (x29 : Int) (x30 : Int) (x31 : Int) (x32 : Bool) (x33 : List Int) (x34 : Bool) (x35 : List Int) (x36 : Bool) (x37 : List Int) (x38 : Bool) (x39 : List Int) (Q : Ex → St → Option α) : (loopStep E (exec E look_of noLps 400) 74 [false, true, true, true, false, false, true, false, false, true, false, true, true] 0 (codeAt E.P 74 [false, true, true, true, false, false, true, false, false, true, false, true, true])) (St.mk (none :: none :: some (SV.ptr (nat_lit 0) (nat_lit 0)) :: some (SV.ptr (nat_lit 1) (nat_lit 0)) :: some (SV.ptr (nat_lit 2) (nat_lit 0)) :: some (SV.ptr (nat_lit 3) (nat_lit 0)) :: some (SV.int .i64 x29) :: some (SV.int .i64 x30) :: some (SV.int .i64 x31) :: nn 50 ([]))
  [.cells [SV.bool x32, SV.arr (K.int IntKind.i64) x33 (nat_lit 8)] (nat_lit 96), .cells [SV.bool x34, SV.arr (K.int IntKind.i64) x35 (nat_lit 8)] (nat_lit 96), .cells [SV.bool x36, SV.arr (K.int IntKind.i64) x37 (nat_lit 8)] (nat_lit 96), .cells [SV.bool x38, SV.arr (K.int IntKind.i64) x39 (nat_lit 8)] (nat_lit 96)]) Q = M.rtimes_l0_step x29 x33 x35 (fun (x41 : Int) (x42 : Int) (x43 : List Int) => Q .normal (St.mk (none :: none :: some (SV.ptr (nat_lit 0) (nat_lit 0)) :: some (SV.ptr (nat_lit 1) (nat_lit 0)) :: some (SV.ptr (nat_lit 2) (nat_lit 0)) :: some (SV.ptr (nat_lit 3) (nat_lit 0)) :: some (SV.int .i64 x29) :: some (SV.int .i64 x41) :: some (SV.int .i64 x42) :: nn 50 ([]))
  [.cells [SV.bool x32, SV.arr (K.int IntKind.i64) x33 (nat_lit 8)] (nat_lit 96), .cells [SV.bool x34, SV.arr (K.int IntKind.i64) x35 (nat_lit 8)] (nat_lit 96), .cells [SV.bool x36, SV.arr (K.int IntKind.i64) x37 (nat_lit 8)] (nat_lit 96), .cells [SV.bool x38, SV.arr (K.int IntKind.i64) x43 (nat_lit 8)] (nat_lit 96)])) (fun (x40 : List Int) => Q (.exit 2) (St.mk (none :: none :: some (SV.ptr (nat_lit 0) (nat_lit 0)) :: some (SV.ptr (nat_lit 1) (nat_lit 0)) :: some (SV.ptr (nat_lit 2) (nat_lit 0)) :: some (SV.ptr (nat_lit 3) (nat_lit 0)) :: some (SV.int .i64 x29) :: nn 52 ([]))
  [.cells [SV.bool x32, SV.arr (K.int IntKind.i64) x33 (nat_lit 8)] (nat_lit 96), .cells [SV.bool x34, SV.arr (K.int IntKind.i64) x35 (nat_lit 8)] (nat_lit 96), .cells [SV.bool x36, SV.arr (K.int IntKind.i64) x37 (nat_lit 8)] (nat_lit 96), .cells [SV.bool x38, SV.arr (K.int IntKind.i64) x40 (nat_lit 8)] (nat_lit 96)])) x30 x31 x39 := by kernel_rfl
theorem rtimes_l0_iter {α : Type} (x29 : Int) (x32 : Bool) (x33 : List Int) (x34 : Bool) (x35 : List Int) (x36 : Bool) (x37 : List Int) (x38 : Bool) (Q : Ex → St → Option α) : ∀ (n : Nat) (x30 : Int) (x31 : Int) (x39 : List Int), iter (loopStep E (exec E look_of noLps 400) 74 [false, true, true, true, false, false, true, false, false, true, false, true, true] 0 (codeAt E.P 74 [false, true, true, true, false, false, true, false, false, true, false, true, true])) n (St.mk (none :: none :: some (SV.ptr (nat_lit 0) (nat_lit 0)) :: some (SV.ptr (nat_lit 1) (nat_lit 0)) :: some (SV.ptr (nat_lit 2) (nat_lit 0)) :: some (SV.ptr (nat_lit 3) (nat_lit 0)) :: some (SV.int .i64 x29) :: some (SV.int .i64 x30) :: some (SV.int .i64 x31) :: nn 50 ([]))
  [.cells [SV.bool x32, SV.arr (K.int IntKind.i64) x33 (nat_lit 8)] (nat_lit 96), .cells [SV.bool x34, SV.arr (K.int IntKind.i64) x35 (nat_lit 8)] (nat_lit 96), .cells [SV.bool x36, SV.arr (K.int IntKind.i64) x37 (nat_lit 8)] (nat_lit 96), .cells [SV.bool x38, SV.arr (K.int IntKind.i64) x39 (nat_lit 8)] (nat_lit 96)]) Q = M.rtimes_l0 x29 x33 x35 (fun (x40 : List Int) => Q (.exit 2) (St.mk (none :: none :: some (SV.ptr (nat_lit 0) (nat_lit 0)) :: some (SV.ptr (nat_lit 1) (nat_lit 0)) :: some (SV.ptr (nat_lit 2) (nat_lit 0)) :: some (SV.ptr (nat_lit 3) (nat_lit 0)) :: some (SV.int .i64 x29) :: nn 52 ([]))
  [.cells [SV.bool x32, SV.arr (K.int IntKind.i64) x33 (nat_lit 8)] (nat_lit 96), .cells [SV.bool x34, SV.arr (K.int IntKind.i64) x35 (nat_lit 8)] (nat_lit 96), .cells [SV.bool x36, SV.arr (K.int IntKind.i64) x37 (nat_lit 8)] (nat_lit 96), .cells [SV.bool x38, SV.arr (K.int IntKind.i64) x40 (nat_lit 8)] (nat_lit 96)])) n x30 x31 x39
  | 0, _, _, _ => rfl
  | n + 1, x30, x31, x39 => (rtimes_l0_step_eq x29 x30 x31 x32 x33 x34 x35 x36 x37 x38 x39 (iterK (loopStep E (exec E look_of noLps 400) 74 [false, true, true, true, false, false, true, false, false, true, false, true, true] 0 (codeAt E.P 74 [false, true, true, true, false, false, true, false, false, true, false, true, true])) n Q)).trans (congrArg (fun kn => M.rtimes_l0_step x29 x33 x35 kn (fun (x40 : List Int) => Q (.exit 2) (St.mk (none :: none :: some (SV.ptr (nat_lit 0) (nat_lit 0)) :: some (SV.ptr (nat_lit 1) (nat_lit 0)) :: some (SV.ptr (nat_lit 2) (nat_lit 0)) :: some (SV.ptr (nat_lit 3) (nat_lit 0)) :: some (SV.int .i64 x29) :: nn 52 ([]))
  [.cells [SV.bool x32, SV.arr (K.int IntKind.i64) x33 (nat_lit 8)] (nat_lit 96), .cells [SV.bool x34, SV.arr (K.int IntKind.i64) x35 (nat_lit 8)] (nat_lit 96), .cells [SV.bool x36, SV.arr (K.int IntKind.i64) x37 (nat_lit 8)] (nat_lit 96), .cells [SV.bool x38, SV.arr (K.int IntKind.i64) x40 (nat_lit 8)] (nat_lit 96)])) x30 x31 x39) (funext fun x30 => funext fun x31 => funext fun x39 => rtimes_l0_iter x29 x32 x33 x34 x35 x36 x37 x38 Q n x30 x31 x39))
noncomputable def rtimes_l0_go {α : Type} (ds : List D) (Q : Ex → St → Option α) : Option α :=
  dI ds fun x29 ds => dI ds fun x30 ds => dI ds fun x31 ds => dB ds fun x32 ds => dL (K.int IntKind.i64) ds fun x33 ds => dB ds fun x34 ds => dL (K.int IntKind.i64) ds fun x35 ds => dB ds fun x36 ds => dL (K.int IntKind.i64) ds fun x37 ds => dB ds fun x38 ds => dL (K.int IntKind.i64) ds fun x39 ds => dE ds (M.rtimes_l0 x29 x33 x35 (fun (x40 : List Int) => Q (.exit 2) (St.mk (none :: none :: some (SV.ptr (nat_lit 0) (nat_lit 0)) :: some (SV.ptr (nat_lit 1) (nat_lit 0)) :: some (SV.ptr (nat_lit 2) (nat_lit 0)) :: some (SV.ptr (nat_lit 3) (nat_lit 0)) :: some (SV.int .i64 x29) :: nn 52 ([]))
  [.cells [SV.bool x32, SV.arr (K.int IntKind.i64) x33 (nat_lit 8)] (nat_lit 96), .cells [SV.bool x34, SV.arr (K.int IntKind.i64) x35 (nat_lit 8)] (nat_lit 96), .cells [SV.bool x36, SV.arr (K.int IntKind.i64) x37 (nat_lit 8)] (nat_lit 96), .cells [SV.bool x38, SV.arr (K.int IntKind.i64) x40 (nat_lit 8)] (nat_lit 96)])) (100 + x33.length + x35.length + x37.length + x39.length) x30 x31 x39)
theorem rtimes_l0_ok {α : Type} : LoopOk E.P 74 [false, true, true, true, false, false, true, false, false, true, false, true, true] 0 (lEnt (α := α) (St.mk (none :: none :: some (SV.ptr (nat_lit 0) (nat_lit 0)) :: some (SV.ptr (nat_lit 1) (nat_lit 0)) :: some (SV.ptr (nat_lit 2) (nat_lit 0)) :: some (SV.ptr (nat_lit 3) (nat_lit 0)) :: some (SV.int .i64 (0 : Int)) :: some (SV.int .i64 (0 : Int)) :: some (SV.int .i64 (0 : Int)) :: nn 50 ([]))
  [.cells [SV.bool false, SV.arr (K.int IntKind.i64) [] (nat_lit 8)] (nat_lit 96), .cells [SV.bool false, SV.arr (K.int IntKind.i64) [] (nat_lit 8)] (nat_lit 96), .cells [SV.bool false, SV.arr (K.int IntKind.i64) [] (nat_lit 8)] (nat_lit 96), .cells [SV.bool false, SV.arr (K.int IntKind.i64) [] (nat_lit 8)] (nat_lit 96)]) rtimes_l0_go) :=
  lEnt_ok E (exec_sound E E_ok (look_of_ok) (noLps_ok _) 400) fun ds Q r h S hS => by
    unfold rtimes_l0_go at h
    obtain ⟨x29, ds, rfl, h1⟩ := dI_inv h
    obtain ⟨x30, ds, rfl, h2⟩ := dI_inv h1
    obtain ⟨x31, ds, rfl, h3⟩ := dI_inv h2
    obtain ⟨x32, ds, rfl, h4⟩ := dB_inv h3
    obtain ⟨x33, ds, rfl, h5⟩ := dL_inv h4
    obtain ⟨x34, ds, rfl, h6⟩ := dB_inv h5
    obtain ⟨x35, ds, rfl, h7⟩ := dL_inv h6
    obtain ⟨x36, ds, rfl, h8⟩ := dB_inv h7
    obtain ⟨x37, ds, rfl, h9⟩ := dL_inv h8
    obtain ⟨x38, ds, rfl, h10⟩ := dB_inv h9
    obtain ⟨x39, ds, rfl, h11⟩ := dL_inv h10
    obtain ⟨rfl, hE⟩ := dE_inv h11
    have e : fillS (St.mk (none :: none :: some (SV.ptr (nat_lit 0) (nat_lit 0)) :: some (SV.ptr (nat_lit 1) (nat_lit 0)) :: some (SV.ptr (nat_lit 2) (nat_lit 0)) :: some (SV.ptr (nat_lit 3) (nat_lit 0)) :: some (SV.int .i64 (0 : Int)) :: some (SV.int .i64 (0 : Int)) :: some (SV.int .i64 (0 : Int)) :: nn 50 ([]))
  [.cells [SV.bool false, SV.arr (K.int IntKind.i64) [] (nat_lit 8)] (nat_lit 96), .cells [SV.bool false, SV.arr (K.int IntKind.i64) [] (nat_lit 8)] (nat_lit 96), .cells [SV.bool false, SV.arr (K.int IntKind.i64) [] (nat_lit 8)] (nat_lit 96), .cells [SV.bool false, SV.arr (K.int IntKind.i64) [] (nat_lit 8)] (nat_lit 96)]) [.i x29, .i x30, .i x31, .b x32, .l (K.int IntKind.i64) x33, .b x34, .l (K.int IntKind.i64) x35, .b x36, .l (K.int IntKind.i64) x37, .b x38, .l (K.int IntKind.i64) x39] = some (St.mk (none :: none :: some (SV.ptr (nat_lit 0) (nat_lit 0)) :: some (SV.ptr (nat_lit 1) (nat_lit 0)) :: some (SV.ptr (nat_lit 2) (nat_lit 0)) :: some (SV.ptr (nat_lit 3) (nat_lit 0)) :: some (SV.int .i64 x29) :: some (SV.int .i64 x30) :: some (SV.int .i64 x31) :: nn 50 ([]))
  [.cells [SV.bool x32, SV.arr (K.int IntKind.i64) x33 (nat_lit 8)] (nat_lit 96), .cells [SV.bool x34, SV.arr (K.int IntKind.i64) x35 (nat_lit 8)] (nat_lit 96), .cells [SV.bool x36, SV.arr (K.int IntKind.i64) x37 (nat_lit 8)] (nat_lit 96), .cells [SV.bool x38, SV.arr (K.int IntKind.i64) x39 (nat_lit 8)] (nat_lit 96)]) := by kernel_rfl
    rw [e] at hS
    cases hS
    exact ⟨_, (rtimes_l0_iter x29 x32 x33 x34 x35 x36 x37 x38 Q _ x30 x31 x39).trans hE⟩
noncomputable def rtimes_l0_lps {α : Type} : LookL α := addLp 74 [false, true, true, true, false, false, true, false, false, true, false, true, true] 0 (lEnt (St.mk (none :: none :: some (SV.ptr (nat_lit 0) (nat_lit 0)) :: some (SV.ptr (nat_lit 1) (nat_lit 0)) :: some (SV.ptr (nat_lit 2) (nat_lit 0)) :: some (SV.ptr (nat_lit 3) (nat_lit 0)) :: some (SV.int .i64 (0 : Int)) :: some (SV.int .i64 (0 : Int)) :: some (SV.int .i64 (0 : Int)) :: nn 50 ([]))
  [.cells [SV.bool false, SV.arr (K.int IntKind.i64) [] (nat_lit 8)] (nat_lit 96), .cells [SV.bool false, SV.arr (K.int IntKind.i64) [] (nat_lit 8)] (nat_lit 96), .cells [SV.bool false, SV.arr (K.int IntKind.i64) [] (nat_lit 8)] (nat_lit 96), .cells [SV.bool false, SV.arr (K.int IntKind.i64) [] (nat_lit 8)] (nat_lit 96)]) rtimes_l0_go) noLps
theorem rtimes_l0_lps_ok {α : Type} : LoopsOk E.P (rtimes_l0_lps (α := α)) := addLp_ok rtimes_l0_ok (noLps_ok _)

noncomputable def _root_.Go.Proofs.Ytkjellhkamfciaa.M.rtimes_l1_step {α : Type} (x46 : List Int) (x48 : List Int) (x50 : List Int) (kn : Int → List Int → Option α) (k1 : List Int → Option α) (x44 : Int) (x52 : List Int) : Option α :=
  if cLt x44 (8 : Int) = true then if (0 : Int) ≤ x44 ∧ x44 < (8 : Int) then if cEq (List.getD x46 (Int.toNat x44) (0 : Int)) (0 : Int) = true then kn (IntKind.wrap .i64 (x44 + (1 : Int))) x52 else M.rtimes_l0 x44 x46 x48 (fun (x53 : List Int) ↦ kn (IntKind.wrap .i64 (x44 + (1 : Int))) x53) ((100 : Nat) + List.length x46 + List.length x48 + List.length x50 + List.length x52) (0 : Int) (0 : Int) x52 else none else k1 x52
noncomputable def _root_.Go.Proofs.Ytkjellhkamfciaa.M.rtimes_l1 {α : Type} (x46 : List Int) (x48 : List Int) (x50 : List Int) (k1 : List Int → Option α) : Nat → Int → List Int → Option α
  | 0, _, _ => none
  | n + 1, x44, x52 => M.rtimes_l1_step x46 x48 x50 (M.rtimes_l1 x46 x48 x50 k1 n) k1 x44 x52
theorem rtimes_l1_step_eq {α : Type} (x44 : Int) (x45 : Bool) (x46 : List Int) (x47 : Bool) (x48 : List Int) (x49 : Bool) (x50 : List Int) (x51 : Bool) (x52 : List Int) (Q : Ex → St → Option α) : (loopStep E (exec E look_of rtimes_l0_lps 400) 74 [false, true, false, true, true] 0 (codeAt E.P 74 [false, true, false, true, true])) (St.mk (none :: none :: some (SV.ptr (nat_lit 0) (nat_lit 0)) :: some (SV.ptr (nat_lit 1) (nat_lit 0)) :: some (SV.ptr (nat_lit 2) (nat_lit 0)) :: some (SV.ptr (nat_lit 3) (nat_lit 0)) :: some (SV.int .i64 x44) :: nn 52 ([]))
  [.cells [SV.bool x45, SV.arr (K.int IntKind.i64) x46 (nat_lit 8)] (nat_lit 96), .cells [SV.bool x47, SV.arr (K.int IntKind.i64) x48 (nat_lit 8)] (nat_lit 96), .cells [SV.bool x49, SV.arr (K.int IntKind.i64) x50 (nat_lit 8)] (nat_lit 96), .cells [SV.bool x51, SV.arr (K.int IntKind.i64) x52 (nat_lit 8)] (nat_lit 96)]) Q = M.rtimes_l1_step x46 x48 x50 (fun (x55 : Int) (x56 : List Int) => Q .normal (St.mk (none :: none :: some (SV.ptr (nat_lit 0) (nat_lit 0)) :: some (SV.ptr (nat_lit 1) (nat_lit 0)) :: some (SV.ptr (nat_lit 2) (nat_lit 0)) :: some (SV.ptr (nat_lit 3) (nat_lit 0)) :: some (SV.int .i64 x55) :: nn 52 ([]))
  [.cells [SV.bool x45, SV.arr (K.int IntKind.i64) x46 (nat_lit 8)] (nat_lit 96), .cells [SV.bool x47, SV.arr (K.int IntKind.i64) x48 (nat_lit 8)] (nat_lit 96), .cells [SV.bool x49, SV.arr (K.int IntKind.i64) x50 (nat_lit 8)] (nat_lit 96), .cells [SV.bool x51, SV.arr (K.int IntKind.i64) x56 (nat_lit 8)] (nat_lit 96)])) (fun (x54 : List Int) => Q (.exit 0) (St.mk (none :: none :: some (SV.ptr (nat_lit 0) (nat_lit 0)) :: some (SV.ptr (nat_lit 1) (nat_lit 0)) :: some (SV.ptr (nat_lit 2) (nat_lit 0)) :: some (SV.ptr (nat_lit 3) (nat_lit 0)) :: nn 53 ([]))
  [.cells [SV.bool x45, SV.arr (K.int IntKind.i64) x46 (nat_lit 8)] (nat_lit 96), .cells [SV.bool x47, SV.arr (K.int IntKind.i64) x48 (nat_lit 8)] (nat_lit 96), .cells [SV.bool x49, SV.arr (K.int IntKind.i64) x50 (nat_lit 8)] (nat_lit 96), .cells [SV.bool x51, SV.arr (K.int IntKind.i64) x54 (nat_lit 8)] (nat_lit 96)])) x44 x52 := by kernel_rfl
theorem rtimes_l1_iter {α : Type} (x45 : Bool) (x46 : List Int) (x47 : Bool) (x48 : List Int) (x49 : Bool) (x50 : List Int) (x51 : Bool) (Q : Ex → St → Option α) : ∀ (n : Nat) (x44 : Int) (x52 : List Int), iter (loopStep E (exec E look_of rtimes_l0_lps 400) 74 [false, true, false, true, true] 0 (codeAt E.P 74 [false, true, false, true, true])) n (St.mk (none :: none :: some (SV.ptr (nat_lit 0) (nat_lit 0)) :: some (SV.ptr (nat_lit 1) (nat_lit 0)) :: some (SV.ptr (nat_lit 2) (nat_lit 0)) :: some (SV.ptr (nat_lit 3) (nat_lit 0)) :: some (SV.int .i64 x44) :: nn 52 ([]))
  [.cells [SV.bool x45, SV.arr (K.int IntKind.i64) x46 (nat_lit 8)] (nat_lit 96), .cells [SV.bool x47, SV.arr (K.int IntKind.i64) x48 (nat_lit 8)] (nat_lit 96), .cells [SV.bool x49, SV.arr (K.int IntKind.i64) x50 (nat_lit 8)] (nat_lit 96), .cells [SV.bool x51, SV.arr (K.int IntKind.i64) x52 (nat_lit 8)] (nat_lit 96)]) Q = M.rtimes_l1 x46 x48 x50 (fun (x54 : List Int) => Q (.exit 0) (St.mk (none :: none :: some (SV.ptr (nat_lit 0) (nat_lit 0)) :: some (SV.ptr (nat_lit 1) (nat_lit 0)) :: some (SV.ptr (nat_lit 2) (nat_lit 0)) :: some (SV.ptr (nat_lit 3) (nat_lit 0)) :: nn 53 ([]))
  [.cells [SV.bool x45, SV.arr (K.int IntKind.i64) x46 (nat_lit 8)] (nat_lit 96), .cells [SV.bool x47, SV.arr (K.int IntKind.i64) x48 (nat_lit 8)] (nat_lit 96), .cells [SV.bool x49, SV.arr (K.int IntKind.i64) x50 (nat_lit 8)] (nat_lit 96), .cells [SV.bool x51, SV.arr (K.int IntKind.i64) x54 (nat_lit 8)] (nat_lit 96)])) n x44 x52
  | 0, _, _ => rfl
  | n + 1, x44, x52 => (rtimes_l1_step_eq x44 x45 x46 x47 x48 x49 x50 x51 x52 (iterK (loopStep E (exec E look_of rtimes_l0_lps 400) 74 [false, true, false, true, true] 0 (codeAt E.P 74 [false, true, false, true, true])) n Q)).trans (congrArg (fun kn => M.rtimes_l1_step x46 x48 x50 kn (fun (x54 : List Int) => Q (.exit 0) (St.mk (none :: none :: some (SV.ptr (nat_lit 0) (nat_lit 0)) :: some (SV.ptr (nat_lit 1) (nat_lit 0)) :: some (SV.ptr (nat_lit 2) (nat_lit 0)) :: some (SV.ptr (nat_lit 3) (nat_lit 0)) :: nn 53 ([]))
  [.cells [SV.bool x45, SV.arr (K.int IntKind.i64) x46 (nat_lit 8)] (nat_lit 96), .cells [SV.bool x47, SV.arr (K.int IntKind.i64) x48 (nat_lit 8)] (nat_lit 96), .cells [SV.bool x49, SV.arr (K.int IntKind.i64) x50 (nat_lit 8)] (nat_lit 96), .cells [SV.bool x51, SV.arr (K.int IntKind.i64) x54 (nat_lit 8)] (nat_lit 96)])) x44 x52) (funext fun x44 => funext fun x52 => rtimes_l1_iter x45 x46 x47 x48 x49 x50 x51 Q n x44 x52))
noncomputable def rtimes_l1_go {α : Type} (ds : List D) (Q : Ex → St → Option α) : Option α :=
  dI ds fun x44 ds => dB ds fun x45 ds => dL (K.int IntKind.i64) ds fun x46 ds => dB ds fun x47 ds => dL (K.int IntKind.i64) ds fun x48 ds => dB ds fun x49 ds => dL (K.int IntKind.i64) ds fun x50 ds => dB ds fun x51 ds => dL (K.int IntKind.i64) ds fun x52 ds => dE ds (M.rtimes_l1 x46 x48 x50 (fun (x54 : List Int) => Q (.exit 0) (St.mk (none :: none :: some (SV.ptr (nat_lit 0) (nat_lit 0)) :: some (SV.ptr (nat_lit 1) (nat_lit 0)) :: some (SV.ptr (nat_lit 2) (nat_lit 0)) :: some (SV.ptr (nat_lit 3) (nat_lit 0)) :: nn 53 ([]))
  [.cells [SV.bool x45, SV.arr (K.int IntKind.i64) x46 (nat_lit 8)] (nat_lit 96), .cells [SV.bool x47, SV.arr (K.int IntKind.i64) x48 (nat_lit 8)] (nat_lit 96), .cells [SV.bool x49, SV.arr (K.int IntKind.i64) x50 (nat_lit 8)] (nat_lit 96), .cells [SV.bool x51, SV.arr (K.int IntKind.i64) x54 (nat_lit 8)] (nat_lit 96)])) (100 + x46.length + x48.length + x50.length + x52.length) x44 x52)
theorem rtimes_l1_ok {α : Type} : LoopOk E.P 74 [false, true, false, true, true] 0 (lEnt (α := α) (St.mk (none :: none :: some (SV.ptr (nat_lit 0) (nat_lit 0)) :: some (SV.ptr (nat_lit 1) (nat_lit 0)) :: some (SV.ptr (nat_lit 2) (nat_lit 0)) :: some (SV.ptr (nat_lit 3) (nat_lit 0)) :: some (SV.int .i64 (0 : Int)) :: nn 52 ([]))
  [.cells [SV.bool false, SV.arr (K.int IntKind.i64) [] (nat_lit 8)] (nat_lit 96), .cells [SV.bool false, SV.arr (K.int IntKind.i64) [] (nat_lit 8)] (nat_lit 96), .cells [SV.bool false, SV.arr (K.int IntKind.i64) [] (nat_lit 8)] (nat_lit 96), .cells [SV.bool false, SV.arr (K.int IntKind.i64) [] (nat_lit 8)] (nat_lit 96)]) rtimes_l1_go) :=
  lEnt_ok E (exec_sound E E_ok (look_of_ok) (rtimes_l0_lps_ok) 400) fun ds Q r h S hS => by
    unfold rtimes_l1_go at h
    obtain ⟨x44, ds, rfl, h1⟩ := dI_inv h
    obtain ⟨x45, ds, rfl, h2⟩ := dB_inv h1
    obtain ⟨x46, ds, rfl, h3⟩ := dL_inv h2
    obtain ⟨x47, ds, rfl, h4⟩ := dB_inv h3
    obtain ⟨x48, ds, rfl, h5⟩ := dL_inv h4
    obtain ⟨x49, ds, rfl, h6⟩ := dB_inv h5
    obtain ⟨x50, ds, rfl, h7⟩ := dL_inv h6
    obtain ⟨x51, ds, rfl, h8⟩ := dB_inv h7
    obtain ⟨x52, ds, rfl, h9⟩ := dL_inv h8
    obtain ⟨rfl, hE⟩ := dE_inv h9
    have e : fillS (St.mk (none :: none :: some (SV.ptr (nat_lit 0) (nat_lit 0)) :: some (SV.ptr (nat_lit 1) (nat_lit 0)) :: some (SV.ptr (nat_lit 2) (nat_lit 0)) :: some (SV.ptr (nat_lit 3) (nat_lit 0)) :: some (SV.int .i64 (0 : Int)) :: nn 52 ([]))
  [.cells [SV.bool false, SV.arr (K.int IntKind.i64) [] (nat_lit 8)] (nat_lit 96), .cells [SV.bool false, SV.arr (K.int IntKind.i64) [] (nat_lit 8)] (nat_lit 96), .cells [SV.bool false, SV.arr (K.int IntKind.i64) [] (nat_lit 8)] (nat_lit 96), .cells [SV.bool false, SV.arr (K.int IntKind.i64) [] (nat_lit 8)] (nat_lit 96)]) [.i x44, .b x45, .l (K.int IntKind.i64) x46, .b x47, .l (K.int IntKind.i64) x48, .b x49, .l (K.int IntKind.i64) x50, .b x51, .l (K.int IntKind.i64) x52] = some (St.mk (none :: none :: some (SV.ptr (nat_lit 0) (nat_lit 0)) :: some (SV.ptr (nat_lit 1) (nat_lit 0)) :: some (SV.ptr (nat_lit 2) (nat_lit 0)) :: some (SV.ptr (nat_lit 3) (nat_lit 0)) :: some (SV.int .i64 x44) :: nn 52 ([]))
  [.cells [SV.bool x45, SV.arr (K.int IntKind.i64) x46 (nat_lit 8)] (nat_lit 96), .cells [SV.bool x47, SV.arr (K.int IntKind.i64) x48 (nat_lit 8)] (nat_lit 96), .cells [SV.bool x49, SV.arr (K.int IntKind.i64) x50 (nat_lit 8)] (nat_lit 96), .cells [SV.bool x51, SV.arr (K.int IntKind.i64) x52 (nat_lit 8)] (nat_lit 96)]) := by kernel_rfl
    rw [e] at hS
    cases hS
    exact ⟨_, (rtimes_l1_iter x45 x46 x47 x48 x49 x50 x51 Q _ x44 x52).trans hE⟩
noncomputable def rtimes_l1_lps {α : Type} : LookL α := addLp 74 [false, true, false, true, true] 0 (lEnt (St.mk (none :: none :: some (SV.ptr (nat_lit 0) (nat_lit 0)) :: some (SV.ptr (nat_lit 1) (nat_lit 0)) :: some (SV.ptr (nat_lit 2) (nat_lit 0)) :: some (SV.ptr (nat_lit 3) (nat_lit 0)) :: some (SV.int .i64 (0 : Int)) :: nn 52 ([]))
  [.cells [SV.bool false, SV.arr (K.int IntKind.i64) [] (nat_lit 8)] (nat_lit 96), .cells [SV.bool false, SV.arr (K.int IntKind.i64) [] (nat_lit 8)] (nat_lit 96), .cells [SV.bool false, SV.arr (K.int IntKind.i64) [] (nat_lit 8)] (nat_lit 96), .cells [SV.bool false, SV.arr (K.int IntKind.i64) [] (nat_lit 8)] (nat_lit 96)]) rtimes_l1_go) rtimes_l0_lps
theorem rtimes_l1_lps_ok {α : Type} : LoopsOk E.P (rtimes_l1_lps (α := α)) := addLp_ok rtimes_l1_ok (rtimes_l0_lps_ok)

noncomputable def _root_.Go.Proofs.Ytkjellhkamfciaa.M.rtimes {α : Type} (an : Bool) (ad : List Int) (bn : Bool) (bd : List Int) (k0 : Bool → List Int → Option α) : Option α :=
  M.rtimes_l1 ad bd (List.replicate (8 : Nat) (0 : Int)) (fun (x57 : List Int) ↦ k0 (!an == bn) x57) ((100 : Nat) + List.length ad + List.length bd + (8 : Nat) + (8 : Nat)) (0 : Int) (List.replicate (8 : Nat) (0 : Int))
theorem rtimes_eq {α : Type} (an : Bool) (ad : List Int) (bn : Bool) (bd : List Int) (Q : SV → Hp → Option α) : callI E look_of (exec E look_of rtimes_l1_lps 400) 74 ([SV.agg [SV.bool an, SV.arr (K.int IntKind.i64) ad (nat_lit 8)], SV.agg [SV.bool bn, SV.arr (K.int IntKind.i64) bd (nat_lit 8)]]) ([]) Q = M.rtimes an ad bn bd (fun (x58 : Bool) (x59 : List Int) => Q (SV.agg [SV.bool x58, SV.arr (K.int IntKind.i64) x59 (nat_lit 8)]) ([])) := by kernel_rfl
def rtimes_sp : List AS := [.val (.agg [.bool false, .arr (.int .i64) [] 8]), .val (.agg [.bool false, .arr (.int .i64) [] 8])]
noncomputable def rtimes_go {α : Type} (ds : List D) (Q : SV → Hp → Option α) : Option α :=
  dB ds fun an ds => dL (K.int IntKind.i64) ds fun ad ds => dB ds fun bn ds => dL (K.int IntKind.i64) ds fun bd ds => dE ds (M.rtimes an ad bn bd (fun (x58 : Bool) (x59 : List Int) => Q (SV.agg [SV.bool x58, SV.arr (K.int IntKind.i64) x59 (nat_lit 8)]) ([])))
theorem rtimes_ok {α : Type} : FnOk E.P 74 (fEnt (α := α) rtimes_sp rtimes_go) :=
  fEnt_ok E (look_of_ok) (exec_sound E E_ok (look_of_ok) (rtimes_l1_lps_ok) 400) fun ds Q r h => by
    unfold rtimes_go at h
    obtain ⟨an, ds, rfl, h1⟩ := dB_inv h
    obtain ⟨ad, ds, rfl, h2⟩ := dL_inv h1
    obtain ⟨bn, ds, rfl, h3⟩ := dB_inv h2
    obtain ⟨bd, ds, rfl, h4⟩ := dL_inv h3
    obtain ⟨rfl, hE⟩ := dE_inv h4
    exact ⟨[SV.agg [SV.bool an, SV.arr (K.int IntKind.i64) ad (nat_lit 8)], SV.agg [SV.bool bn, SV.arr (K.int IntKind.i64) bd (nat_lit 8)]], [], fun vs => by kernel_rfl, (rtimes_eq an ad bn bd Q).trans hE⟩
theorem rtimes_l0_val {α : Type} (a b : List Int) (ha : okD a = true) (hb : okD b = true) (la : a.length = 8) (lb : b.length = 8) (i : Nat) (hi : i < 8) (k1 : List Int → Option α) : ∀ (fuel k : Nat) (c : Int) (o : List Int), i + k ≤ 8 → 8 - k < fuel → o.length = 8 → okD o = true → 0 ≤ c → c < 16777216 →
    M.rtimes_l0 (i : Int) a b k1 fuel c (k : Int) o = k1 (o.take (i + k) ++ linL (a.getD i 0) (o.drop (i + k)) (b.drop k) c)
  | 0, k, c, o, h1, h2, _, _, _, _ => by omega
  | n + 1, k, c, o, h1, h2, lo, ho, hc0, hc1 => by
    unfold M.rtimes_l0 M.rtimes_l0_step
    have ew : IntKind.wrap .i64 ((i : Int) + (k : Int)) = ((i + k : Nat) : Int) := by rw [IntWalk.i64_in _ (by omega)]; push_cast; rfl
    rw [ew, cLt_eq]
    by_cases hk : i + k < 8
    · have c1 : ((i + k : Nat) : Int) < 8 := by omega
      have c2 : (0 : Int) ≤ ((i + k : Nat) : Int) := by omega
      have c3 : (i : Int) < 8 := by omega
      have c4 : (k : Int) < 8 := by omega
      have da := okD_get ha i
      have db := okD_get hb k
      have dd := okD_get ho (i + k)
      simp only [c1, c2, c3, c4, Int.natCast_nonneg, decide_true, if_true, and_self, Int.toNat_natCast]
      have hlin : linL (a.getD i 0) (o.drop (i + k)) (b.drop k) c = (o.getD (i + k) 0 + a.getD i 0 * b.getD k 0 + c) % 16777216 :: linL (a.getD i 0) (o.drop (i + k + 1)) (b.drop (k + 1)) ((o.getD (i + k) 0 + a.getD i 0 * b.getD k 0 + c) / 16777216) := by
        rw [drop_getD (by omega : i + k < o.length), drop_getD (by omega : k < b.length), linL]
      rw [hlin]
      generalize hx : a.getD i 0 = x at *
      generalize b.getD k 0 = y at *
      generalize o.getD (i + k) 0 = z at *
      have p1 : x * y ≤ 16777215 * 16777215 := Int.mul_le_mul (by omega) (by omega) db.1 (by omega)
      have p0 : 0 ≤ x * y := Int.mul_nonneg da.1 db.1
      rw [IntWalk.i64_in (x * y) (by omega), IntWalk.i64_in (z + x * y) (by omega), IntWalk.i64_in (z + x * y + c) (by omega), Int.tdiv_eq_ediv_of_nonneg (by omega), Int.tmod_eq_emod_of_nonneg (by omega), IntWalk.i64_in ((z + x * y + c) / 16777216) (by omega), IntWalk.i64_in ((k : Int) + 1) (by omega)]
      have ho' : okD (o.set (i + k) ((z + x * y + c) % 16777216)) = true := by
        rw [← List.take_append_drop (i + k + 1) (o.set (i + k) _), okD_append, take_set_succ _ (by omega), drop_set_succ, okD_append]
        exact ⟨⟨okD_take ho _, by rw [okD_cons]; exact ⟨by omega, rfl⟩⟩, okD_drop ho _⟩
      have := rtimes_l0_val a b ha hb la lb i hi k1 n (k + 1) ((z + x * y + c) / 16777216) (o.set (i + k) ((z + x * y + c) % 16777216)) (by omega) (by omega) (by simpa using lo) ho' (by omega) (by omega)
      rw [hx] at this
      push_cast at this
      rw [this, show i + (k + 1) = i + k + 1 by omega, take_set_succ _ (by omega), drop_set_succ, List.append_assoc, List.singleton_append]
    · have e : i + k = 8 := by omega
      rw [e]
      have e2 : ¬ ((8 : Nat) : Int) < 8 := by omega
      simp only [e2, decide_false, Bool.false_eq_true, if_false]
      rw [List.take_of_length_le (by omega), List.drop_of_length_le (by omega : o.length ≤ 8), linL, List.append_nil]
      · intro _ _ _ _ _; simp_all
def tmL : List Int → Nat → List Int → List Int → List Int
  | [], _, o, _ => o
  | x :: us, i, o, b => tmL us (i + 1) (o.take i ++ linL x (o.drop i) b 0) b
theorem linL_zero : ∀ (xs ys : List Int), okD xs = true → xs.length ≤ ys.length → linL 0 xs ys 0 = xs
  | [], ys, _, _ => by simp [linL]
  | x :: xs, [], _, h => by simp at h
  | x :: xs, y :: ys, h, hl => by
    rw [okD_cons] at h
    rw [linL, Int.zero_mul, Int.add_zero, Int.add_zero, show x % 16777216 = x by omega, show x / 16777216 = 0 by omega, linL_zero xs ys h.2 (by simpa using hl)]
theorem tm_step {o b : List Int} (x : Int) {i : Nat} (lo : o.length = 8) (lb : b.length = 8) (ho : okD o = true) (hi : i ≤ 8) : (o.take i ++ linL x (o.drop i) b 0).length = 8 ∧ okD (o.take i ++ linL x (o.drop i) b 0) = true := by
  refine ⟨?_, ?_⟩
  · rw [List.length_append, linL_len _ _ _ _ (by rw [List.length_drop]; omega), List.length_take, List.length_drop]; omega
  · rw [okD_append]; exact ⟨okD_take ho i, linL_ok _ _ _ _⟩
theorem rtimes_l1_val {α : Type} (a b z : List Int) (ha : okD a = true) (hb : okD b = true) (la : a.length = 8) (lb : b.length = 8) (k1 : List Int → Option α) : ∀ (fuel i : Nat) (o : List Int), i ≤ 8 → 8 - i < fuel → o.length = 8 → okD o = true →
    M.rtimes_l1 a b z k1 fuel (i : Int) o = k1 (tmL (a.drop i) i o b)
  | 0, i, o, h1, h2, _, _ => by omega
  | n + 1, i, o, h1, h2, lo, ho => by
    unfold M.rtimes_l1 M.rtimes_l1_step
    rw [cLt_eq]
    by_cases hi : i < 8
    · have c1 : (i : Int) < 8 := by omega
      have c2 : (0 : Int) ≤ (i : Int) := by omega
      simp only [c1, c2, decide_true, if_true, and_self, Int.toNat_natCast, cEq_eq]
      rw [IntWalk.i64_in ((i : Int) + 1) (by omega), drop_getD (by omega : i < a.length), tmL]
      obtain ⟨l', o'⟩ := tm_step (b := b) (a.getD i 0) lo lb ho h1
      have rc := rtimes_l1_val a b z ha hb la lb k1 n (i + 1) (o.take i ++ linL (a.getD i 0) (o.drop i) b 0) (by omega) (by omega) l' o'
      push_cast at rc
      by_cases h0 : a.getD i 0 = 0
      · rw [h0] at rc ⊢
        rw [linL_zero _ _ (okD_drop ho i) (by rw [List.length_drop]; omega), List.take_append_drop] at rc ⊢
        simp only [beq_self_eq_true, if_true]
        exact rc
      · have : (a.getD i 0 == 0) = false := by simpa using h0
        simp only [this, Bool.false_eq_true, if_false]
        have inner := rtimes_l0_val a b ha hb la lb i hi (fun x => M.rtimes_l1 a b z k1 n ((i : Int) + 1) x) (100 + a.length + b.length + z.length + o.length) 0 0 o (by omega) (by omega) lo ho (by omega) (by omega)
        simp only [Int.natCast_zero, Nat.add_zero, List.drop_zero] at inner
        exact inner.trans rc
    · have : i = 8 := by omega
      subst this
      have e : ¬ ((8 : Nat) : Int) < 8 := by omega
      simp only [e, decide_false, Bool.false_eq_true, if_false]
      rw [List.drop_of_length_le (by omega : a.length ≤ 8), tmL]
theorem tmL_ok (b : List Int) (lb : b.length = 8) : ∀ (us : List Int) (i : Nat) (o : List Int), us.length + i = 8 → o.length = 8 → okD o = true → (tmL us i o b).length = 8 ∧ okD (tmL us i o b) = true
  | [], i, o, _, lo, ho => ⟨lo, ho⟩
  | x :: us, i, o, h, lo, ho => by
    simp only [List.length_cons] at h
    obtain ⟨l', o'⟩ := tm_step (b := b) x lo lb ho (by omega : i ≤ 8)
    exact tmL_ok b lb us (i + 1) _ (by omega) l' o'
theorem tmL_val (b : List Int) (lb : b.length = 8) : ∀ (us : List Int) (i : Nat) (o : List Int), us.length + i = 8 → o.length = 8 → okD o = true → val (tmL us i o b) = (val o + 16777216 ^ i * val us * val b) % 16777216 ^ 8
  | [], i, o, _, lo, ho => by
    have := val_bound ho
    rw [lo] at this
    simp only [tmL, val, Int.mul_zero, Int.zero_mul, Int.add_zero]
    rw [Int.emod_eq_of_lt this.1 this.2]
  | x :: us, i, o, h, lo, ho => by
    simp only [List.length_cons] at h
    obtain ⟨l', o'⟩ := tm_step (b := b) x lo lb ho (by omega : i ≤ 8)
    rw [tmL, tmL_val b lb us (i + 1) _ (by omega) l' o', val_append, linL_val _ _ _ _ (by rw [List.length_drop]; omega), List.length_take, List.length_drop, lo, Nat.min_eq_left (by omega : i ≤ 8)]
    have e0 : val o = val (o.take i) + 16777216 ^ i * val (o.drop i) := by
      have := val_append (o.take i) (o.drop i)
      rw [List.take_append_drop, List.length_take, lo, Nat.min_eq_left (by omega : i ≤ 8)] at this
      exact this
    have e1 : (16777216 : Int) ^ i * 16777216 ^ (8 - i) = 16777216 ^ 8 := by rw [← Int.pow_add]; exact congrArg (fun e : Nat => (16777216 : Int) ^ e) (by omega)
    have e2 := Int.mul_ediv_add_emod (val (o.drop i) + x * val b + 0) (16777216 ^ (8 - i))
    rw [e0, pB1, val]
    generalize hM : (16777216 : Int) ^ (8 - i) = M at *
    generalize hP : (16777216 : Int) ^ i = P at *
    generalize hq : (val (o.drop i) + x * val b + 0) / M = q at *
    generalize hr : (val (o.drop i) + x * val b + 0) % M = r at *
    have : val (o.take i) + P * val (o.drop i) + P * (x + 16777216 * val us) * val b = val (o.take i) + P * r + 16777216 * P * val us * val b + 16777216 ^ 8 * q := by
      rw [← e1]
      grind
    rw [this, Int.add_mul_emod_self_left]
noncomputable def _root_.Go.Proofs.Ytkjellhkamfciaa.V.tmD (a b : List Int) : List Int := tmL a 0 (List.replicate 8 0) b
def _root_.Go.Proofs.Ytkjellhkamfciaa.V.tmN (an bn : Bool) : Bool := !(an == bn)
theorem rtimes_v {α : Type} (an : Bool) (a : List Int) (bn : Bool) (b : List Int) (ha : V.ok8 a = true) (hb : V.ok8 b = true) (k0 : Bool → List Int → Option α) : M.rtimes an a bn b k0 = k0 (V.tmN an bn) (V.tmD a b) := by
  rw [ok8_iff] at ha hb
  unfold M.rtimes V.tmN V.tmD
  have := rtimes_l1_val a b (List.replicate 8 0) ha.2 hb.2 ha.1 hb.1 (fun x => k0 (!(an == bn)) x) (100 + a.length + b.length + 8 + 8) 0 (List.replicate 8 0) (by omega) (by omega) rfl rfl
  simp only [Int.natCast_zero, List.drop_zero] at this
  exact this
noncomputable def rtimes_h {α : Type} (ds : List D) (Q : SV → Hp → Option α) : Option α :=
  dB ds fun an ds => dL (K.int IntKind.i64) ds fun ad ds => dB ds fun bn ds => dL (K.int IntKind.i64) ds fun bd ds => dE ds (if V.ok8 ad = true ∧ V.ok8 bd = true then Q (.agg [.bool (V.tmN an bn), .arr (.int .i64) (V.tmD ad bd) 8]) ([]) else none)
theorem rtimes_h_ok {α : Type} : FnOk E.P 74 (fEnt (α := α) rtimes_sp rtimes_h) :=
  fEnt_ok E (look_of_ok) (exec_sound E E_ok (look_of_ok) (rtimes_l1_lps_ok) 400) fun ds Q r h => by
    unfold rtimes_h at h
    obtain ⟨an, ds, rfl, h1⟩ := dB_inv h
    obtain ⟨ad, ds, rfl, h2⟩ := dL_inv h1
    obtain ⟨bn, ds, rfl, h3⟩ := dB_inv h2
    obtain ⟨bd, ds, rfl, h4⟩ := dL_inv h3
    obtain ⟨rfl, hE⟩ := dE_inv h4
    split at hE
    · rename_i hg
      exact ⟨[SV.agg [SV.bool an, SV.arr (K.int IntKind.i64) ad (nat_lit 8)], SV.agg [SV.bool bn, SV.arr (K.int IntKind.i64) bd (nat_lit 8)]], [], fun vs => by kernel_rfl, (rtimes_eq an ad bn bd Q).trans ((rtimes_v an ad bn bd hg.1 hg.2 _).trans hE)⟩
    · cases hE
noncomputable def look_rtimes {α : Type} : LookF α := addFn 74 (fEnt rtimes_sp rtimes_h) look_of
theorem look_rtimes_ok {α : Type} : LookOk E.P (look_rtimes (α := α)) := addFn_ok rtimes_h_ok (look_of_ok)
theorem tmD_ok {a b : List Int} (ha : V.ok8 a = true) (hb : V.ok8 b = true) : V.ok8 (V.tmD a b) = true := by
  rw [ok8_iff] at ha hb ⊢
  exact tmL_ok b hb.1 a 0 _ (by omega) rfl rfl
theorem tmD_val {a b : List Int} (ha : V.ok8 a = true) (hb : V.ok8 b = true) (h : val a * val b < 6277101735386680763835789423207666416102355444464034512896) : val (V.tmD a b) = val a * val b := by
  rw [ok8_iff] at ha hb
  have va := val_bound ha.2
  have vb := val_bound hb.2
  have h0 : 0 ≤ val a * val b := Int.mul_nonneg va.1 vb.1
  unfold V.tmD
  rw [tmL_val b hb.1 a 0 _ (by omega) rfl rfl, p8]
  have e : val (List.replicate 8 (0 : Int)) = 0 := by decide
  rw [e, Int.pow_zero, Int.one_mul, Int.zero_add, Int.emod_eq_of_lt h0 h]
theorem tm_val (an : Bool) {a : List Int} (bn : Bool) {b : List Int} (ha : V.ok8 a = true) (hb : V.ok8 b = true) (h : val a * val b < 6277101735386680763835789423207666416102355444464034512896) : wv (V.tmN an bn) (V.tmD a b) = wv an a * wv bn b := by
  unfold wv V.tmN
  rw [tmD_val ha hb h]
  cases an <;> cases bn <;> simp [Int.mul_neg, Int.neg_mul]
end Go.Proofs.Ytkjellhkamfciaa.Sx
