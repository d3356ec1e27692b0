/- The document's own numbers: Plus. -/
import Derived.Test.YtmcifgaaojgheaaFxR1
namespace Go.Proofs.Ytmcifgaaojgheaa.Sx
open Go
set_option maxRecDepth 20000
set_option linter.unusedVariables false
set_option linter.unusedSimpArgs false
noncomputable def _root_.Go.Proofs.Ytmcifgaaojgheaa.M.plus_l0_step {α : Type} (x13 : List Int) (x15 : List Int) (kn : Int → Int → List Int → Option α) (k1 : List Int → Option α) (x10 : Int) (x11 : Int) (x19 : List Int) : Option α :=
  if cLt x11 (8 : Int) = true then
  if (0 : Int) ≤ x11 ∧ x11 < (8 : Int) then
    if (0 : Int) ≤ x11 ∧ x11 < (8 : Int) then
      if (0 : Int) ≤ x11 ∧ x11 < (8 : Int) then kn (IntKind.wrap IntKind.i64 (Int.tdiv (IntKind.wrap IntKind.i64 (IntKind.wrap IntKind.i64 (List.getD x13 (Int.toNat x11) (0 : Int) + List.getD x15 (Int.toNat x11) (0 : Int)) + x10)) (16777216 : Int))) (IntKind.wrap IntKind.i64 (x11 + (1 : Int))) (List.set x19 (Int.toNat x11) (Int.tmod (IntKind.wrap IntKind.i64 (IntKind.wrap IntKind.i64 (List.getD x13 (Int.toNat x11) (0 : Int) + List.getD x15 (Int.toNat x11) (0 : Int)) + x10)) (16777216 : Int)))
      else none
    else none
  else none
else k1 x19
noncomputable def _root_.Go.Proofs.Ytmcifgaaojgheaa.M.plus_l0 {α : Type} (x13 : List Int) (x15 : List Int) (k1 : List Int → Option α) : Nat → Int → Int → List Int → Option α
  | 0, _, _, _ => none
  | n + 1, x10, x11, x19 => Go.Proofs.Ytmcifgaaojgheaa.M.plus_l0_step x13 x15 (Go.Proofs.Ytmcifgaaojgheaa.M.plus_l0 x13 x15 k1 n) k1 x10 x11 x19
theorem plus_l0_step_eq {α : Type} (x10 : Int) (x11 : Int) (x12 : Bool) (x13 : List Int) (x14 : Bool) (x15 : List Int) (x16 : Bool) (x17 : List Int) (x18 : Bool) (x19 : List Int) (Q : Ex → St → Option α) : (loopStep E (exec E look_rsize noLps 400) 94 [false, true, false, true, true, false, true, false, true] 0 (codeAt E.P 94 [false, true, false, true, true, false, true, false, true])) (St.mk
  [none, none, some (SV.ptr (nat_lit 0) (nat_lit 0)), some (SV.ptr (nat_lit 1) (nat_lit 0)), some (SV.ptr (nat_lit 2) (nat_lit 0)), some (SV.int IntKind.i64 x10), some (SV.ptr (nat_lit 3) (nat_lit 0)), some (SV.int IntKind.i64 x11), none, none, none, none, none, none, none, none, none, none, none, none, none, none, none, none, none, none, none, none, none, none, none, none, none, none, none, none, none, none, none, none, none, none, none, none, none, none, none, none, none, none, none, none,
    none, none, none, none, none, none, none, none, none, none, none, none, none, none, none, none, none, none, none, none, none, none, none]
  [SObj.cells [SV.bool x12, SV.arr (K.int IntKind.i64) x13 (nat_lit 8)] (nat_lit 101), SObj.cells [SV.bool x14, SV.arr (K.int IntKind.i64) x15 (nat_lit 8)] (nat_lit 101), SObj.cells [SV.bool x16, SV.arr (K.int IntKind.i64) x17 (nat_lit 8)] (nat_lit 101), SObj.cells [SV.bool x18, SV.arr (K.int IntKind.i64) x19 (nat_lit 8)] (nat_lit 101)]) Q = Go.Proofs.Ytmcifgaaojgheaa.M.plus_l0_step x13 x15 (fun (x21 : Int) (x22 : Int) (x23 : List Int) => Q .normal (St.mk
  [none, none, some (SV.ptr (nat_lit 0) (nat_lit 0)), some (SV.ptr (nat_lit 1) (nat_lit 0)), some (SV.ptr (nat_lit 2) (nat_lit 0)), some (SV.int IntKind.i64 x21), some (SV.ptr (nat_lit 3) (nat_lit 0)), some (SV.int IntKind.i64 x22), none, none, none, none, none, none, none, none, none, none, none, none, none, none, none, none, none, none, none, none, none, none, none, none, none, none, none, none, none, none, none, none, none, none, none, none, none, none, none, none, none, none, none, none,
    none, none, none, none, none, none, none, none, none, none, none, none, none, none, none, none, none, none, none, none, none, none, none]
  [SObj.cells [SV.bool x12, SV.arr (K.int IntKind.i64) x13 (nat_lit 8)] (nat_lit 101), SObj.cells [SV.bool x14, SV.arr (K.int IntKind.i64) x15 (nat_lit 8)] (nat_lit 101), SObj.cells [SV.bool x16, SV.arr (K.int IntKind.i64) x17 (nat_lit 8)] (nat_lit 101), SObj.cells [SV.bool x18, SV.arr (K.int IntKind.i64) x23 (nat_lit 8)] (nat_lit 101)])) (fun (x20 : List Int) => Q (.exit 0) (St.mk
  [none, none, none, none, some (SV.ptr (nat_lit 0) (nat_lit 0)), none, some (SV.ptr (nat_lit 1) (nat_lit 0)), none, none, none, none, none, none, none, none, none, none, none, none, none, none, none, none, none, none, none, none, none, none, none, none, none, none, none, none, none, none, none, none, none, none, none, none, none, none, none, none, none, none, none, none, none, none, none, none, none, none, none, none, none, none, none, none, none, none, none, none, none, none, none, none, none,
    none, none, none]
  [SObj.cells [SV.bool x16, SV.arr (K.int IntKind.i64) x17 (nat_lit 8)] (nat_lit 101), SObj.cells [SV.bool x18, SV.arr (K.int IntKind.i64) x20 (nat_lit 8)] (nat_lit 101)])) x10 x11 x19 := by kernel_rfl
theorem plus_l0_iter {α : Type} (x12 : Bool) (x13 : List Int) (x14 : Bool) (x15 : List Int) (x16 : Bool) (x17 : List Int) (x18 : Bool) (Q : Ex → St → Option α) : ∀ (n : Nat) (x10 : Int) (x11 : Int) (x19 : List Int), iter (loopStep E (exec E look_rsize noLps 400) 94 [false, true, false, true, true, false, true, false, true] 0 (codeAt E.P 94 [false, true, false, true, true, false, true, false, true])) n (St.mk
  [none, none, some (SV.ptr (nat_lit 0) (nat_lit 0)), some (SV.ptr (nat_lit 1) (nat_lit 0)), some (SV.ptr (nat_lit 2) (nat_lit 0)), some (SV.int IntKind.i64 x10), some (SV.ptr (nat_lit 3) (nat_lit 0)), some (SV.int IntKind.i64 x11), none, none, none, none, none, none, none, none, none, none, none, none, none, none, none, none, none, none, none, none, none, none, none, none, none, none, none, none, none, none, none, none, none, none, none, none, none, none, none, none, none, none, none, none,
    none, none, none, none, none, none, none, none, none, none, none, none, none, none, none, none, none, none, none, none, none, none, none]
  [SObj.cells [SV.bool x12, SV.arr (K.int IntKind.i64) x13 (nat_lit 8)] (nat_lit 101), SObj.cells [SV.bool x14, SV.arr (K.int IntKind.i64) x15 (nat_lit 8)] (nat_lit 101), SObj.cells [SV.bool x16, SV.arr (K.int IntKind.i64) x17 (nat_lit 8)] (nat_lit 101), SObj.cells [SV.bool x18, SV.arr (K.int IntKind.i64) x19 (nat_lit 8)] (nat_lit 101)]) Q = Go.Proofs.Ytmcifgaaojgheaa.M.plus_l0 x13 x15 (fun (x20 : List Int) => Q (.exit 0) (St.mk
  [none, none, none, none, some (SV.ptr (nat_lit 0) (nat_lit 0)), none, some (SV.ptr (nat_lit 1) (nat_lit 0)), none, none, none, none, none, none, none, none, none, none, none, none, none, none, none, none, none, none, none, none, none, none, none, none, none, none, none, none, none, none, none, none, none, none, none, none, none, none, none, none, none, none, none, none, none, none, none, none, none, none, none, none, none, none, none, none, none, none, none, none, none, none, none, none, none,
    none, none, none]
  [SObj.cells [SV.bool x16, SV.arr (K.int IntKind.i64) x17 (nat_lit 8)] (nat_lit 101), SObj.cells [SV.bool x18, SV.arr (K.int IntKind.i64) x20 (nat_lit 8)] (nat_lit 101)])) n x10 x11 x19
  | 0, _, _, _ => rfl
  | n + 1, x10, x11, x19 => (plus_l0_step_eq x10 x11 x12 x13 x14 x15 x16 x17 x18 x19 (iterK (loopStep E (exec E look_rsize noLps 400) 94 [false, true, false, true, true, false, true, false, true] 0 (codeAt E.P 94 [false, true, false, true, true, false, true, false, true])) n Q)).trans (congrArg (fun kn => Go.Proofs.Ytmcifgaaojgheaa.M.plus_l0_step x13 x15 kn (fun (x20 : List Int) => Q (.exit 0) (St.mk
  [none, none, none, none, some (SV.ptr (nat_lit 0) (nat_lit 0)), none, some (SV.ptr (nat_lit 1) (nat_lit 0)), none, none, none, none, none, none, none, none, none, none, none, none, none, none, none, none, none, none, none, none, none, none, none, none, none, none, none, none, none, none, none, none, none, none, none, none, none, none, none, none, none, none, none, none, none, none, none, none, none, none, none, none, none, none, none, none, none, none, none, none, none, none, none, none, none,
    none, none, none]
  [SObj.cells [SV.bool x16, SV.arr (K.int IntKind.i64) x17 (nat_lit 8)] (nat_lit 101), SObj.cells [SV.bool x18, SV.arr (K.int IntKind.i64) x20 (nat_lit 8)] (nat_lit 101)])) x10 x11 x19) (funext fun x10 => funext fun x11 => funext fun x19 => plus_l0_iter x12 x13 x14 x15 x16 x17 x18 Q n x10 x11 x19))
noncomputable def plus_l0_go {α : Type} (ds : List D) (Q : Ex → St → Option α) : Option α :=
  dI ds fun x10 ds => dI ds fun x11 ds => dB ds fun x12 ds => dL (K.int IntKind.i64) ds fun x13 ds => dB ds fun x14 ds => dL (K.int IntKind.i64) ds fun x15 ds => dB ds fun x16 ds => dL (K.int IntKind.i64) ds fun x17 ds => dB ds fun x18 ds => dL (K.int IntKind.i64) ds fun x19 ds => dE ds (Go.Proofs.Ytmcifgaaojgheaa.M.plus_l0 x13 x15 (fun (x20 : List Int) => Q (.exit 0) (St.mk
  [none, none, none, none, some (SV.ptr (nat_lit 0) (nat_lit 0)), none, some (SV.ptr (nat_lit 1) (nat_lit 0)), none, none, none, none, none, none, none, none, none, none, none, none, none, none, none, none, none, none, none, none, none, none, none, none, none, none, none, none, none, none, none, none, none, none, none, none, none, none, none, none, none, none, none, none, none, none, none, none, none, none, none, none, none, none, none, none, none, none, none, none, none, none, none, none, none,
    none, none, none]
  [SObj.cells [SV.bool x16, SV.arr (K.int IntKind.i64) x17 (nat_lit 8)] (nat_lit 101), SObj.cells [SV.bool x18, SV.arr (K.int IntKind.i64) x20 (nat_lit 8)] (nat_lit 101)])) (100 + x13.length + x15.length + x17.length + x19.length) x10 x11 x19)
theorem plus_l0_ok {α : Type} : LoopOk E.P 94 [false, true, false, true, true, false, true, false, true] 0 (lEnt (α := α) (St.mk
  [none, none, some (SV.ptr (nat_lit 0) (nat_lit 0)), some (SV.ptr (nat_lit 1) (nat_lit 0)), some (SV.ptr (nat_lit 2) (nat_lit 0)), some (SV.int IntKind.i64 (0 : Int)), some (SV.ptr (nat_lit 3) (nat_lit 0)), some (SV.int IntKind.i64 (0 : Int)), none, none, none, none, none, none, none, none, none, none, none, none, none, none, none, none, none, none, none, none, none, none, none, none, none, none, none, none, none, none, none, none, none, none, none, none, none, none, none, none, none, none,
    none, none, none, none, none, none, none, none, none, none, none, none, none, none, none, none, none, none, none, none, none, none, none, none, none]
  [SObj.cells [SV.bool false, SV.arr (K.int IntKind.i64) [] (nat_lit 8)] (nat_lit 101), SObj.cells [SV.bool false, SV.arr (K.int IntKind.i64) [] (nat_lit 8)] (nat_lit 101), SObj.cells [SV.bool false, SV.arr (K.int IntKind.i64) [] (nat_lit 8)] (nat_lit 101), SObj.cells [SV.bool false, SV.arr (K.int IntKind.i64) [] (nat_lit 8)] (nat_lit 101)]) plus_l0_go) :=
  lEnt_ok E (exec_sound E E_ok (look_rsize_ok) (noLps_ok _) 400) fun ds Q r h S hS => by
    unfold plus_l0_go at h
    obtain ⟨x10, ds, rfl, h1⟩ := dI_inv h
    obtain ⟨x11, ds, rfl, h2⟩ := dI_inv h1
    obtain ⟨x12, ds, rfl, h3⟩ := dB_inv h2
    obtain ⟨x13, ds, rfl, h4⟩ := dL_inv h3
    obtain ⟨x14, ds, rfl, h5⟩ := dB_inv h4
    obtain ⟨x15, ds, rfl, h6⟩ := dL_inv h5
    obtain ⟨x16, ds, rfl, h7⟩ := dB_inv h6
    obtain ⟨x17, ds, rfl, h8⟩ := dL_inv h7
    obtain ⟨x18, ds, rfl, h9⟩ := dB_inv h8
    obtain ⟨x19, ds, rfl, h10⟩ := dL_inv h9
    obtain ⟨rfl, hE⟩ := dE_inv h10
    have e : fillS (St.mk
  [none, none, some (SV.ptr (nat_lit 0) (nat_lit 0)), some (SV.ptr (nat_lit 1) (nat_lit 0)), some (SV.ptr (nat_lit 2) (nat_lit 0)), some (SV.int IntKind.i64 (0 : Int)), some (SV.ptr (nat_lit 3) (nat_lit 0)), some (SV.int IntKind.i64 (0 : Int)), none, none, none, none, none, none, none, none, none, none, none, none, none, none, none, none, none, none, none, none, none, none, none, none, none, none, none, none, none, none, none, none, none, none, none, none, none, none, none, none, none, none,
    none, none, none, none, none, none, none, none, none, none, none, none, none, none, none, none, none, none, none, none, none, none, none, none, none]
  [SObj.cells [SV.bool false, SV.arr (K.int IntKind.i64) [] (nat_lit 8)] (nat_lit 101), SObj.cells [SV.bool false, SV.arr (K.int IntKind.i64) [] (nat_lit 8)] (nat_lit 101), SObj.cells [SV.bool false, SV.arr (K.int IntKind.i64) [] (nat_lit 8)] (nat_lit 101), SObj.cells [SV.bool false, SV.arr (K.int IntKind.i64) [] (nat_lit 8)] (nat_lit 101)]) [.i x10, .i x11, .b x12, .l (K.int IntKind.i64) x13, .b x14, .l (K.int IntKind.i64) x15, .b x16, .l (K.int IntKind.i64) x17, .b x18, .l (K.int IntKind.i64) x19] = some (St.mk
  [none, none, some (SV.ptr (nat_lit 0) (nat_lit 0)), some (SV.ptr (nat_lit 1) (nat_lit 0)), some (SV.ptr (nat_lit 2) (nat_lit 0)), some (SV.int IntKind.i64 x10), some (SV.ptr (nat_lit 3) (nat_lit 0)), some (SV.int IntKind.i64 x11), none, none, none, none, none, none, none, none, none, none, none, none, none, none, none, none, none, none, none, none, none, none, none, none, none, none, none, none, none, none, none, none, none, none, none, none, none, none, none, none, none, none, none, none,
    none, none, none, none, none, none, none, none, none, none, none, none, none, none, none, none, none, none, none, none, none, none, none]
  [SObj.cells [SV.bool x12, SV.arr (K.int IntKind.i64) x13 (nat_lit 8)] (nat_lit 101), SObj.cells [SV.bool x14, SV.arr (K.int IntKind.i64) x15 (nat_lit 8)] (nat_lit 101), SObj.cells [SV.bool x16, SV.arr (K.int IntKind.i64) x17 (nat_lit 8)] (nat_lit 101), SObj.cells [SV.bool x18, SV.arr (K.int IntKind.i64) x19 (nat_lit 8)] (nat_lit 101)]) := by kernel_rfl
    rw [e] at hS
    cases hS
    exact ⟨_, (plus_l0_iter x12 x13 x14 x15 x16 x17 x18 Q _ x10 x11 x19).trans hE⟩
noncomputable def plus_l0_lps {α : Type} : LookL α := addLp 94 [false, true, false, true, true, false, true, false, true] 0 (lEnt (St.mk
  [none, none, some (SV.ptr (nat_lit 0) (nat_lit 0)), some (SV.ptr (nat_lit 1) (nat_lit 0)), some (SV.ptr (nat_lit 2) (nat_lit 0)), some (SV.int IntKind.i64 (0 : Int)), some (SV.ptr (nat_lit 3) (nat_lit 0)), some (SV.int IntKind.i64 (0 : Int)), none, none, none, none, none, none, none, none, none, none, none, none, none, none, none, none, none, none, none, none, none, none, none, none, none, none, none, none, none, none, none, none, none, none, none, none, none, none, none, none, none, none,
    none, none, none, none, none, none, none, none, none, none, none, none, none, none, none, none, none, none, none, none, none, none, none, none, none]
  [SObj.cells [SV.bool false, SV.arr (K.int IntKind.i64) [] (nat_lit 8)] (nat_lit 101), SObj.cells [SV.bool false, SV.arr (K.int IntKind.i64) [] (nat_lit 8)] (nat_lit 101), SObj.cells [SV.bool false, SV.arr (K.int IntKind.i64) [] (nat_lit 8)] (nat_lit 101), SObj.cells [SV.bool false, SV.arr (K.int IntKind.i64) [] (nat_lit 8)] (nat_lit 101)]) plus_l0_go) noLps
theorem plus_l0_lps_ok {α : Type} : LoopsOk E.P (plus_l0_lps (α := α)) := addLp_ok plus_l0_ok (noLps_ok _)

noncomputable def _root_.Go.Proofs.Ytmcifgaaojgheaa.M.plus_l1_step {α : Type} (x38 : List Int) (x40 : List Int) (kn : Int → Int → List Int → Option α) (k1 : List Int → Option α) (x35 : Int) (x36 : Int) (x44 : List Int) : Option α :=
  if cLt x36 (8 : Int) = true then
  if (0 : Int) ≤ x36 ∧ x36 < (8 : Int) then
    if (0 : Int) ≤ x36 ∧ x36 < (8 : Int) then
      if cLt (IntKind.wrap IntKind.i64 (IntKind.wrap IntKind.i64 (List.getD x38 (Int.toNat x36) (0 : Int) - List.getD x40 (Int.toNat x36) (0 : Int)) - x35)) (0 : Int) = true then
        if (0 : Int) ≤ x36 ∧ x36 < (8 : Int) then kn (1 : Int) (IntKind.wrap IntKind.i64 (x36 + (1 : Int))) (List.set x44 (Int.toNat x36) (IntKind.wrap IntKind.i64 (IntKind.wrap IntKind.i64 (IntKind.wrap IntKind.i64 (List.getD x38 (Int.toNat x36) (0 : Int) - List.getD x40 (Int.toNat x36) (0 : Int)) - x35) + (16777216 : Int)))) else none
      else if (0 : Int) ≤ x36 ∧ x36 < (8 : Int) then kn (0 : Int) (IntKind.wrap IntKind.i64 (x36 + (1 : Int))) (List.set x44 (Int.toNat x36) (IntKind.wrap IntKind.i64 (IntKind.wrap IntKind.i64 (List.getD x38 (Int.toNat x36) (0 : Int) - List.getD x40 (Int.toNat x36) (0 : Int)) - x35))) else none
    else none
  else none
else k1 x44
noncomputable def _root_.Go.Proofs.Ytmcifgaaojgheaa.M.plus_l1 {α : Type} (x38 : List Int) (x40 : List Int) (k1 : List Int → Option α) : Nat → Int → Int → List Int → Option α
  | 0, _, _, _ => none
  | n + 1, x35, x36, x44 => Go.Proofs.Ytmcifgaaojgheaa.M.plus_l1_step x38 x40 (Go.Proofs.Ytmcifgaaojgheaa.M.plus_l1 x38 x40 k1 n) k1 x35 x36 x44
theorem plus_l1_step_eq {α : Type} (x35 : Int) (x36 : Int) (x37 : Bool) (x38 : List Int) (x39 : Bool) (x40 : List Int) (x41 : Bool) (x42 : List Int) (x43 : Bool) (x44 : List Int) (Q : Ex → St → Option α) : (loopStep E (exec E look_rsize plus_l0_lps 400) 94 [false, true, false, true, true, true, true, true] 0 (codeAt E.P 94 [false, true, false, true, true, true, true, true])) (St.mk
  [none, none, some (SV.ptr (nat_lit 0) (nat_lit 0)), some (SV.ptr (nat_lit 1) (nat_lit 0)), some (SV.ptr (nat_lit 2) (nat_lit 0)), none, none, none, none, none, some (SV.ptr (nat_lit 3) (nat_lit 0)), some (SV.int IntKind.i64 x35), some (SV.int IntKind.i64 x36), none, none, none, none, none, none, none, none, none, none, none, none, none, none, none, none, none, none, none, none, none, none, none, none, none, none, none, none, none, none, none, none, none, none, none, none, none, none, none,
    none, none, none, none, none, none, none, none, none, none, none, none, none, none, none, none, none, none, none, none, none, none, none]
  [SObj.cells [SV.bool x37, SV.arr (K.int IntKind.i64) x38 (nat_lit 8)] (nat_lit 101), SObj.cells [SV.bool x39, SV.arr (K.int IntKind.i64) x40 (nat_lit 8)] (nat_lit 101), SObj.cells [SV.bool x41, SV.arr (K.int IntKind.i64) x42 (nat_lit 8)] (nat_lit 101), SObj.cells [SV.bool x43, SV.arr (K.int IntKind.i64) x44 (nat_lit 8)] (nat_lit 101)]) Q = Go.Proofs.Ytmcifgaaojgheaa.M.plus_l1_step x38 x40 (fun (x46 : Int) (x47 : Int) (x48 : List Int) => Q .normal (St.mk
  [none, none, some (SV.ptr (nat_lit 0) (nat_lit 0)), some (SV.ptr (nat_lit 1) (nat_lit 0)), some (SV.ptr (nat_lit 2) (nat_lit 0)), none, none, none, none, none, some (SV.ptr (nat_lit 3) (nat_lit 0)), some (SV.int IntKind.i64 x46), some (SV.int IntKind.i64 x47), none, none, none, none, none, none, none, none, none, none, none, none, none, none, none, none, none, none, none, none, none, none, none, none, none, none, none, none, none, none, none, none, none, none, none, none, none, none, none,
    none, none, none, none, none, none, none, none, none, none, none, none, none, none, none, none, none, none, none, none, none, none, none]
  [SObj.cells [SV.bool x37, SV.arr (K.int IntKind.i64) x38 (nat_lit 8)] (nat_lit 101), SObj.cells [SV.bool x39, SV.arr (K.int IntKind.i64) x40 (nat_lit 8)] (nat_lit 101), SObj.cells [SV.bool x41, SV.arr (K.int IntKind.i64) x42 (nat_lit 8)] (nat_lit 101), SObj.cells [SV.bool x43, SV.arr (K.int IntKind.i64) x48 (nat_lit 8)] (nat_lit 101)])) (fun (x45 : List Int) => Q (.exit 2) (St.mk
  [none, none, none, none, some (SV.ptr (nat_lit 0) (nat_lit 0)), none, none, none, none, none, some (SV.ptr (nat_lit 1) (nat_lit 0)), none, none, none, none, none, none, none, none, none, none, none, none, none, none, none, none, none, none, none, none, none, none, none, none, none, none, none, none, none, none, none, none, none, none, none, none, none, none, none, none, none, none, none, none, none, none, none, none, none, none, none, none, none, none, none, none, none, none, none, none, none,
    none, none, none]
  [SObj.cells [SV.bool x41, SV.arr (K.int IntKind.i64) x42 (nat_lit 8)] (nat_lit 101), SObj.cells [SV.bool x43, SV.arr (K.int IntKind.i64) x45 (nat_lit 8)] (nat_lit 101)])) x35 x36 x44 := by kernel_rfl
theorem plus_l1_iter {α : Type} (x37 : Bool) (x38 : List Int) (x39 : Bool) (x40 : List Int) (x41 : Bool) (x42 : List Int) (x43 : Bool) (Q : Ex → St → Option α) : ∀ (n : Nat) (x35 : Int) (x36 : Int) (x44 : List Int), iter (loopStep E (exec E look_rsize plus_l0_lps 400) 94 [false, true, false, true, true, true, true, true] 0 (codeAt E.P 94 [false, true, false, true, true, true, true, true])) n (St.mk
  [none, none, some (SV.ptr (nat_lit 0) (nat_lit 0)), some (SV.ptr (nat_lit 1) (nat_lit 0)), some (SV.ptr (nat_lit 2) (nat_lit 0)), none, none, none, none, none, some (SV.ptr (nat_lit 3) (nat_lit 0)), some (SV.int IntKind.i64 x35), some (SV.int IntKind.i64 x36), none, none, none, none, none, none, none, none, none, none, none, none, none, none, none, none, none, none, none, none, none, none, none, none, none, none, none, none, none, none, none, none, none, none, none, none, none, none, none,
    none, none, none, none, none, none, none, none, none, none, none, none, none, none, none, none, none, none, none, none, none, none, none]
  [SObj.cells [SV.bool x37, SV.arr (K.int IntKind.i64) x38 (nat_lit 8)] (nat_lit 101), SObj.cells [SV.bool x39, SV.arr (K.int IntKind.i64) x40 (nat_lit 8)] (nat_lit 101), SObj.cells [SV.bool x41, SV.arr (K.int IntKind.i64) x42 (nat_lit 8)] (nat_lit 101), SObj.cells [SV.bool x43, SV.arr (K.int IntKind.i64) x44 (nat_lit 8)] (nat_lit 101)]) Q = Go.Proofs.Ytmcifgaaojgheaa.M.plus_l1 x38 x40 (fun (x45 : List Int) => Q (.exit 2) (St.mk
  [none, none, none, none, some (SV.ptr (nat_lit 0) (nat_lit 0)), none, none, none, none, none, some (SV.ptr (nat_lit 1) (nat_lit 0)), none, none, none, none, none, none, none, none, none, none, none, none, none, none, none, none, none, none, none, none, none, none, none, none, none, none, none, none, none, none, none, none, none, none, none, none, none, none, none, none, none, none, none, none, none, none, none, none, none, none, none, none, none, none, none, none, none, none, none, none, none,
    none, none, none]
  [SObj.cells [SV.bool x41, SV.arr (K.int IntKind.i64) x42 (nat_lit 8)] (nat_lit 101), SObj.cells [SV.bool x43, SV.arr (K.int IntKind.i64) x45 (nat_lit 8)] (nat_lit 101)])) n x35 x36 x44
  | 0, _, _, _ => rfl
  | n + 1, x35, x36, x44 => (plus_l1_step_eq x35 x36 x37 x38 x39 x40 x41 x42 x43 x44 (iterK (loopStep E (exec E look_rsize plus_l0_lps 400) 94 [false, true, false, true, true, true, true, true] 0 (codeAt E.P 94 [false, true, false, true, true, true, true, true])) n Q)).trans (congrArg (fun kn => Go.Proofs.Ytmcifgaaojgheaa.M.plus_l1_step x38 x40 kn (fun (x45 : List Int) => Q (.exit 2) (St.mk
  [none, none, none, none, some (SV.ptr (nat_lit 0) (nat_lit 0)), none, none, none, none, none, some (SV.ptr (nat_lit 1) (nat_lit 0)), none, none, none, none, none, none, none, none, none, none, none, none, none, none, none, none, none, none, none, none, none, none, none, none, none, none, none, none, none, none, none, none, none, none, none, none, none, none, none, none, none, none, none, none, none, none, none, none, none, none, none, none, none, none, none, none, none, none, none, none, none,
    none, none, none]
  [SObj.cells [SV.bool x41, SV.arr (K.int IntKind.i64) x42 (nat_lit 8)] (nat_lit 101), SObj.cells [SV.bool x43, SV.arr (K.int IntKind.i64) x45 (nat_lit 8)] (nat_lit 101)])) x35 x36 x44) (funext fun x35 => funext fun x36 => funext fun x44 => plus_l1_iter x37 x38 x39 x40 x41 x42 x43 Q n x35 x36 x44))
noncomputable def plus_l1_go {α : Type} (ds : List D) (Q : Ex → St → Option α) : Option α :=
  dI ds fun x35 ds => dI ds fun x36 ds => dB ds fun x37 ds => dL (K.int IntKind.i64) ds fun x38 ds => dB ds fun x39 ds => dL (K.int IntKind.i64) ds fun x40 ds => dB ds fun x41 ds => dL (K.int IntKind.i64) ds fun x42 ds => dB ds fun x43 ds => dL (K.int IntKind.i64) ds fun x44 ds => dE ds (Go.Proofs.Ytmcifgaaojgheaa.M.plus_l1 x38 x40 (fun (x45 : List Int) => Q (.exit 2) (St.mk
  [none, none, none, none, some (SV.ptr (nat_lit 0) (nat_lit 0)), none, none, none, none, none, some (SV.ptr (nat_lit 1) (nat_lit 0)), none, none, none, none, none, none, none, none, none, none, none, none, none, none, none, none, none, none, none, none, none, none, none, none, none, none, none, none, none, none, none, none, none, none, none, none, none, none, none, none, none, none, none, none, none, none, none, none, none, none, none, none, none, none, none, none, none, none, none, none, none,
    none, none, none]
  [SObj.cells [SV.bool x41, SV.arr (K.int IntKind.i64) x42 (nat_lit 8)] (nat_lit 101), SObj.cells [SV.bool x43, SV.arr (K.int IntKind.i64) x45 (nat_lit 8)] (nat_lit 101)])) (100 + x38.length + x40.length + x42.length + x44.length) x35 x36 x44)
theorem plus_l1_ok {α : Type} : LoopOk E.P 94 [false, true, false, true, true, true, true, true] 0 (lEnt (α := α) (St.mk
  [none, none, some (SV.ptr (nat_lit 0) (nat_lit 0)), some (SV.ptr (nat_lit 1) (nat_lit 0)), some (SV.ptr (nat_lit 2) (nat_lit 0)), none, none, none, none, none, some (SV.ptr (nat_lit 3) (nat_lit 0)), some (SV.int IntKind.i64 (0 : Int)), some (SV.int IntKind.i64 (0 : Int)), none, none, none, none, none, none, none, none, none, none, none, none, none, none, none, none, none, none, none, none, none, none, none, none, none, none, none, none, none, none, none, none, none, none, none, none, none,
    none, none, none, none, none, none, none, none, none, none, none, none, none, none, none, none, none, none, none, none, none, none, none, none, none]
  [SObj.cells [SV.bool false, SV.arr (K.int IntKind.i64) [] (nat_lit 8)] (nat_lit 101), SObj.cells [SV.bool false, SV.arr (K.int IntKind.i64) [] (nat_lit 8)] (nat_lit 101), SObj.cells [SV.bool false, SV.arr (K.int IntKind.i64) [] (nat_lit 8)] (nat_lit 101), SObj.cells [SV.bool false, SV.arr (K.int IntKind.i64) [] (nat_lit 8)] (nat_lit 101)]) plus_l1_go) :=
  lEnt_ok E (exec_sound E E_ok (look_rsize_ok) (plus_l0_lps_ok) 400) fun ds Q r h S hS => by
    unfold plus_l1_go at h
    obtain ⟨x35, ds, rfl, h1⟩ := dI_inv h
    obtain ⟨x36, ds, rfl, h2⟩ := dI_inv h1
    obtain ⟨x37, ds, rfl, h3⟩ := dB_inv h2
    obtain ⟨x38, ds, rfl, h4⟩ := dL_inv h3
    obtain ⟨x39, ds, rfl, h5⟩ := dB_inv h4
    obtain ⟨x40, ds, rfl, h6⟩ := dL_inv h5
    obtain ⟨x41, ds, rfl, h7⟩ := dB_inv h6
    obtain ⟨x42, ds, rfl, h8⟩ := dL_inv h7
    obtain ⟨x43, ds, rfl, h9⟩ := dB_inv h8
    obtain ⟨x44, ds, rfl, h10⟩ := dL_inv h9
    obtain ⟨rfl, hE⟩ := dE_inv h10
    have e : fillS (St.mk
  [none, none, some (SV.ptr (nat_lit 0) (nat_lit 0)), some (SV.ptr (nat_lit 1) (nat_lit 0)), some (SV.ptr (nat_lit 2) (nat_lit 0)), none, none, none, none, none, some (SV.ptr (nat_lit 3) (nat_lit 0)), some (SV.int IntKind.i64 (0 : Int)), some (SV.int IntKind.i64 (0 : Int)), none, none, none, none, none, none, none, none, none, none, none, none, none, none, none, none, none, none, none, none, none, none, none, none, none, none, none, none, none, none, none, none, none, none, none, none, none,
    none, none, none, none, none, none, none, none, none, none, none, none, none, none, none, none, none, none, none, none, none, none, none, none, none]
  [SObj.cells [SV.bool false, SV.arr (K.int IntKind.i64) [] (nat_lit 8)] (nat_lit 101), SObj.cells [SV.bool false, SV.arr (K.int IntKind.i64) [] (nat_lit 8)] (nat_lit 101), SObj.cells [SV.bool false, SV.arr (K.int IntKind.i64) [] (nat_lit 8)] (nat_lit 101), SObj.cells [SV.bool false, SV.arr (K.int IntKind.i64) [] (nat_lit 8)] (nat_lit 101)]) [.i x35, .i x36, .b x37, .l (K.int IntKind.i64) x38, .b x39, .l (K.int IntKind.i64) x40, .b x41, .l (K.int IntKind.i64) x42, .b x43, .l (K.int IntKind.i64) x44] = some (St.mk
  [none, none, some (SV.ptr (nat_lit 0) (nat_lit 0)), some (SV.ptr (nat_lit 1) (nat_lit 0)), some (SV.ptr (nat_lit 2) (nat_lit 0)), none, none, none, none, none, some (SV.ptr (nat_lit 3) (nat_lit 0)), some (SV.int IntKind.i64 x35), some (SV.int IntKind.i64 x36), none, none, none, none, none, none, none, none, none, none, none, none, none, none, none, none, none, none, none, none, none, none, none, none, none, none, none, none, none, none, none, none, none, none, none, none, none, none, none,
    none, none, none, none, none, none, none, none, none, none, none, none, none, none, none, none, none, none, none, none, none, none, none]
  [SObj.cells [SV.bool x37, SV.arr (K.int IntKind.i64) x38 (nat_lit 8)] (nat_lit 101), SObj.cells [SV.bool x39, SV.arr (K.int IntKind.i64) x40 (nat_lit 8)] (nat_lit 101), SObj.cells [SV.bool x41, SV.arr (K.int IntKind.i64) x42 (nat_lit 8)] (nat_lit 101), SObj.cells [SV.bool x43, SV.arr (K.int IntKind.i64) x44 (nat_lit 8)] (nat_lit 101)]) := by kernel_rfl
    rw [e] at hS
    cases hS
    exact ⟨_, (plus_l1_iter x37 x38 x39 x40 x41 x42 x43 Q _ x35 x36 x44).trans hE⟩
noncomputable def plus_l1_lps {α : Type} : LookL α := addLp 94 [false, true, false, true, true, true, true, true] 0 (lEnt (St.mk
  [none, none, some (SV.ptr (nat_lit 0) (nat_lit 0)), some (SV.ptr (nat_lit 1) (nat_lit 0)), some (SV.ptr (nat_lit 2) (nat_lit 0)), none, none, none, none, none, some (SV.ptr (nat_lit 3) (nat_lit 0)), some (SV.int IntKind.i64 (0 : Int)), some (SV.int IntKind.i64 (0 : Int)), none, none, none, none, none, none, none, none, none, none, none, none, none, none, none, none, none, none, none, none, none, none, none, none, none, none, none, none, none, none, none, none, none, none, none, none, none,
    none, none, none, none, none, none, none, none, none, none, none, none, none, none, none, none, none, none, none, none, none, none, none, none, none]
  [SObj.cells [SV.bool false, SV.arr (K.int IntKind.i64) [] (nat_lit 8)] (nat_lit 101), SObj.cells [SV.bool false, SV.arr (K.int IntKind.i64) [] (nat_lit 8)] (nat_lit 101), SObj.cells [SV.bool false, SV.arr (K.int IntKind.i64) [] (nat_lit 8)] (nat_lit 101), SObj.cells [SV.bool false, SV.arr (K.int IntKind.i64) [] (nat_lit 8)] (nat_lit 101)]) plus_l1_go) plus_l0_lps
theorem plus_l1_lps_ok {α : Type} : LoopsOk E.P (plus_l1_lps (α := α)) := addLp_ok plus_l1_ok (plus_l0_lps_ok)

noncomputable def _root_.Go.Proofs.Ytmcifgaaojgheaa.M.plus {α : Type} (an : Bool) (ad : List Int) (bn : Bool) (bd : List Int) (k0 : Bool → List Int → Option α) : Option α :=
  if (an == bn) = true then M.plus_l0 ad bd (fun (x49 : List Int) ↦ k0 an x49) ((100 : Nat) + List.length ad + List.length bd + (8 : Nat) + List.length ad) (0 : Int) (0 : Int) ad
else if V.ok8 ad = true ∧ V.ok8 bd = true then if cLt (V.szD ad bd) (0 : Int) = true then M.plus_l1 bd ad (fun (x50 : List Int) ↦ k0 bn x50) ((100 : Nat) + List.length bd + List.length ad + (8 : Nat) + List.length bd) (0 : Int) (0 : Int) bd else M.plus_l1 ad bd (fun (x51 : List Int) ↦ k0 an x51) ((100 : Nat) + List.length ad + List.length bd + (8 : Nat) + List.length ad) (0 : Int) (0 : Int) ad else none
theorem plus_eq {α : Type} (an : Bool) (ad : List Int) (bn : Bool) (bd : List Int) (Q : SV → Hp → Option α) : callI E look_rsize (exec E look_rsize plus_l1_lps 400) 94 ([SV.agg [SV.bool an, SV.arr (K.int IntKind.i64) ad (nat_lit 8)], SV.agg [SV.bool bn, SV.arr (K.int IntKind.i64) bd (nat_lit 8)]]) ([]) Q = Go.Proofs.Ytmcifgaaojgheaa.M.plus an ad bn bd (fun (x52 : Bool) (x53 : List Int) => Q (SV.agg [SV.bool x52, SV.arr (K.int IntKind.i64) x53 (nat_lit 8)]) ([])) := by kernel_rfl
def plus_sp : List AS := [.val (.agg [.bool false, .arr (.int .i64) [] 8]), .val (.agg [.bool false, .arr (.int .i64) [] 8])]
noncomputable def plus_go {α : Type} (ds : List D) (Q : SV → Hp → Option α) : Option α :=
  dB ds fun an ds => dL (K.int IntKind.i64) ds fun ad ds => dB ds fun bn ds => dL (K.int IntKind.i64) ds fun bd ds => dE ds (Go.Proofs.Ytmcifgaaojgheaa.M.plus an ad bn bd (fun (x52 : Bool) (x53 : List Int) => Q (SV.agg [SV.bool x52, SV.arr (K.int IntKind.i64) x53 (nat_lit 8)]) ([])))
theorem plus_ok {α : Type} : FnOk E.P 94 (fEnt (α := α) plus_sp plus_go) :=
  fEnt_ok E (look_rsize_ok) (exec_sound E E_ok (look_rsize_ok) (plus_l1_lps_ok) 400) fun ds Q r h => by
    unfold plus_go at h
    obtain ⟨an, ds, rfl, h1⟩ := dB_inv h
    obtain ⟨ad, ds, rfl, h2⟩ := dL_inv h1
    obtain ⟨bn, ds, rfl, h3⟩ := dB_inv h2
    obtain ⟨bd, ds, rfl, h4⟩ := dL_inv h3
    obtain ⟨rfl, hE⟩ := dE_inv h4
    exact ⟨[SV.agg [SV.bool an, SV.arr (K.int IntKind.i64) ad (nat_lit 8)], SV.agg [SV.bool bn, SV.arr (K.int IntKind.i64) bd (nat_lit 8)]], [], fun vs => by kernel_rfl, (plus_eq an ad bn bd Q).trans hE⟩
/-- Digit by digit: xs and m times ys and c. -/
def linL (m : Int) : List Int → List Int → Int → List Int
  | x :: xs, y :: ys, c => (x + m * y + c) % 16777216 :: linL m xs ys ((x + m * y + c) / 16777216)
  | _, _, _ => []
theorem linL_len (m : Int) : ∀ (xs ys : List Int) (c : Int), xs.length ≤ ys.length → (linL m xs ys c).length = xs.length
  | [], ys, c, _ => by simp [linL]
  | x :: xs, [], c, h => by simp at h
  | x :: xs, y :: ys, c, h => by simp only [linL, List.length_cons]; rw [linL_len m xs ys _ (by simpa using h)]
theorem linL_ok (m : Int) : ∀ (xs ys : List Int) (c : Int), okD (linL m xs ys c) = true
  | [], ys, c => by simp [linL, okD]
  | x :: xs, [], c => by simp [linL, okD]
  | x :: xs, y :: ys, c => by rw [linL, okD_cons]; exact ⟨by omega, linL_ok m xs ys _⟩
theorem linL_val (m : Int) : ∀ (xs ys : List Int) (c : Int), xs.length ≤ ys.length → val (linL m xs ys c) = (val xs + m * val ys + c) % 16777216 ^ xs.length
  | [], ys, c, _ => by simp [linL, val, Int.emod_one]
  | x :: xs, [], c, h => by simp at h
  | x :: xs, y :: ys, c, h => by
    rw [linL, val, linL_val m xs ys _ (by simpa using h), List.length_cons, pB1, ← mod_split _ _ _ (pB _)]
    congr 1
    simp only [val]
    grind
theorem drop_getD {a : List Int} {i : Nat} (h : i < a.length) : a.drop i = a.getD i 0 :: a.drop (i + 1) := by
  rw [List.drop_eq_getElem_cons h]; simp [List.getD_eq_getElem?_getD, h]
theorem linL_drop (m : Int) {a b : List Int} {i : Nat} (h1 : i < a.length) (h2 : i < b.length) (c : Int) :
    linL m (a.drop i) (b.drop i) c = (a.getD i 0 + m * b.getD i 0 + c) % 16777216 :: linL m (a.drop (i + 1)) (b.drop (i + 1)) ((a.getD i 0 + m * b.getD i 0 + c) / 16777216) := by
  rw [drop_getD h1, drop_getD h2, linL]
theorem plus_l0_val {α : Type} (a b : List Int) (ha : okD a = true) (hb : okD b = true) (la : a.length = 8) (lb : b.length = 8) (k1 : List Int → Option α) : ∀ (fuel i : Nat) (c : Int) (o : List Int), i ≤ 8 → 8 - i < fuel → o.length = 8 → 0 ≤ c → c ≤ 1 →
    M.plus_l0 a b k1 fuel c (i : Int) o = k1 (o.take i ++ linL 1 (a.drop i) (b.drop i) c)
  | 0, i, c, o, h1, h2, _, _, _ => by omega
  | n + 1, i, c, o, h1, h2, ho, hc0, hc1 => by
    unfold M.plus_l0 M.plus_l0_step
    rw [cLt_eq]
    by_cases hi : i < 8
    · have c1 : (i : Int) < 8 := by omega
      have c2 : (0 : Int) ≤ (i : Int) := by omega
      have da := okD_get ha i
      have db := okD_get hb i
      simp only [c1, c2, decide_true, if_true, and_self, Int.toNat_natCast]
      rw [linL_drop 1 (by omega) (by omega), Int.one_mul]
      generalize a.getD i 0 = x at *
      generalize b.getD i 0 = y at *
      rw [IntWalk.i64_in (x + y) (by omega), IntWalk.i64_in (x + y + c) (by omega), Int.tdiv_eq_ediv_of_nonneg (by omega), Int.tmod_eq_emod_of_nonneg (by omega), IntWalk.i64_in ((x + y + c) / 16777216) (by omega), IntWalk.i64_in ((i : Int) + 1) (by omega)]
      have := plus_l0_val a b ha hb la lb k1 n (i + 1) ((x + y + c) / 16777216) (o.set i ((x + y + c) % 16777216)) (by omega) (by omega) (by simpa using ho) (by omega) (by omega)
      push_cast at this
      rw [this, take_set_succ _ (by omega), List.append_assoc, List.singleton_append]
    · have : i = 8 := by omega
      subst this
      have e : ¬ ((8 : Nat) : Int) < 8 := by omega
      simp only [e, decide_false, Bool.false_eq_true, if_false]
      rw [List.take_of_length_le (by omega), List.drop_of_length_le (by omega : a.length ≤ 8), linL, List.append_nil]
      · intro _ _ _ _ _; simp_all
theorem plus_l1_val {α : Type} (a b : List Int) (ha : okD a = true) (hb : okD b = true) (la : a.length = 8) (lb : b.length = 8) (k1 : List Int → Option α) : ∀ (fuel i : Nat) (c : Int) (o : List Int), i ≤ 8 → 8 - i < fuel → o.length = 8 → 0 ≤ c → c ≤ 1 →
    M.plus_l1 a b k1 fuel c (i : Int) o = k1 (o.take i ++ linL (-1) (a.drop i) (b.drop i) (-c))
  | 0, i, c, o, h1, h2, _, _, _ => by omega
  | n + 1, i, c, o, h1, h2, ho, hc0, hc1 => by
    unfold M.plus_l1 M.plus_l1_step
    rw [cLt_eq]
    by_cases hi : i < 8
    · have c1 : (i : Int) < 8 := by omega
      have c2 : (0 : Int) ≤ (i : Int) := by omega
      have da := okD_get ha i
      have db := okD_get hb i
      simp only [c1, c2, decide_true, if_true, and_self, Int.toNat_natCast]
      rw [linL_drop (-1) (by omega) (by omega)]
      generalize a.getD i 0 = x at *
      generalize b.getD i 0 = y at *
      rw [IntWalk.i64_in (x - y) (by omega), IntWalk.i64_in (x - y - c) (by omega), cLt_eq, IntWalk.i64_in ((i : Int) + 1) (by omega), show x + -1 * y + -c = x - y - c by omega]
      by_cases hn : x - y - c < 0
      · simp only [hn, decide_true, if_true]
        rw [IntWalk.i64_in (x - y - c + 16777216) (by omega)]
        have := plus_l1_val a b ha hb la lb k1 n (i + 1) 1 (o.set i (x - y - c + 16777216)) (by omega) (by omega) (by simpa using ho) (by omega) (by omega)
        push_cast at this
        rw [this, take_set_succ _ (by omega), List.append_assoc, List.singleton_append, show (x - y - c) % 16777216 = x - y - c + 16777216 by omega, show (x - y - c) / 16777216 = -1 by omega]
      · simp only [hn, decide_false, Bool.false_eq_true, if_false]
        have := plus_l1_val a b ha hb la lb k1 n (i + 1) 0 (o.set i (x - y - c)) (by omega) (by omega) (by simpa using ho) (by omega) (by omega)
        push_cast at this
        rw [this, take_set_succ _ (by omega), List.append_assoc, List.singleton_append, show (x - y - c) % 16777216 = x - y - c by omega, show (x - y - c) / 16777216 = 0 by omega]
        rfl
    · have : i = 8 := by omega
      subst this
      have e : ¬ ((8 : Nat) : Int) < 8 := by omega
      simp only [e, decide_false, Bool.false_eq_true, if_false]
      rw [List.take_of_length_le (by omega), List.drop_of_length_le (by omega : a.length ≤ 8), linL, List.append_nil]
      · intro _ _ _ _ _; simp_all
/-- A sum's sign and digits. -/
noncomputable def _root_.Go.Proofs.Ytmcifgaaojgheaa.V.plN (an : Bool) (a : List Int) (bn : Bool) (b : List Int) : Bool := if an == bn then an else if val a < val b then bn else an
noncomputable def _root_.Go.Proofs.Ytmcifgaaojgheaa.V.plD (an : Bool) (a : List Int) (bn : Bool) (b : List Int) : List Int := if an == bn then linL 1 a b 0 else if val a < val b then linL (-1) b a 0 else linL (-1) a b 0
theorem plus_v {α : Type} (an : Bool) (a : List Int) (bn : Bool) (b : List Int) (ha : V.ok8 a = true) (hb : V.ok8 b = true) (k0 : Bool → List Int → Option α) : M.plus an a bn b k0 = k0 (V.plN an a bn b) (V.plD an a bn b) := by
  unfold M.plus V.plN V.plD
  have hab := And.intro ha hb
  rw [ok8_iff] at ha hb
  cases hs : (an == bn) with
  | true =>
    simp only [if_true]
    have := plus_l0_val a b ha.2 hb.2 ha.1 hb.1 (fun x => k0 an x) (100 + a.length + b.length + 8 + a.length) 0 0 a (by omega) (by omega) ha.1 (by omega) (by omega)
    simp only [List.drop_zero, List.take_zero, List.nil_append, Int.natCast_zero] at this
    exact this
  | false =>
    simp only [Bool.false_eq_true, if_false, cLt_eq]
    rw [if_pos hab]
    unfold V.szD V.cmp
    by_cases h : val a < val b
    · simp only [h, if_true]
      rw [show decide ((-1 : Int) < 0) = true by decide]
      simp only [if_true]
      have := plus_l1_val b a hb.2 ha.2 hb.1 ha.1 (fun x => k0 bn x) (100 + b.length + a.length + 8 + b.length) 0 0 b (by omega) (by omega) hb.1 (by omega) (by omega)
      simp only [List.drop_zero, List.take_zero, List.nil_append, Int.natCast_zero, Int.neg_zero] at this
      exact this
    · have hc : decide ((if val a < val b then (-1 : Int) else if val b < val a then 1 else 0) < 0) = false := by
        simp only [h, if_false]; split <;> decide
      rw [hc]
      simp only [h, Bool.false_eq_true, if_false]
      have := plus_l1_val a b ha.2 hb.2 ha.1 hb.1 (fun x => k0 an x) (100 + a.length + b.length + 8 + a.length) 0 0 a (by omega) (by omega) ha.1 (by omega) (by omega)
      simp only [List.drop_zero, List.take_zero, List.nil_append, Int.natCast_zero, Int.neg_zero] at this
      exact this
noncomputable def plus_h {α : Type} (ds : List D) (Q : SV → Hp → Option α) : Option α :=
  dB ds fun an ds => dL (K.int IntKind.i64) ds fun ad ds => dB ds fun bn ds => dL (K.int IntKind.i64) ds fun bd ds => dE ds (if V.ok8 ad = true ∧ V.ok8 bd = true then Q (.agg [.bool (V.plN an ad bn bd), .arr (.int .i64) (V.plD an ad bn bd) 8]) ([]) else none)
theorem plus_h_ok {α : Type} : FnOk E.P 94 (fEnt (α := α) plus_sp plus_h) :=
  fEnt_ok E (look_rsize_ok) (exec_sound E E_ok (look_rsize_ok) (plus_l1_lps_ok) 400) fun ds Q r h => by
    unfold plus_h at h
    obtain ⟨an, ds, rfl, h1⟩ := dB_inv h
    obtain ⟨ad, ds, rfl, h2⟩ := dL_inv h1
    obtain ⟨bn, ds, rfl, h3⟩ := dB_inv h2
    obtain ⟨bd, ds, rfl, h4⟩ := dL_inv h3
    obtain ⟨rfl, hE⟩ := dE_inv h4
    split at hE
    · rename_i hg
      exact ⟨[SV.agg [SV.bool an, SV.arr (K.int IntKind.i64) ad (nat_lit 8)], SV.agg [SV.bool bn, SV.arr (K.int IntKind.i64) bd (nat_lit 8)]], [], fun vs => by kernel_rfl, (plus_eq an ad bn bd Q).trans ((plus_v an ad bn bd hg.1 hg.2 _).trans hE)⟩
    · cases hE
noncomputable def look_plus {α : Type} : LookF α := addFn 94 (fEnt plus_sp plus_h) look_rsize
theorem look_plus_ok {α : Type} : LookOk E.P (look_plus (α := α)) := addFn_ok plus_h_ok (look_rsize_ok)
/-- What a number of the document is worth. -/
def wv (n : Bool) (D : List Int) : Int := if n then -val D else val D
theorem plD_ok (an : Bool) {a : List Int} (bn : Bool) {b : List Int} (ha : V.ok8 a = true) (hb : V.ok8 b = true) : V.ok8 (V.plD an a bn b) = true := by
  rw [ok8_iff] at ha hb ⊢
  unfold V.plD
  split
  · exact ⟨by rw [linL_len _ _ _ _ (by omega)]; exact ha.1, linL_ok _ _ _ _⟩
  · split
    · exact ⟨by rw [linL_len _ _ _ _ (by omega)]; exact hb.1, linL_ok _ _ _ _⟩
    · exact ⟨by rw [linL_len _ _ _ _ (by omega)]; exact ha.1, linL_ok _ _ _ _⟩
theorem p8 : (16777216 : Int) ^ 8 = 6277101735386680763835789423207666416102355444464034512896 := by kernel_rfl
theorem pl_val (an : Bool) {a : List Int} (bn : Bool) {b : List Int} (ha : V.ok8 a = true) (hb : V.ok8 b = true) (h1 : val a + val b < 6277101735386680763835789423207666416102355444464034512896) :
    wv (V.plN an a bn b) (V.plD an a bn b) = wv an a + wv bn b ∧ val (V.plD an a bn b) ≤ val a + val b := by
  rw [ok8_iff] at ha hb
  have va := val_bound ha.2
  have vb := val_bound hb.2
  unfold V.plN V.plD wv
  cases hs : (an == bn) with
  | true =>
    have : an = bn := by simpa using hs
    subst this
    simp only [if_true]
    rw [linL_val 1 a b 0 (by omega), ha.1, p8, Int.one_mul, Int.add_zero, Int.emod_eq_of_lt (by omega) h1]
    cases an <;> simp <;> omega
  | false =>
    have hne : an = !bn := by cases an <;> cases bn <;> simp_all
    subst hne
    simp only [Bool.false_eq_true, if_false]
    by_cases h : val a < val b
    · simp only [h, if_true]
      rw [linL_val (-1) b a 0 (by omega), hb.1, p8, Int.emod_eq_of_lt (by omega) (by omega)]
      cases bn <;> simp <;> omega
    · simp only [h, if_false]
      rw [linL_val (-1) a b 0 (by omega), ha.1, p8, Int.emod_eq_of_lt (by omega) (by omega)]
      cases bn <;> simp <;> omega
end Go.Proofs.Ytmcifgaaojgheaa.Sx
