/- The document's own numbers: Less, Down. -/
import Derived.Test.YtkjellhkamfciaaFxR3
namespace Go.Proofs.Ytkjellhkamfciaa.Sx
open Go
set_option maxRecDepth 20000
set_option linter.unusedVariables false
set_option linter.unusedSimpArgs false
noncomputable def _root_.Go.Proofs.Ytkjellhkamfciaa.V.wval (n : Bool) (D : List Int) : Int := wv n D
def _root_.Go.Proofs.Ytkjellhkamfciaa.V.two (a b : List Int) : Bool := V.ok8 a && V.ok8 b && decide (val a + val b < 6277101735386680763835789423207666416102355444464034512896)
noncomputable def _root_.Go.Proofs.Ytkjellhkamfciaa.V.ls (an : Bool) (a : List Int) (bn : Bool) (b : List Int) : Bool := decide (wv an a < wv bn b)
noncomputable def _root_.Go.Proofs.Ytkjellhkamfciaa.M.down_l0_step {α : Type} (x22 : Int) (x26 : Int) (x29 : List Int) (kn : Int → Int → Int → Option α) (k0 : Int → Int → Option α) (k2 : Int → Int → Option α) (x24 : Int) (x25 : Int) (x27 : Int) : Option α :=
  if cLt (0 : Int) x27 = true then
  if (0 : Int) ≤ x26 ∧ x26 < (8 : Int) then
    if x27 = (0 : Int) then none
    else
      if cEq (Int.tmod (IntKind.wrap .i64 (Int.tdiv (List.getD x29 (Int.toNat x26) (0 : Int)) x27)) (2 : Int)) (1 : Int) = true then
        if cLt (2305843009213693951 : Int) x24 = true then k0 x24 (IntKind.wrap .i64 (IntKind.wrap .i64 ((2 : Int) * x25) + (1 : Int)))
        else
          if cLe x22 (IntKind.wrap .i64 (IntKind.wrap .i64 ((2 : Int) * x25) + (1 : Int))) = true then kn (IntKind.wrap .i64 (IntKind.wrap .i64 ((2 : Int) * x24) + (1 : Int))) (IntKind.wrap .i64 (IntKind.wrap .i64 (IntKind.wrap .i64 ((2 : Int) * x25) + (1 : Int)) - x22)) (IntKind.wrap .i64 (Int.tdiv x27 (2 : Int)))
          else kn (IntKind.wrap .i64 ((2 : Int) * x24)) (IntKind.wrap .i64 (IntKind.wrap .i64 ((2 : Int) * x25) + (1 : Int))) (IntKind.wrap .i64 (Int.tdiv x27 (2 : Int)))
      else
        if cLt (2305843009213693951 : Int) x24 = true then k0 x24 (IntKind.wrap .i64 ((2 : Int) * x25))
        else if cLe x22 (IntKind.wrap .i64 ((2 : Int) * x25)) = true then kn (IntKind.wrap .i64 (IntKind.wrap .i64 ((2 : Int) * x24) + (1 : Int))) (IntKind.wrap .i64 (IntKind.wrap .i64 ((2 : Int) * x25) - x22)) (IntKind.wrap .i64 (Int.tdiv x27 (2 : Int))) else kn (IntKind.wrap .i64 ((2 : Int) * x24)) (IntKind.wrap .i64 ((2 : Int) * x25)) (IntKind.wrap .i64 (Int.tdiv x27 (2 : Int)))
  else none
else k2 x24 x25
noncomputable def _root_.Go.Proofs.Ytkjellhkamfciaa.M.down_l0 {α : Type} (x22 : Int) (x26 : Int) (x29 : List Int) (k0 : Int → Int → Option α) (k2 : Int → Int → Option α) : Nat → Int → Int → Int → Option α
  | 0, _, _, _ => none
  | n + 1, x24, x25, x27 => M.down_l0_step x22 x26 x29 (M.down_l0 x22 x26 x29 k0 k2 n) k0 k2 x24 x25 x27
theorem down_l0_step_eq {α : Type} (x22 : Int) (x23 : Bool) (x24 : Int) (x25 : Int) (x26 : Int) (x27 : Int) (x28 : Bool) (x29 : List Int) (Q : Ex → St → Option α) : (loopStep E (exec E look_rtimes noLps 400) 73 [false, true, true, false, false, true, false, false, true, false, true, true, true, true, true] 0 (codeAt E.P 73 [false, true, true, false, false, true, false, false, true, false, true, true, true, true, true])) (St.mk (none :: some (SV.int .i64 x22) :: some (SV.ptr (nat_lit 0) (nat_lit 0)) :: nn 3 (some (SV.bool x23) :: some (SV.int .i64 x24) :: some (SV.int .i64 x25) :: some (SV.int .i64 x26) :: some (SV.int .i64 x27) :: nn 66 ([])))
  [.cells [SV.bool x28, SV.arr (K.int IntKind.i64) x29 (nat_lit 8)] (nat_lit 96)]) Q = M.down_l0_step x22 x26 x29 (fun (x34 : Int) (x35 : Int) (x36 : Int) => Q .normal (St.mk (none :: some (SV.int .i64 x22) :: some (SV.ptr (nat_lit 0) (nat_lit 0)) :: nn 3 (some (SV.bool x23) :: some (SV.int .i64 x34) :: some (SV.int .i64 x35) :: some (SV.int .i64 x26) :: some (SV.int .i64 x36) :: nn 66 ([])))
  [.cells [SV.bool x28, SV.arr (K.int IntKind.i64) x29 (nat_lit 8)] (nat_lit 96)])) (fun (x30 : Int) (x31 : Int) => Q .ret (St.mk (none :: some (SV.int .i64 x22) :: some (SV.ptr (nat_lit 0) (nat_lit 0)) :: none :: some (SV.int .i64 (0 : Int)) :: some (SV.bool false) :: some (SV.bool x23) :: some (SV.int .i64 x30) :: some (SV.int .i64 x31) :: some (SV.int .i64 x26) :: nn 67 ([]))
  [.cells [SV.bool x28, SV.arr (K.int IntKind.i64) x29 (nat_lit 8)] (nat_lit 96)])) (fun (x32 : Int) (x33 : Int) => Q (.exit 2) (St.mk (none :: some (SV.int .i64 x22) :: some (SV.ptr (nat_lit 0) (nat_lit 0)) :: nn 3 (some (SV.bool x23) :: some (SV.int .i64 x32) :: some (SV.int .i64 x33) :: some (SV.int .i64 x26) :: nn 67 ([])))
  [.cells [SV.bool x28, SV.arr (K.int IntKind.i64) x29 (nat_lit 8)] (nat_lit 96)])) x24 x25 x27 := by kernel_rfl
theorem down_l0_iter {α : Type} (x22 : Int) (x23 : Bool) (x26 : Int) (x28 : Bool) (x29 : List Int) (Q : Ex → St → Option α) : ∀ (n : Nat) (x24 : Int) (x25 : Int) (x27 : Int), iter (loopStep E (exec E look_rtimes noLps 400) 73 [false, true, true, false, false, true, false, false, true, false, true, true, true, true, true] 0 (codeAt E.P 73 [false, true, true, false, false, true, false, false, true, false, true, true, true, true, true])) n (St.mk (none :: some (SV.int .i64 x22) :: some (SV.ptr (nat_lit 0) (nat_lit 0)) :: nn 3 (some (SV.bool x23) :: some (SV.int .i64 x24) :: some (SV.int .i64 x25) :: some (SV.int .i64 x26) :: some (SV.int .i64 x27) :: nn 66 ([])))
  [.cells [SV.bool x28, SV.arr (K.int IntKind.i64) x29 (nat_lit 8)] (nat_lit 96)]) Q = M.down_l0 x22 x26 x29 (fun (x30 : Int) (x31 : Int) => Q .ret (St.mk (none :: some (SV.int .i64 x22) :: some (SV.ptr (nat_lit 0) (nat_lit 0)) :: none :: some (SV.int .i64 (0 : Int)) :: some (SV.bool false) :: some (SV.bool x23) :: some (SV.int .i64 x30) :: some (SV.int .i64 x31) :: some (SV.int .i64 x26) :: nn 67 ([]))
  [.cells [SV.bool x28, SV.arr (K.int IntKind.i64) x29 (nat_lit 8)] (nat_lit 96)])) (fun (x32 : Int) (x33 : Int) => Q (.exit 2) (St.mk (none :: some (SV.int .i64 x22) :: some (SV.ptr (nat_lit 0) (nat_lit 0)) :: nn 3 (some (SV.bool x23) :: some (SV.int .i64 x32) :: some (SV.int .i64 x33) :: some (SV.int .i64 x26) :: nn 67 ([])))
  [.cells [SV.bool x28, SV.arr (K.int IntKind.i64) x29 (nat_lit 8)] (nat_lit 96)])) n x24 x25 x27
  | 0, _, _, _ => rfl
  | n + 1, x24, x25, x27 => (down_l0_step_eq x22 x23 x24 x25 x26 x27 x28 x29 (iterK (loopStep E (exec E look_rtimes noLps 400) 73 [false, true, true, false, false, true, false, false, true, false, true, true, true, true, true] 0 (codeAt E.P 73 [false, true, true, false, false, true, false, false, true, false, true, true, true, true, true])) n Q)).trans (congrArg (fun kn => M.down_l0_step x22 x26 x29 kn (fun (x30 : Int) (x31 : Int) => Q .ret (St.mk (none :: some (SV.int .i64 x22) :: some (SV.ptr (nat_lit 0) (nat_lit 0)) :: none :: some (SV.int .i64 (0 : Int)) :: some (SV.bool false) :: some (SV.bool x23) :: some (SV.int .i64 x30) :: some (SV.int .i64 x31) :: some (SV.int .i64 x26) :: nn 67 ([]))
  [.cells [SV.bool x28, SV.arr (K.int IntKind.i64) x29 (nat_lit 8)] (nat_lit 96)])) (fun (x32 : Int) (x33 : Int) => Q (.exit 2) (St.mk (none :: some (SV.int .i64 x22) :: some (SV.ptr (nat_lit 0) (nat_lit 0)) :: nn 3 (some (SV.bool x23) :: some (SV.int .i64 x32) :: some (SV.int .i64 x33) :: some (SV.int .i64 x26) :: nn 67 ([])))
  [.cells [SV.bool x28, SV.arr (K.int IntKind.i64) x29 (nat_lit 8)] (nat_lit 96)])) x24 x25 x27) (funext fun x24 => funext fun x25 => funext fun x27 => down_l0_iter x22 x23 x26 x28 x29 Q n x24 x25 x27))
noncomputable def down_l0_go {α : Type} (ds : List D) (Q : Ex → St → Option α) : Option α :=
  dI ds fun x22 ds => dB ds fun x23 ds => dI ds fun x24 ds => dI ds fun x25 ds => dI ds fun x26 ds => dI ds fun x27 ds => dB ds fun x28 ds => dL (K.int IntKind.i64) ds fun x29 ds => dE ds (M.down_l0 x22 x26 x29 (fun (x30 : Int) (x31 : Int) => Q .ret (St.mk (none :: some (SV.int .i64 x22) :: some (SV.ptr (nat_lit 0) (nat_lit 0)) :: none :: some (SV.int .i64 (0 : Int)) :: some (SV.bool false) :: some (SV.bool x23) :: some (SV.int .i64 x30) :: some (SV.int .i64 x31) :: some (SV.int .i64 x26) :: nn 67 ([]))
  [.cells [SV.bool x28, SV.arr (K.int IntKind.i64) x29 (nat_lit 8)] (nat_lit 96)])) (fun (x32 : Int) (x33 : Int) => Q (.exit 2) (St.mk (none :: some (SV.int .i64 x22) :: some (SV.ptr (nat_lit 0) (nat_lit 0)) :: nn 3 (some (SV.bool x23) :: some (SV.int .i64 x32) :: some (SV.int .i64 x33) :: some (SV.int .i64 x26) :: nn 67 ([])))
  [.cells [SV.bool x28, SV.arr (K.int IntKind.i64) x29 (nat_lit 8)] (nat_lit 96)])) (100 + x29.length) x24 x25 x27)
theorem down_l0_ok {α : Type} : LoopOk E.P 73 [false, true, true, false, false, true, false, false, true, false, true, true, true, true, true] 0 (lEnt (α := α) (St.mk (none :: some (SV.int .i64 (0 : Int)) :: some (SV.ptr (nat_lit 0) (nat_lit 0)) :: nn 3 (some (SV.bool false) :: some (SV.int .i64 (0 : Int)) :: some (SV.int .i64 (0 : Int)) :: some (SV.int .i64 (0 : Int)) :: some (SV.int .i64 (0 : Int)) :: nn 66 ([])))
  [.cells [SV.bool false, SV.arr (K.int IntKind.i64) [] (nat_lit 8)] (nat_lit 96)]) down_l0_go) :=
  lEnt_ok E (exec_sound E E_ok (look_rtimes_ok) (noLps_ok _) 400) fun ds Q r h S hS => by
    unfold down_l0_go at h
    obtain ⟨x22, ds, rfl, h1⟩ := dI_inv h
    obtain ⟨x23, ds, rfl, h2⟩ := dB_inv h1
    obtain ⟨x24, ds, rfl, h3⟩ := dI_inv h2
    obtain ⟨x25, ds, rfl, h4⟩ := dI_inv h3
    obtain ⟨x26, ds, rfl, h5⟩ := dI_inv h4
    obtain ⟨x27, ds, rfl, h6⟩ := dI_inv h5
    obtain ⟨x28, ds, rfl, h7⟩ := dB_inv h6
    obtain ⟨x29, ds, rfl, h8⟩ := dL_inv h7
    obtain ⟨rfl, hE⟩ := dE_inv h8
    have e : fillS (St.mk (none :: some (SV.int .i64 (0 : Int)) :: some (SV.ptr (nat_lit 0) (nat_lit 0)) :: nn 3 (some (SV.bool false) :: some (SV.int .i64 (0 : Int)) :: some (SV.int .i64 (0 : Int)) :: some (SV.int .i64 (0 : Int)) :: some (SV.int .i64 (0 : Int)) :: nn 66 ([])))
  [.cells [SV.bool false, SV.arr (K.int IntKind.i64) [] (nat_lit 8)] (nat_lit 96)]) [.i x22, .b x23, .i x24, .i x25, .i x26, .i x27, .b x28, .l (K.int IntKind.i64) x29] = some (St.mk (none :: some (SV.int .i64 x22) :: some (SV.ptr (nat_lit 0) (nat_lit 0)) :: nn 3 (some (SV.bool x23) :: some (SV.int .i64 x24) :: some (SV.int .i64 x25) :: some (SV.int .i64 x26) :: some (SV.int .i64 x27) :: nn 66 ([])))
  [.cells [SV.bool x28, SV.arr (K.int IntKind.i64) x29 (nat_lit 8)] (nat_lit 96)]) := by kernel_rfl
    rw [e] at hS
    cases hS
    exact ⟨_, (down_l0_iter x22 x23 x26 x28 x29 Q _ x24 x25 x27).trans hE⟩
noncomputable def down_l0_lps {α : Type} : LookL α := addLp 73 [false, true, true, false, false, true, false, false, true, false, true, true, true, true, true] 0 (lEnt (St.mk (none :: some (SV.int .i64 (0 : Int)) :: some (SV.ptr (nat_lit 0) (nat_lit 0)) :: nn 3 (some (SV.bool false) :: some (SV.int .i64 (0 : Int)) :: some (SV.int .i64 (0 : Int)) :: some (SV.int .i64 (0 : Int)) :: some (SV.int .i64 (0 : Int)) :: nn 66 ([])))
  [.cells [SV.bool false, SV.arr (K.int IntKind.i64) [] (nat_lit 8)] (nat_lit 96)]) down_l0_go) noLps
theorem down_l0_lps_ok {α : Type} : LoopsOk E.P (down_l0_lps (α := α)) := addLp_ok down_l0_ok (noLps_ok _)

noncomputable def _root_.Go.Proofs.Ytkjellhkamfciaa.M.down_l1_step {α : Type} (x37 : Int) (x43 : List Int) (kn : Int → Int → Int → Option α) (k1 : Int → Int → Option α) (k2 : Int → Int → Option α) (x39 : Int) (x40 : Int) (x41 : Int) : Option α :=
  if cLe (0 : Int) x41 = true then
  if (0 : Int) ≤ x41 ∧ x41 < (8 : Int) then
    if cEq (List.getD x43 (Int.toNat x41) (0 : Int)) (0 : Int) = true then
      if cEq x39 (0 : Int) = true then if cEq x40 (0 : Int) = true then kn x39 x40 (IntKind.wrap .i64 (x41 - (1 : Int))) else M.down_l0 x37 x41 x43 (fun (x44 x45 : Int) ↦ k1 x44 x45) (fun (x46 x47 : Int) ↦ kn x46 x47 (IntKind.wrap .i64 (x41 - (1 : Int)))) ((100 : Nat) + List.length x43) x39 x40 (8388608 : Int)
      else M.down_l0 x37 x41 x43 (fun (x48 x49 : Int) ↦ k1 x48 x49) (fun (x50 x51 : Int) ↦ kn x50 x51 (IntKind.wrap .i64 (x41 - (1 : Int)))) ((100 : Nat) + List.length x43) x39 x40 (8388608 : Int)
    else M.down_l0 x37 x41 x43 (fun (x52 x53 : Int) ↦ k1 x52 x53) (fun (x54 x55 : Int) ↦ kn x54 x55 (IntKind.wrap .i64 (x41 - (1 : Int)))) ((100 : Nat) + List.length x43) x39 x40 (8388608 : Int)
  else none
else k2 x39 x40
noncomputable def _root_.Go.Proofs.Ytkjellhkamfciaa.M.down_l1 {α : Type} (x37 : Int) (x43 : List Int) (k1 : Int → Int → Option α) (k2 : Int → Int → Option α) : Nat → Int → Int → Int → Option α
  | 0, _, _, _ => none
  | n + 1, x39, x40, x41 => M.down_l1_step x37 x43 (M.down_l1 x37 x43 k1 k2 n) k1 k2 x39 x40 x41
theorem down_l1_step_eq {α : Type} (x37 : Int) (x38 : Bool) (x39 : Int) (x40 : Int) (x41 : Int) (x42 : Bool) (x43 : List Int) (Q : Ex → St → Option α) : (loopStep E (exec E look_rtimes down_l0_lps 400) 73 [false, true, false, true, true, true, true, true] 0 (codeAt E.P 73 [false, true, false, true, true, true, true, true])) (St.mk (none :: some (SV.int .i64 x37) :: some (SV.ptr (nat_lit 0) (nat_lit 0)) :: nn 3 (some (SV.bool x38) :: some (SV.int .i64 x39) :: some (SV.int .i64 x40) :: some (SV.int .i64 x41) :: nn 67 ([])))
  [.cells [SV.bool x42, SV.arr (K.int IntKind.i64) x43 (nat_lit 8)] (nat_lit 96)]) Q = M.down_l1_step x37 x43 (fun (x60 : Int) (x61 : Int) (x62 : Int) => Q .normal (St.mk (none :: some (SV.int .i64 x37) :: some (SV.ptr (nat_lit 0) (nat_lit 0)) :: nn 3 (some (SV.bool x38) :: some (SV.int .i64 x60) :: some (SV.int .i64 x61) :: some (SV.int .i64 x62) :: nn 67 ([])))
  [.cells [SV.bool x42, SV.arr (K.int IntKind.i64) x43 (nat_lit 8)] (nat_lit 96)])) (fun (x56 : Int) (x57 : Int) => Q .ret (St.mk (nn 4 (some (SV.int .i64 (0 : Int)) :: some (SV.bool false) :: some (SV.bool x38) :: some (SV.int .i64 x56) :: some (SV.int .i64 x57) :: nn 68 ([])))
  [])) (fun (x58 : Int) (x59 : Int) => Q (.exit 0) (St.mk (nn 6 (some (SV.bool x38) :: some (SV.int .i64 x58) :: some (SV.int .i64 x59) :: nn 68 ([])))
  [])) x39 x40 x41 := by kernel_rfl
theorem down_l1_iter {α : Type} (x37 : Int) (x38 : Bool) (x42 : Bool) (x43 : List Int) (Q : Ex → St → Option α) : ∀ (n : Nat) (x39 : Int) (x40 : Int) (x41 : Int), iter (loopStep E (exec E look_rtimes down_l0_lps 400) 73 [false, true, false, true, true, true, true, true] 0 (codeAt E.P 73 [false, true, false, true, true, true, true, true])) n (St.mk (none :: some (SV.int .i64 x37) :: some (SV.ptr (nat_lit 0) (nat_lit 0)) :: nn 3 (some (SV.bool x38) :: some (SV.int .i64 x39) :: some (SV.int .i64 x40) :: some (SV.int .i64 x41) :: nn 67 ([])))
  [.cells [SV.bool x42, SV.arr (K.int IntKind.i64) x43 (nat_lit 8)] (nat_lit 96)]) Q = M.down_l1 x37 x43 (fun (x56 : Int) (x57 : Int) => Q .ret (St.mk (nn 4 (some (SV.int .i64 (0 : Int)) :: some (SV.bool false) :: some (SV.bool x38) :: some (SV.int .i64 x56) :: some (SV.int .i64 x57) :: nn 68 ([])))
  [])) (fun (x58 : Int) (x59 : Int) => Q (.exit 0) (St.mk (nn 6 (some (SV.bool x38) :: some (SV.int .i64 x58) :: some (SV.int .i64 x59) :: nn 68 ([])))
  [])) n x39 x40 x41
  | 0, _, _, _ => rfl
  | n + 1, x39, x40, x41 => (down_l1_step_eq x37 x38 x39 x40 x41 x42 x43 (iterK (loopStep E (exec E look_rtimes down_l0_lps 400) 73 [false, true, false, true, true, true, true, true] 0 (codeAt E.P 73 [false, true, false, true, true, true, true, true])) n Q)).trans (congrArg (fun kn => M.down_l1_step x37 x43 kn (fun (x56 : Int) (x57 : Int) => Q .ret (St.mk (nn 4 (some (SV.int .i64 (0 : Int)) :: some (SV.bool false) :: some (SV.bool x38) :: some (SV.int .i64 x56) :: some (SV.int .i64 x57) :: nn 68 ([])))
  [])) (fun (x58 : Int) (x59 : Int) => Q (.exit 0) (St.mk (nn 6 (some (SV.bool x38) :: some (SV.int .i64 x58) :: some (SV.int .i64 x59) :: nn 68 ([])))
  [])) x39 x40 x41) (funext fun x39 => funext fun x40 => funext fun x41 => down_l1_iter x37 x38 x42 x43 Q n x39 x40 x41))
noncomputable def down_l1_go {α : Type} (ds : List D) (Q : Ex → St → Option α) : Option α :=
  dI ds fun x37 ds => dB ds fun x38 ds => dI ds fun x39 ds => dI ds fun x40 ds => dI ds fun x41 ds => dB ds fun x42 ds => dL (K.int IntKind.i64) ds fun x43 ds => dE ds (M.down_l1 x37 x43 (fun (x56 : Int) (x57 : Int) => Q .ret (St.mk (nn 4 (some (SV.int .i64 (0 : Int)) :: some (SV.bool false) :: some (SV.bool x38) :: some (SV.int .i64 x56) :: some (SV.int .i64 x57) :: nn 68 ([])))
  [])) (fun (x58 : Int) (x59 : Int) => Q (.exit 0) (St.mk (nn 6 (some (SV.bool x38) :: some (SV.int .i64 x58) :: some (SV.int .i64 x59) :: nn 68 ([])))
  [])) (100 + x43.length) x39 x40 x41)
theorem down_l1_ok {α : Type} : LoopOk E.P 73 [false, true, false, true, true, true, true, true] 0 (lEnt (α := α) (St.mk (none :: some (SV.int .i64 (0 : Int)) :: some (SV.ptr (nat_lit 0) (nat_lit 0)) :: nn 3 (some (SV.bool false) :: some (SV.int .i64 (0 : Int)) :: some (SV.int .i64 (0 : Int)) :: some (SV.int .i64 (0 : Int)) :: nn 67 ([])))
  [.cells [SV.bool false, SV.arr (K.int IntKind.i64) [] (nat_lit 8)] (nat_lit 96)]) down_l1_go) :=
  lEnt_ok E (exec_sound E E_ok (look_rtimes_ok) (down_l0_lps_ok) 400) fun ds Q r h S hS => by
    unfold down_l1_go at h
    obtain ⟨x37, ds, rfl, h1⟩ := dI_inv h
    obtain ⟨x38, ds, rfl, h2⟩ := dB_inv h1
    obtain ⟨x39, ds, rfl, h3⟩ := dI_inv h2
    obtain ⟨x40, ds, rfl, h4⟩ := dI_inv h3
    obtain ⟨x41, ds, rfl, h5⟩ := dI_inv h4
    obtain ⟨x42, ds, rfl, h6⟩ := dB_inv h5
    obtain ⟨x43, ds, rfl, h7⟩ := dL_inv h6
    obtain ⟨rfl, hE⟩ := dE_inv h7
    have e : fillS (St.mk (none :: some (SV.int .i64 (0 : Int)) :: some (SV.ptr (nat_lit 0) (nat_lit 0)) :: nn 3 (some (SV.bool false) :: some (SV.int .i64 (0 : Int)) :: some (SV.int .i64 (0 : Int)) :: some (SV.int .i64 (0 : Int)) :: nn 67 ([])))
  [.cells [SV.bool false, SV.arr (K.int IntKind.i64) [] (nat_lit 8)] (nat_lit 96)]) [.i x37, .b x38, .i x39, .i x40, .i x41, .b x42, .l (K.int IntKind.i64) x43] = some (St.mk (none :: some (SV.int .i64 x37) :: some (SV.ptr (nat_lit 0) (nat_lit 0)) :: nn 3 (some (SV.bool x38) :: some (SV.int .i64 x39) :: some (SV.int .i64 x40) :: some (SV.int .i64 x41) :: nn 67 ([])))
  [.cells [SV.bool x42, SV.arr (K.int IntKind.i64) x43 (nat_lit 8)] (nat_lit 96)]) := by kernel_rfl
    rw [e] at hS
    cases hS
    exact ⟨_, (down_l1_iter x37 x38 x42 x43 Q _ x39 x40 x41).trans hE⟩
noncomputable def down_l1_lps {α : Type} : LookL α := addLp 73 [false, true, false, true, true, true, true, true] 0 (lEnt (St.mk (none :: some (SV.int .i64 (0 : Int)) :: some (SV.ptr (nat_lit 0) (nat_lit 0)) :: nn 3 (some (SV.bool false) :: some (SV.int .i64 (0 : Int)) :: some (SV.int .i64 (0 : Int)) :: some (SV.int .i64 (0 : Int)) :: nn 67 ([])))
  [.cells [SV.bool false, SV.arr (K.int IntKind.i64) [] (nat_lit 8)] (nat_lit 96)]) down_l1_go) down_l0_lps
theorem down_l1_lps_ok {α : Type} : LoopsOk E.P (down_l1_lps (α := α)) := addLp_ok down_l1_ok (down_l0_lps_ok)

noncomputable def _root_.Go.Proofs.Ytkjellhkamfciaa.M.down {α : Type} (neg : Bool) (d : List Int) (c : Int) (k0 : Int → Bool → Option α) : Option α :=
  if cLt c (0 : Int) = true then
  M.down_l1 (IntKind.wrap .i64 ((0 : Int) - c)) d (fun (x63 x64 : Int) ↦ k0 (0 : Int) false)
    (fun (x65 x66 : Int) ↦
      if (!neg) = true then
        if cLt (0 : Int) x66 = true then if cLt (4611686018427387903 : Int) (IntKind.wrap .i64 (x65 + (1 : Int))) = true then k0 (0 : Int) false else if (!neg) = true then k0 (IntKind.wrap .i64 ((0 : Int) - IntKind.wrap .i64 (x65 + (1 : Int)))) true else k0 (IntKind.wrap .i64 (x65 + (1 : Int))) true else if cLt (4611686018427387903 : Int) x65 = true then k0 (0 : Int) false else if (!neg) = true then k0 (IntKind.wrap .i64 ((0 : Int) - x65)) true else k0 x65 true
      else if cLt (4611686018427387903 : Int) x65 = true then k0 (0 : Int) false else if (!neg) = true then k0 (IntKind.wrap .i64 ((0 : Int) - x65)) true else k0 x65 true)
    ((100 : Nat) + List.length d) (0 : Int) (0 : Int) (7 : Int)
else
  M.down_l1 c d (fun (x67 x68 : Int) ↦ k0 (0 : Int) false)
    (fun (x69 x70 : Int) ↦
      if neg = true then
        if cLt (0 : Int) x70 = true then if cLt (4611686018427387903 : Int) (IntKind.wrap .i64 (x69 + (1 : Int))) = true then k0 (0 : Int) false else if neg = true then k0 (IntKind.wrap .i64 ((0 : Int) - IntKind.wrap .i64 (x69 + (1 : Int)))) true else k0 (IntKind.wrap .i64 (x69 + (1 : Int))) true else if cLt (4611686018427387903 : Int) x69 = true then k0 (0 : Int) false else if neg = true then k0 (IntKind.wrap .i64 ((0 : Int) - x69)) true else k0 x69 true
      else if cLt (4611686018427387903 : Int) x69 = true then k0 (0 : Int) false else if neg = true then k0 (IntKind.wrap .i64 ((0 : Int) - x69)) true else k0 x69 true)
    ((100 : Nat) + List.length d) (0 : Int) (0 : Int) (7 : Int)
theorem down_eq {α : Type} (neg : Bool) (d : List Int) (c : Int) (Q : SV → Hp → Option α) : callI E look_rtimes (exec E look_rtimes down_l1_lps 400) 73 ([SV.agg [SV.bool neg, SV.arr (K.int IntKind.i64) d (nat_lit 8)], SV.int .i64 c]) ([]) Q = M.down neg d c (fun (x71 : Int) (x72 : Bool) => Q (SV.tup [SV.int .i64 x71, SV.bool x72]) ([])) := by kernel_rfl
def down_sp : List AS := [.val (.agg [.bool false, .arr (.int .i64) [] 8]), .val (.int .i64 0)]
noncomputable def down_go {α : Type} (ds : List D) (Q : SV → Hp → Option α) : Option α :=
  dB ds fun neg ds => dL (K.int IntKind.i64) ds fun d ds => dI ds fun c ds => dE ds (M.down neg d c (fun (x71 : Int) (x72 : Bool) => Q (SV.tup [SV.int .i64 x71, SV.bool x72]) ([])))
theorem down_ok {α : Type} : FnOk E.P 73 (fEnt (α := α) down_sp down_go) :=
  fEnt_ok E (look_rtimes_ok) (exec_sound E E_ok (look_rtimes_ok) (down_l1_lps_ok) 400) fun ds Q r h => by
    unfold down_go at h
    obtain ⟨neg, ds, rfl, h1⟩ := dB_inv h
    obtain ⟨d, ds, rfl, h2⟩ := dL_inv h1
    obtain ⟨c, ds, rfl, h3⟩ := dI_inv h2
    obtain ⟨rfl, hE⟩ := dE_inv h3
    exact ⟨[SV.agg [SV.bool neg, SV.arr (K.int IntKind.i64) d (nat_lit 8)], SV.int .i64 c], [], fun vs => by kernel_rfl, (down_eq neg d c Q).trans hE⟩
def bitOf : Nat → Int
  | 0 => 0
  | k + 1 => 2 ^ k
theorem bitOf0 : bitOf 0 = 0 := rfl
theorem bitOfS (k : Nat) : bitOf (k + 1) = 2 ^ k := rfl
theorem bitOf_half (k : Nat) : Int.tdiv (2 ^ k) 2 = bitOf k := by
  cases k with
  | zero => decide
  | succ k =>
    rw [bitOfS, Int.tdiv_eq_ediv_of_nonneg (Int.le_of_lt (Int.pow_pos (by decide))), Int.pow_succ]
    omega
theorem p2 (k : Nat) : (0 : Int) < 2 ^ k := Int.pow_pos (by decide)
theorem p2le {k n : Nat} (h : k ≤ n) : (2 : Int) ^ k ≤ 2 ^ n := by
  obtain ⟨m, rfl⟩ := Nat.le.dest h
  rw [Int.pow_add]
  have := Int.mul_le_mul_of_nonneg_left (show (1 : Int) ≤ 2 ^ m by have := p2 m; omega) (Int.le_of_lt (p2 k))
  omega
theorem p23 : (2 : Int) ^ 23 = 8388608 := by kernel_rfl
theorem down_l0_val {α : Type} (cc : Int) (j : Nat) (d : List Int) (hd : okD d = true) (hj : j < 8) (hc0 : 0 < cc) (hc1 : cc ≤ 4611686018427387903) (k0 k2 : Int → Int → Option α) : ∀ (m fuel : Nat) (T : Int), m ≤ 24 → m < fuel → 0 ≤ T → T / cc < 4611686018427387904 →
    (∃ q r, M.down_l0 cc (j : Int) d k0 k2 fuel (T / cc) (T % cc) (bitOf m) = k0 q r ∧ 4611686018427387904 ≤ (T * 2 ^ m + d.getD j 0 % 2 ^ m) / cc) ∨
    (M.down_l0 cc (j : Int) d k0 k2 fuel (T / cc) (T % cc) (bitOf m) = k2 ((T * 2 ^ m + d.getD j 0 % 2 ^ m) / cc) ((T * 2 ^ m + d.getD j 0 % 2 ^ m) % cc) ∧ (T * 2 ^ m + d.getD j 0 % 2 ^ m) / cc < 4611686018427387904)
  | 0, fuel, T, h1, h2, hT, hq => by
    obtain ⟨f, rfl⟩ : ∃ f, fuel = f + 1 := ⟨fuel - 1, by omega⟩
    right
    unfold M.down_l0 M.down_l0_step
    simp only [bitOf0, cLt_eq, Int.lt_irrefl, decide_false, Bool.false_eq_true, if_false, Int.pow_zero, Int.emod_one, Int.mul_one, Int.add_zero, true_and]
    exact hq
  | m + 1, fuel, T, h1, h2, hT, hq => by
    obtain ⟨f, rfl⟩ : ∃ f, fuel = f + 1 := ⟨fuel - 1, by omega⟩
    have da := okD_get hd j
    have hp := p2 m
    have hp24 : (2 : Int) ^ m ≤ 8388608 := Int.le_trans (p2le (show m ≤ 23 by omega)) (Int.le_of_eq p23)
    have hps : (2 : Int) ^ (m + 1) = 2 * 2 ^ m := by rw [Int.pow_succ]; omega
    have hq0 : 0 ≤ T / cc := Int.ediv_nonneg hT (by omega)
    have hr0 : 0 ≤ T % cc := Int.emod_nonneg T (by omega)
    have hr1 : T % cc < cc := Int.emod_lt_of_pos T hc0
    have hTe : T / cc * cc + T % cc = T := Int.ediv_mul_add_emod T cc
    generalize ha : d.getD j 0 = a at *
    -- the bit
    have hb0 : 0 ≤ a / 2 ^ m := Int.ediv_nonneg da.1 (by omega)
    have hble : a / 2 ^ m ≤ a := Int.ediv_le_self _ da.1
    have hbit : a % 2 ^ (m + 1) = a / 2 ^ m % 2 * 2 ^ m + a % 2 ^ m := by
      have e1 : a / 2 ^ m * 2 ^ m + a % 2 ^ m = a := Int.ediv_mul_add_emod a _
      have e2 : 2 * (a / 2 ^ m / 2) + a / 2 ^ m % 2 = a / 2 ^ m := Int.mul_ediv_add_emod _ 2
      have hm0 : 0 ≤ a % 2 ^ m := Int.emod_nonneg a (by omega)
      have hm1 : a % 2 ^ m < 2 ^ m := Int.emod_lt_of_pos a hp
      have e3 : a = (a / 2 ^ m % 2 * 2 ^ m + a % 2 ^ m) + 2 ^ (m + 1) * (a / 2 ^ m / 2) := by
        rw [hps]; grind
      have e4 : a / 2 ^ m % 2 = 0 ∨ a / 2 ^ m % 2 = 1 := by omega
      conv => lhs; rw [e3]
      rw [Int.add_mul_emod_self_left]
      apply Int.emod_eq_of_lt
      · rcases e4 with h | h <;> rw [h] <;> omega
      · rw [hps]; rcases e4 with h | h <;> rw [h] <;> omega
    generalize hβ : a / 2 ^ m % 2 = β at *
    have hβ' : β = 0 ∨ β = 1 := by omega
    -- what comes next
    have hnext : T * 2 ^ (m + 1) + a % 2 ^ (m + 1) = (2 * T + β) * 2 ^ m + a % 2 ^ m := by rw [hbit, hps]; grind
    have hm0 : 0 ≤ a % 2 ^ m := Int.emod_nonneg a (by omega)
    rw [hnext]
    have hexit : 2305843009213693951 < T / cc → 4611686018427387904 ≤ ((2 * T + β) * 2 ^ m + a % 2 ^ m) / cc := by
      intro h
      apply Int.le_ediv_of_mul_le hc0
      have g1 : 2305843009213693952 * cc ≤ T / cc * cc := Int.mul_le_mul_of_nonneg_right (by omega) (by omega)
      have g2 : (2 * T + β) * 1 ≤ (2 * T + β) * 2 ^ m := Int.mul_le_mul_of_nonneg_left (by omega) (by omega)
      omega
    have hstep : T / cc ≤ 2305843009213693951 → (2 * T + β) / cc = (if cc ≤ 2 * (T % cc) + β then 2 * (T / cc) + 1 else 2 * (T / cc)) ∧ (2 * T + β) % cc = (if cc ≤ 2 * (T % cc) + β then 2 * (T % cc) + β - cc else 2 * (T % cc) + β) := by
      intro h
      split
      · have e : 2 * T + β = (2 * (T % cc) + β - cc) + cc * (2 * (T / cc) + 1) := by
          have : cc * (2 * (T / cc) + 1) = 2 * (T / cc * cc) + cc := by grind
          omega
        constructor
        · rw [e, Int.add_mul_ediv_left _ _ (by omega), Int.ediv_eq_zero_of_lt (by omega) (by omega)]; omega
        · rw [e, Int.add_mul_emod_self_left]; exact Int.emod_eq_of_lt (by omega) (by omega)
      · have e : 2 * T + β = (2 * (T % cc) + β) + cc * (2 * (T / cc)) := by
          have : cc * (2 * (T / cc)) = 2 * (T / cc * cc) := by grind
          omega
        constructor
        · rw [e, Int.add_mul_ediv_left _ _ (by omega), Int.ediv_eq_zero_of_lt (by omega) (by omega)]; omega
        · rw [e, Int.add_mul_emod_self_left]; exact Int.emod_eq_of_lt (by omega) (by omega)
    have ih := down_l0_val cc j d hd hj hc0 hc1 k0 k2 m f (2 * T + β) (by omega) (by omega) (by omega)
    rw [ha] at ih
    conv => enter [1, 1, q, 1, r]; lhs; unfold M.down_l0 M.down_l0_step
    conv => enter [2]; lhs; lhs; unfold M.down_l0 M.down_l0_step
    have hj0 : (0 : Int) ≤ (j : Int) ∧ (j : Int) < 8 := by omega
    have hbit0 : ¬ (2 : Int) ^ m = 0 := by omega
    have hdig : Int.tmod (IntKind.wrap IntKind.i64 (Int.tdiv a (2 ^ m))) 2 = β := by
      rw [Int.tdiv_eq_ediv_of_nonneg da.1, IntWalk.i64_in _ (by omega), Int.tmod_eq_emod_of_nonneg hb0]; exact hβ
    have w2 : IntKind.wrap .i64 (2 * (T % cc)) = 2 * (T % cc) := IntWalk.i64_in _ (by omega)
    have w3 : IntKind.wrap .i64 (2 * (T % cc) + 1) = 2 * (T % cc) + 1 := IntWalk.i64_in _ (by omega)
    have w4 : IntKind.wrap .i64 (Int.tdiv (2 ^ m) 2) = bitOf m := by
      rw [bitOf_half]
      apply IntWalk.i64_in
      cases m with
      | zero => rw [bitOf0]; omega
      | succ k => rw [bitOfS]; have g1 := p2 k; have g2 : (2 : Int) ^ k ≤ 8388608 := Int.le_trans (p2le (show k ≤ 23 by omega)) (Int.le_of_eq p23); omega
    simp only [bitOfS, cLt_eq, cLe_eq, cEq_eq, hp, hj0, hbit0, Int.toNat_natCast, ha, hdig, w2, w3, w4, decide_true, if_true, if_false, and_self]
    by_cases hbig : 2305843009213693951 < T / cc
    · left
      rcases hβ' with h | h
      · exact ⟨T / cc, 2 * (T % cc), by simp [h, hbig], hexit hbig⟩
      · exact ⟨T / cc, 2 * (T % cc) + 1, by simp [h, hbig], hexit hbig⟩
    · obtain ⟨s1, s2⟩ := hstep (by omega)
      have w5 : IntKind.wrap .i64 (2 * (T / cc)) = 2 * (T / cc) := IntWalk.i64_in _ (by omega)
      have w6 : IntKind.wrap .i64 (2 * (T / cc) + 1) = 2 * (T / cc) + 1 := IntWalk.i64_in _ (by omega)
      have hq' : (2 * T + β) / cc < 4611686018427387904 := by rw [s1]; split <;> omega
      have ih := ih hq'
      rw [s1, s2] at ih
      simp only [hbig, decide_false, Bool.false_eq_true, if_false, w5, w6]
      rcases hβ' with h | h
      · subst h
        simp only [Int.add_zero] at ih ⊢
        have e : ((0 : Int) == 1) = false := by decide
        simp only [e, Bool.false_eq_true, if_false]
        by_cases hge : cc ≤ 2 * (T % cc)
        · have w7 : IntKind.wrap .i64 (2 * (T % cc) - cc) = 2 * (T % cc) - cc := IntWalk.i64_in _ (by omega)
          simp only [hge, decide_true, if_true, w7] at ih ⊢
          exact ih
        · simp only [hge, decide_false, Bool.false_eq_true, if_false] at ih ⊢
          exact ih
      · subst h
        simp only [beq_self_eq_true, if_true]
        by_cases hge : cc ≤ 2 * (T % cc) + 1
        · have w7 : IntKind.wrap .i64 (2 * (T % cc) + 1 - cc) = 2 * (T % cc) + 1 - cc := IntWalk.i64_in _ (by omega)
          simp only [hge, decide_true, if_true, w7] at ih ⊢
          exact ih
        · simp only [hge, decide_false, Bool.false_eq_true, if_false] at ih ⊢
          exact ih
theorem p24 : (2 : Int) ^ 24 = 16777216 := by kernel_rfl
theorem val_drop_le {D : List Int} (h : okD D = true) (m : Nat) : val (D.drop m) ≤ val D := by
  have e := val_append (D.take m) (D.drop m)
  rw [List.take_append_drop] at e
  have h1 := val_bound (okD_take h m)
  have h2 := val_bound (okD_drop h m)
  have := Int.mul_le_mul_of_nonneg_right (show (1 : Int) ≤ 16777216 ^ (D.take m).length by have := pB (D.take m).length; omega) h2.1
  omega
theorem down_l1_val {α : Type} (cc : Int) (d : List Int) (hd : okD d = true) (ld : d.length = 8) (hc0 : 0 < cc) (hc1 : cc ≤ 4611686018427387903) (k1 k2 : Int → Int → Option α) : ∀ (m fuel : Nat), m ≤ 8 → m < fuel → val (d.drop m) / cc < 4611686018427387904 →
    (∃ q r, M.down_l1 cc d k1 k2 fuel (val (d.drop m) / cc) (val (d.drop m) % cc) ((m : Int) - 1) = k1 q r ∧ 4611686018427387904 ≤ val d / cc) ∨
    (M.down_l1 cc d k1 k2 fuel (val (d.drop m) / cc) (val (d.drop m) % cc) ((m : Int) - 1) = k2 (val d / cc) (val d % cc) ∧ val d / cc < 4611686018427387904)
  | 0, fuel, h1, h2, hq => by
    obtain ⟨f, rfl⟩ : ∃ f, fuel = f + 1 := ⟨fuel - 1, by omega⟩
    right
    unfold M.down_l1 M.down_l1_step
    have e : ¬ (0 : Int) ≤ ((0 : Nat) : Int) - 1 := by omega
    rw [List.drop_zero] at hq ⊢
    simp only [cLe_eq, e, decide_false, Bool.false_eq_true, if_false, true_and]
    exact hq
  | m + 1, fuel, h1, h2, hq => by
    obtain ⟨f, rfl⟩ : ∃ f, fuel = f + 1 := ⟨fuel - 1, by omega⟩
    have e0 : (((m + 1 : Nat) : Int) - 1) = (m : Int) := by omega
    rw [e0]
    have dm := okD_get hd m
    have hT0 := (val_bound (okD_drop hd (m + 1))).1
    have hT'0 := (val_bound (okD_drop hd m)).1
    have hT' : val (d.drop m) = val (d.drop (m + 1)) * 2 ^ 24 + d.getD m 0 % 2 ^ 24 := by
      rw [drop_getD (by omega : m < d.length), val, p24]; omega
    have hTe : val (d.drop (m + 1)) / cc * cc + val (d.drop (m + 1)) % cc = val (d.drop (m + 1)) := Int.ediv_mul_add_emod _ cc
    have ih := down_l1_val cc d hd ld hc0 hc1 k1 k2 m f (by omega) (by omega)
    have hle : val (d.drop m) / cc ≤ val d / cc := Int.ediv_le_ediv hc0 (val_drop_le hd m)
    have w1 : IntKind.wrap .i64 ((m : Int) - 1) = (m : Int) - 1 := IntWalk.i64_in _ (by omega)
    -- the digit's bits
    have hR : (∃ q r, M.down_l0 cc (m : Int) d (fun x y => k1 x y) (fun x y => M.down_l1 cc d k1 k2 f x y ((m : Int) - 1)) (100 + d.length) (val (d.drop (m + 1)) / cc) (val (d.drop (m + 1)) % cc) 8388608 = k1 q r ∧ 4611686018427387904 ≤ val d / cc) ∨
        (M.down_l0 cc (m : Int) d (fun x y => k1 x y) (fun x y => M.down_l1 cc d k1 k2 f x y ((m : Int) - 1)) (100 + d.length) (val (d.drop (m + 1)) / cc) (val (d.drop (m + 1)) % cc) 8388608 = k2 (val d / cc) (val d % cc) ∧ val d / cc < 4611686018427387904) := by
      have hb : (8388608 : Int) = bitOf 24 := p23.symm
      rw [hb]
      rcases down_l0_val cc m d hd (by omega) hc0 hc1 (fun x y => k1 x y) (fun x y => M.down_l1 cc d k1 k2 f x y ((m : Int) - 1)) 24 (100 + d.length) (val (d.drop (m + 1))) (by omega) (by omega) hT0 hq with ⟨q, r, g1, g2⟩ | ⟨g1, g2⟩
      · rw [← hT'] at g2
        exact .inl ⟨q, r, g1, by omega⟩
      · rw [← hT'] at g1 g2
        rw [g1]
        exact ih g2
    conv => enter [1, 1, q, 1, r]; lhs; unfold M.down_l1 M.down_l1_step
    conv => enter [2]; lhs; lhs; unfold M.down_l1 M.down_l1_step
    have c1 : (0 : Int) ≤ (m : Int) := by omega
    have c2 : (m : Int) < 8 := by omega
    simp only [cLe_eq, cEq_eq, c1, c2, decide_true, if_true, and_self, Int.toNat_natCast, w1]
    by_cases z1 : d.getD m 0 = 0
    · by_cases z2 : val (d.drop (m + 1)) / cc = 0
      · by_cases z3 : val (d.drop (m + 1)) % cc = 0
        · have hz : val (d.drop m) = 0 := by
            rw [z2, z3] at hTe
            rw [hT', z1, ← hTe]; simp
          rw [hz] at ih
          have := ih (by rw [Int.zero_ediv]; omega)
          rw [Int.zero_ediv, Int.zero_emod] at this
          simp only [z1, z2, z3, beq_self_eq_true, if_true]
          exact this
        · have f3 : (val (d.drop (m + 1)) % cc == 0) = false := by simpa using z3
          rw [z2] at hR
          simp only [z1, z2, f3, beq_self_eq_true, if_true, Bool.false_eq_true, if_false]
          exact hR
      · have f2 : (val (d.drop (m + 1)) / cc == 0) = false := by simpa using z2
        simp only [z1, f2, beq_self_eq_true, if_true, Bool.false_eq_true, if_false]
        exact hR
    · have : (d.getD m 0 == 0) = false := by simpa using z1
      simp only [this, Bool.false_eq_true, if_false]
      exact hR
def _root_.Go.Proofs.Ytkjellhkamfciaa.V.sm (o : Option Int) : Bool := o.isSome
noncomputable def _root_.Go.Proofs.Ytkjellhkamfciaa.V.dn (n : Bool) (d : List Int) (c : Int) : Option Int := V.tl (Int.fdiv (wv n d) c)
/-- What Down does with a quotient and a rest. -/
theorem down_fin {α : Type} (N : Bool) (X cc : Int) (hX : 0 ≤ X) (hc0 : 0 < cc) (hq : X / cc < 4611686018427387904) (k0 : Int → Bool → Option α) :
    (if N = true then
        if cLt (0 : Int) (X % cc) = true then
          if cLt (4611686018427387903 : Int) (IntKind.wrap IntKind.i64 (X / cc + (1 : Int))) = true then k0 (0 : Int) false
          else
            if N = true then k0 (IntKind.wrap IntKind.i64 ((0 : Int) - IntKind.wrap IntKind.i64 (X / cc + (1 : Int)))) true
            else k0 (IntKind.wrap IntKind.i64 (X / cc + (1 : Int))) true
        else
          if cLt (4611686018427387903 : Int) (X / cc) = true then k0 (0 : Int) false else if N = true then k0 (IntKind.wrap IntKind.i64 ((0 : Int) - X / cc)) true else k0 (X / cc) true
      else
        if cLt (4611686018427387903 : Int) (X / cc) = true then k0 (0 : Int) false else if N = true then k0 (IntKind.wrap IntKind.i64 ((0 : Int) - X / cc)) true else k0 (X / cc) true) =
      k0 (V.gv (V.tl ((if N then -X else X) / cc))) (V.sm (V.tl ((if N then -X else X) / cc))) := by
  have hq0 : 0 ≤ X / cc := Int.ediv_nonneg hX (by omega)
  have hm0 : 0 ≤ X % cc := Int.emod_nonneg X (by omega)
  have hm1 : X % cc < cc := Int.emod_lt_of_pos X hc0
  have hd : X / cc * cc + X % cc = X := Int.ediv_mul_add_emod X cc
  have hneg : (-X) / cc = if 0 < X % cc then -(X / cc) - 1 else -(X / cc) := by
    split
    · rename_i h
      apply Int.ediv_eq_iff_of_pos hc0 |>.2
      have e : (-(X / cc) - 1) * cc = -(X / cc * cc) - cc := by grind
      constructor <;> grind
    · rename_i h
      have e : X = cc * (X / cc) := by rw [Int.mul_comm]; omega
      have : -X = cc * (-(X / cc)) := by rw [Int.mul_neg, ← e]
      rw [this, Int.mul_ediv_cancel_left _ (by omega)]
  simp only [cLt_eq]
  unfold V.tl V.gv V.sm
  cases N with
  | false =>
    simp only [Bool.false_eq_true, if_false]
    have h1 : ¬ 4611686018427387903 < X / cc := by omega
    have h2 : isG (X / cc) = false := by rw [isG_false]; omega
    simp [h1, h2]
  | true =>
    simp only [if_true]
    rw [hneg]
    by_cases c0 : 0 < X % cc
    · simp only [c0, decide_true, if_true]
      rw [IntWalk.i64_in (X / cc + 1) (by omega)]
      by_cases c1 : 4611686018427387903 < X / cc + 1
      · have h2 : isG (-(X / cc) - 1) = true := by rw [isG_iff]; omega
        simp [c1, h2]
      · have h2 : isG (-(X / cc) - 1) = false := by rw [isG_false]; omega
        rw [IntWalk.i64_in (0 - (X / cc + 1)) (by omega)]
        simp only [c1, h2, decide_false, Bool.false_eq_true, if_false, Option.getD_some, Option.isSome_some]
        rw [show (0 : Int) - (X / cc + 1) = -(X / cc) - 1 by omega]
    · simp only [c0, decide_false, Bool.false_eq_true, if_false]
      have h1 : ¬ 4611686018427387903 < X / cc := by omega
      have h2 : isG (-(X / cc)) = false := by rw [isG_false]; omega
      rw [IntWalk.i64_in (0 - X / cc) (by omega)]
      simp only [h1, h2, decide_false, Bool.false_eq_true, if_false, Option.getD_some, Option.isSome_some]
      rw [show (0 : Int) - X / cc = -(X / cc) by omega]
theorem down_main {α : Type} (N : Bool) (cc : Int) (d : List Int) (hd : V.ok8 d = true) (hc0 : 0 < cc) (hc1 : cc ≤ 4611686018427387903) (k0 : Int → Bool → Option α) (k2 : Int → Int → Option α)
    (hk : ∀ X, 0 ≤ X → X / cc < 4611686018427387904 → k2 (X / cc) (X % cc) = k0 (V.gv (V.tl ((if N then -X else X) / cc))) (V.sm (V.tl ((if N then -X else X) / cc)))) :
    M.down_l1 cc d (fun _ _ => k0 0 false) k2 (100 + d.length) 0 0 7 = k0 (V.gv (V.tl (wv N d / cc))) (V.sm (V.tl (wv N d / cc))) := by
  rw [ok8_iff] at hd
  have v := val_bound hd.2
  have e8 : d.drop 8 = [] := List.drop_of_length_le (by omega)
  have h := down_l1_val cc d hd.2 hd.1 hc0 hc1 (fun _ _ => k0 0 false) k2 8 (100 + d.length) (by omega) (by omega) (by rw [e8, val, Int.zero_ediv]; omega)
  rw [e8, val, Int.zero_ediv, Int.zero_emod, show (((8 : Nat) : Int) - 1) = 7 by rfl] at h
  rcases h with ⟨_, _, g1, g2⟩ | ⟨g1, g2⟩
  · rw [g1]
    have hg : isG (wv N d / cc) = true := by
      rw [isG_iff]
      unfold wv
      cases N with
      | false => simp only [Bool.false_eq_true, if_false]; omega
      | true =>
        simp only [if_true]
        left
        have : (-val d) / cc ≤ -(val d / cc) := by
          have h1 : (-val d) / cc * cc + (-val d) % cc = -val d := Int.ediv_mul_add_emod _ cc
          have h2 : val d / cc * cc + val d % cc = val d := Int.ediv_mul_add_emod _ cc
          have h3 : 0 ≤ (-val d) % cc := Int.emod_nonneg _ (by omega)
          have h4 : 0 ≤ val d % cc := Int.emod_nonneg _ (by omega)
          by_cases hlt : (-val d) / cc ≤ -(val d / cc)
          · exact hlt
          · have : (-(val d / cc) + 1) * cc ≤ (-val d) / cc * cc := Int.mul_le_mul_of_nonneg_right (by omega) (by omega)
            have e : (-(val d / cc) + 1) * cc = -(val d / cc * cc) + cc := by grind
            omega
        omega
    unfold V.tl V.gv V.sm
    simp [hg]
  · rw [g1, hk _ v.1 g2]
    rfl
theorem down_v {α : Type} (n : Bool) (d : List Int) (c : Int) (hd : V.ok8 d = true) (h0 : c ≠ 0) (hc : -4611686018427387903 ≤ c ∧ c ≤ 4611686018427387903) (k0 : Int → Bool → Option α) : M.down n d c k0 = k0 (V.gv (V.dn n d c)) (V.sm (V.dn n d c)) := by
  unfold M.down V.dn
  rw [cLt_eq]
  by_cases hn : c < 0
  · simp only [hn, decide_true, if_true]
    rw [IntWalk.i64_in (0 - c) (by omega)]
    have hf : Int.fdiv (wv n d) c = wv (!n) d / (0 - c) := by
      rw [← Int.neg_fdiv_neg, fdiv_pos _ _ (by omega), Int.zero_sub]
      unfold wv; cases n <;> simp
    rw [hf]
    exact down_main (!n) (0 - c) d hd (by omega) (by omega) k0 _ (fun X hX hq => down_fin (!n) X (0 - c) hX (by omega) hq k0)
  · simp only [hn, decide_false, Bool.false_eq_true, if_false]
    rw [fdiv_pos _ _ (by omega)]
    exact down_main n c d hd (by omega) (by omega) k0 _ (fun X hX hq => down_fin n X c hX (by omega) hq k0)
noncomputable def down_h {α : Type} (ds : List D) (Q : SV → Hp → Option α) : Option α :=
  dB ds fun neg ds => dL (K.int IntKind.i64) ds fun d ds => dI ds fun c ds => dE ds (if V.ok8 d = true ∧ c ≠ 0 ∧ -4611686018427387903 ≤ c ∧ c ≤ 4611686018427387903 then Q (.tup [.int .i64 (V.gv (V.dn neg d c)), .bool (V.sm (V.dn neg d c))]) ([]) else none)
theorem down_h_ok {α : Type} : FnOk E.P 73 (fEnt (α := α) down_sp down_h) :=
  fEnt_ok E (look_rtimes_ok) (exec_sound E E_ok (look_rtimes_ok) (down_l1_lps_ok) 400) fun ds Q r h => by
    unfold down_h at h
    obtain ⟨neg, ds, rfl, h1⟩ := dB_inv h
    obtain ⟨d, ds, rfl, h2⟩ := dL_inv h1
    obtain ⟨c, ds, rfl, h3⟩ := dI_inv h2
    obtain ⟨rfl, hE⟩ := dE_inv h3
    split at hE
    · rename_i hg
      exact ⟨[SV.agg [SV.bool neg, SV.arr (K.int IntKind.i64) d (nat_lit 8)], SV.int .i64 c], [], fun vs => by kernel_rfl, (down_eq neg d c Q).trans ((down_v neg d c hg.1 hg.2.1 hg.2.2 _).trans hE)⟩
    · cases hE
noncomputable def look_down {α : Type} : LookF α := addFn 73 (fEnt down_sp down_h) look_rtimes
theorem look_down_ok {α : Type} : LookOk E.P (look_down (α := α)) := addFn_ok down_h_ok (look_rtimes_ok)
end Go.Proofs.Ytkjellhkamfciaa.Sx
