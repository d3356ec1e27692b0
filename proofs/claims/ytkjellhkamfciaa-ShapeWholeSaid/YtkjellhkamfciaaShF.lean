/- shape: cores. -/
import Derived.Test.YtkjellhkamfciaaShE
namespace Go.Proofs.Ytkjellhkamfciaa.Sx
open Go
set_option maxRecDepth 20000
set_option linter.unusedVariables false
set_option linter.unusedSimpArgs false
noncomputable def _root_.Go.Proofs.Ytkjellhkamfciaa.M.core_l0_step {α : Type} (x59 : Int) (x62 : Int) (x68 : Int) (x80 : List Int) (kn : Int → L3 → Option α) (k1 : L3 → Option α) (x63 : Int) (x76 : L3) : Option α :=
  if cLt x63 x62 = true then if (0 : Int) ≤ x63 ∧ x63 < (↑(List.length x80) : Int) then if (List.length x76 + ((1 : Nat) + (1 : Nat))) * (24 : Nat) ≤ (140737488355328 : Nat) then kn (IntKind.wrap .i64 (x63 + (1 : Int))) (x76 ++ [(x59, List.getD x80 (Int.toNat x63) (0 : Int), IntKind.wrap .i64 ((0 : Int) - x68)), (x59, List.getD x80 (Int.toNat x63) (0 : Int), x68)]) else none else none else k1 x76
noncomputable def _root_.Go.Proofs.Ytkjellhkamfciaa.M.core_l0 {α : Type} (x59 : Int) (x62 : Int) (x68 : Int) (x80 : List Int) (k1 : L3 → Option α) : Nat → Int → L3 → Option α
  | 0, _, _ => none
  | n + 1, x63, x76 => M.core_l0_step x59 x62 x68 x80 (M.core_l0 x59 x62 x68 x80 k1 n) k1 x63 x76
theorem core_l0_step_eq {α : Type} (x59 : Int) (x60 : Int) (x61 : Int) (x62 : Int) (x63 : Int) (x64 : Int) (x65 : Int) (x66 : Int) (x67 : Int) (x68 : Int) (x69 : Value) (x70 : L3) (x71 : Int) (x72 : L3) (x73 : L3) (x74 : L3) (x75 : Int) (x76 : L3) (x77 : L3) (x78 : L3) (x79 : List Int) (x80 : List Int) (Q : Ex → St → Option α) : (loopStep E (exec E look_check noLps 400) 13 [false, true, true, false, false, true, true, false, false, true, false, false, true, true, true, true, true, false, true, false, true, true, true] 0 (codeAt E.P 13 [false, true, true, false, false, true, true, false, false, true, false, false, true, true, true, true, true, false, true, false, true, true, true])) (St.mk (none :: some (SV.ptr (nat_lit 0) (nat_lit 0)) :: some (SV.ptr (nat_lit 1) (nat_lit 0)) :: none :: none :: some (SV.ptr (nat_lit 5) (nat_lit 0)) :: none :: some (SV.int .i64 x59) :: nn 43 (some (SV.sl (nat_lit 9)) :: some (SV.int .i64 x60) :: some (SV.int .i64 x61) :: nn 10 (some (SV.sl (nat_lit 10)) :: some (SV.int .i64 x62) :: some (SV.int .i64 x63) :: nn 40 ([]))))
  [.cells [SV.int .i64 x64, SV.int .i64 x65, SV.int .i64 x66, SV.int .i64 x67, SV.int .i64 x68, SV.ros x69 kP x70] (nat_lit 26), .cells [SV.sl (nat_lit 2), SV.sl (nat_lit 3), SV.sl (nat_lit 4), SV.int .i64 x71] (nat_lit 31), .seq kP x72 (nat_lit 23),
    .seq kP x73 (nat_lit 23), .seq kP x74 (nat_lit 23), .cells [SV.sl (nat_lit 6), SV.sl (nat_lit 7), SV.sl (nat_lit 8), SV.int .i64 x75] (nat_lit 31), .seq kP x76 (nat_lit 23), .seq kP x77 (nat_lit 23),
    .seq kP x78 (nat_lit 23), .seq (K.int IntKind.i64) x79 (nat_lit 3), .seq (K.int IntKind.i64) x80 (nat_lit 3)]) Q = M.core_l0_step x59 x62 x68 x80 (fun (x82 : Int) (x83 : L3) => Q .normal (St.mk (none :: some (SV.ptr (nat_lit 0) (nat_lit 0)) :: some (SV.ptr (nat_lit 1) (nat_lit 0)) :: none :: none :: some (SV.ptr (nat_lit 5) (nat_lit 0)) :: none :: some (SV.int .i64 x59) :: nn 43 (some (SV.sl (nat_lit 9)) :: some (SV.int .i64 x60) :: some (SV.int .i64 x61) :: nn 10 (some (SV.sl (nat_lit 10)) :: some (SV.int .i64 x62) :: some (SV.int .i64 x82) :: nn 40 ([]))))
  [.cells [SV.int .i64 x64, SV.int .i64 x65, SV.int .i64 x66, SV.int .i64 x67, SV.int .i64 x68, SV.ros x69 kP x70] (nat_lit 26), .cells [SV.sl (nat_lit 2), SV.sl (nat_lit 3), SV.sl (nat_lit 4), SV.int .i64 x71] (nat_lit 31), .seq kP x72 (nat_lit 23),
    .seq kP x73 (nat_lit 23), .seq kP x74 (nat_lit 23), .cells [SV.sl (nat_lit 6), SV.sl (nat_lit 7), SV.sl (nat_lit 8), SV.int .i64 x75] (nat_lit 31), .seq kP x83 (nat_lit 23), .seq kP x77 (nat_lit 23),
    .seq kP x78 (nat_lit 23), .seq (K.int IntKind.i64) x79 (nat_lit 3), .seq (K.int IntKind.i64) x80 (nat_lit 3)])) (fun (x81 : L3) => Q (.exit 3) (St.mk (none :: some (SV.ptr (nat_lit 0) (nat_lit 0)) :: some (SV.ptr (nat_lit 1) (nat_lit 0)) :: none :: none :: some (SV.ptr (nat_lit 5) (nat_lit 0)) :: nn 45 (some (SV.sl (nat_lit 9)) :: some (SV.int .i64 x60) :: some (SV.int .i64 x61) :: nn 53 ([])))
  [.cells [SV.int .i64 x64, SV.int .i64 x65, SV.int .i64 x66, SV.int .i64 x67, SV.int .i64 x68, SV.ros x69 kP x70] (nat_lit 26), .cells [SV.sl (nat_lit 2), SV.sl (nat_lit 3), SV.sl (nat_lit 4), SV.int .i64 x71] (nat_lit 31), .seq kP x72 (nat_lit 23),
    .seq kP x73 (nat_lit 23), .seq kP x74 (nat_lit 23), .cells [SV.sl (nat_lit 6), SV.sl (nat_lit 7), SV.sl (nat_lit 8), SV.int .i64 x75] (nat_lit 31), .seq kP x81 (nat_lit 23), .seq kP x77 (nat_lit 23),
    .seq kP x78 (nat_lit 23), .seq (K.int IntKind.i64) x79 (nat_lit 3)])) x63 x76 := by kernel_rfl
theorem core_l0_iter {α : Type} (x59 : Int) (x60 : Int) (x61 : Int) (x62 : Int) (x64 : Int) (x65 : Int) (x66 : Int) (x67 : Int) (x68 : Int) (x69 : Value) (x70 : L3) (x71 : Int) (x72 : L3) (x73 : L3) (x74 : L3) (x75 : Int) (x77 : L3) (x78 : L3) (x79 : List Int) (x80 : List Int) (Q : Ex → St → Option α) : ∀ (n : Nat) (x63 : Int) (x76 : L3), iter (loopStep E (exec E look_check noLps 400) 13 [false, true, true, false, false, true, true, false, false, true, false, false, true, true, true, true, true, false, true, false, true, true, true] 0 (codeAt E.P 13 [false, true, true, false, false, true, true, false, false, true, false, false, true, true, true, true, true, false, true, false, true, true, true])) n (St.mk (none :: some (SV.ptr (nat_lit 0) (nat_lit 0)) :: some (SV.ptr (nat_lit 1) (nat_lit 0)) :: none :: none :: some (SV.ptr (nat_lit 5) (nat_lit 0)) :: none :: some (SV.int .i64 x59) :: nn 43 (some (SV.sl (nat_lit 9)) :: some (SV.int .i64 x60) :: some (SV.int .i64 x61) :: nn 10 (some (SV.sl (nat_lit 10)) :: some (SV.int .i64 x62) :: some (SV.int .i64 x63) :: nn 40 ([]))))
  [.cells [SV.int .i64 x64, SV.int .i64 x65, SV.int .i64 x66, SV.int .i64 x67, SV.int .i64 x68, SV.ros x69 kP x70] (nat_lit 26), .cells [SV.sl (nat_lit 2), SV.sl (nat_lit 3), SV.sl (nat_lit 4), SV.int .i64 x71] (nat_lit 31), .seq kP x72 (nat_lit 23),
    .seq kP x73 (nat_lit 23), .seq kP x74 (nat_lit 23), .cells [SV.sl (nat_lit 6), SV.sl (nat_lit 7), SV.sl (nat_lit 8), SV.int .i64 x75] (nat_lit 31), .seq kP x76 (nat_lit 23), .seq kP x77 (nat_lit 23),
    .seq kP x78 (nat_lit 23), .seq (K.int IntKind.i64) x79 (nat_lit 3), .seq (K.int IntKind.i64) x80 (nat_lit 3)]) Q = M.core_l0 x59 x62 x68 x80 (fun (x81 : L3) => Q (.exit 3) (St.mk (none :: some (SV.ptr (nat_lit 0) (nat_lit 0)) :: some (SV.ptr (nat_lit 1) (nat_lit 0)) :: none :: none :: some (SV.ptr (nat_lit 5) (nat_lit 0)) :: nn 45 (some (SV.sl (nat_lit 9)) :: some (SV.int .i64 x60) :: some (SV.int .i64 x61) :: nn 53 ([])))
  [.cells [SV.int .i64 x64, SV.int .i64 x65, SV.int .i64 x66, SV.int .i64 x67, SV.int .i64 x68, SV.ros x69 kP x70] (nat_lit 26), .cells [SV.sl (nat_lit 2), SV.sl (nat_lit 3), SV.sl (nat_lit 4), SV.int .i64 x71] (nat_lit 31), .seq kP x72 (nat_lit 23),
    .seq kP x73 (nat_lit 23), .seq kP x74 (nat_lit 23), .cells [SV.sl (nat_lit 6), SV.sl (nat_lit 7), SV.sl (nat_lit 8), SV.int .i64 x75] (nat_lit 31), .seq kP x81 (nat_lit 23), .seq kP x77 (nat_lit 23),
    .seq kP x78 (nat_lit 23), .seq (K.int IntKind.i64) x79 (nat_lit 3)])) n x63 x76
  | 0, _, _ => rfl
  | n + 1, x63, x76 => (core_l0_step_eq x59 x60 x61 x62 x63 x64 x65 x66 x67 x68 x69 x70 x71 x72 x73 x74 x75 x76 x77 x78 x79 x80 (iterK (loopStep E (exec E look_check noLps 400) 13 [false, true, true, false, false, true, true, false, false, true, false, false, true, true, true, true, true, false, true, false, true, true, true] 0 (codeAt E.P 13 [false, true, true, false, false, true, true, false, false, true, false, false, true, true, true, true, true, false, true, false, true, true, true])) n Q)).trans (congrArg (fun kn => M.core_l0_step x59 x62 x68 x80 kn (fun (x81 : L3) => Q (.exit 3) (St.mk (none :: some (SV.ptr (nat_lit 0) (nat_lit 0)) :: some (SV.ptr (nat_lit 1) (nat_lit 0)) :: none :: none :: some (SV.ptr (nat_lit 5) (nat_lit 0)) :: nn 45 (some (SV.sl (nat_lit 9)) :: some (SV.int .i64 x60) :: some (SV.int .i64 x61) :: nn 53 ([])))
  [.cells [SV.int .i64 x64, SV.int .i64 x65, SV.int .i64 x66, SV.int .i64 x67, SV.int .i64 x68, SV.ros x69 kP x70] (nat_lit 26), .cells [SV.sl (nat_lit 2), SV.sl (nat_lit 3), SV.sl (nat_lit 4), SV.int .i64 x71] (nat_lit 31), .seq kP x72 (nat_lit 23),
    .seq kP x73 (nat_lit 23), .seq kP x74 (nat_lit 23), .cells [SV.sl (nat_lit 6), SV.sl (nat_lit 7), SV.sl (nat_lit 8), SV.int .i64 x75] (nat_lit 31), .seq kP x81 (nat_lit 23), .seq kP x77 (nat_lit 23),
    .seq kP x78 (nat_lit 23), .seq (K.int IntKind.i64) x79 (nat_lit 3)])) x63 x76) (funext fun x63 => funext fun x76 => core_l0_iter x59 x60 x61 x62 x64 x65 x66 x67 x68 x69 x70 x71 x72 x73 x74 x75 x77 x78 x79 x80 Q n x63 x76))
noncomputable def core_l0_go {α : Type} (ds : List D) (Q : Ex → St → Option α) : Option α :=
  dI ds fun x59 ds => dI ds fun x60 ds => dI ds fun x61 ds => dI ds fun x62 ds => dI ds fun x63 ds => dI ds fun x64 ds => dI ds fun x65 ds => dI ds fun x66 ds => dI ds fun x67 ds => dI ds fun x68 ds => dV ds fun x69 ds => dL kP ds fun x70 ds => dI ds fun x71 ds => dL kP ds fun x72 ds => dL kP ds fun x73 ds => dL kP ds fun x74 ds => dI ds fun x75 ds => dL kP ds fun x76 ds => dL kP ds fun x77 ds => dL kP ds fun x78 ds => dL (K.int IntKind.i64) ds fun x79 ds => dL (K.int IntKind.i64) ds fun x80 ds => dE ds (M.core_l0 x59 x62 x68 x80 (fun (x81 : L3) => Q (.exit 3) (St.mk (none :: some (SV.ptr (nat_lit 0) (nat_lit 0)) :: some (SV.ptr (nat_lit 1) (nat_lit 0)) :: none :: none :: some (SV.ptr (nat_lit 5) (nat_lit 0)) :: nn 45 (some (SV.sl (nat_lit 9)) :: some (SV.int .i64 x60) :: some (SV.int .i64 x61) :: nn 53 ([])))
  [.cells [SV.int .i64 x64, SV.int .i64 x65, SV.int .i64 x66, SV.int .i64 x67, SV.int .i64 x68, SV.ros x69 kP x70] (nat_lit 26), .cells [SV.sl (nat_lit 2), SV.sl (nat_lit 3), SV.sl (nat_lit 4), SV.int .i64 x71] (nat_lit 31), .seq kP x72 (nat_lit 23),
    .seq kP x73 (nat_lit 23), .seq kP x74 (nat_lit 23), .cells [SV.sl (nat_lit 6), SV.sl (nat_lit 7), SV.sl (nat_lit 8), SV.int .i64 x75] (nat_lit 31), .seq kP x81 (nat_lit 23), .seq kP x77 (nat_lit 23),
    .seq kP x78 (nat_lit 23), .seq (K.int IntKind.i64) x79 (nat_lit 3)])) (100 + x70.length + x72.length + x73.length + x74.length + x76.length + x77.length + x78.length + x79.length + x80.length) x63 x76)
theorem core_l0_ok {α : Type} : LoopOk E.P 13 [false, true, true, false, false, true, true, false, false, true, false, false, true, true, true, true, true, false, true, false, true, true, true] 0 (lEnt (α := α) (St.mk (none :: some (SV.ptr (nat_lit 0) (nat_lit 0)) :: some (SV.ptr (nat_lit 1) (nat_lit 0)) :: none :: none :: some (SV.ptr (nat_lit 5) (nat_lit 0)) :: none :: some (SV.int .i64 (0 : Int)) :: nn 43 (some (SV.sl (nat_lit 9)) :: some (SV.int .i64 (0 : Int)) :: some (SV.int .i64 (0 : Int)) :: nn 10 (some (SV.sl (nat_lit 10)) :: some (SV.int .i64 (0 : Int)) :: some (SV.int .i64 (0 : Int)) :: nn 40 ([]))))
  [.cells [SV.int .i64 (0 : Int), SV.int .i64 (0 : Int), SV.int .i64 (0 : Int), SV.int .i64 (0 : Int), SV.int .i64 (0 : Int), SV.ros undef kP []] (nat_lit 26), .cells [SV.sl (nat_lit 2), SV.sl (nat_lit 3), SV.sl (nat_lit 4), SV.int .i64 (0 : Int)] (nat_lit 31), .seq kP [] (nat_lit 23),
    .seq kP [] (nat_lit 23), .seq kP [] (nat_lit 23), .cells [SV.sl (nat_lit 6), SV.sl (nat_lit 7), SV.sl (nat_lit 8), SV.int .i64 (0 : Int)] (nat_lit 31), .seq kP [] (nat_lit 23), .seq kP [] (nat_lit 23),
    .seq kP [] (nat_lit 23), .seq (K.int IntKind.i64) [] (nat_lit 3), .seq (K.int IntKind.i64) [] (nat_lit 3)]) core_l0_go) :=
  lEnt_ok E (exec_sound E E_ok (look_check_ok) (noLps_ok _) 400) fun ds Q r h S hS => by
    unfold core_l0_go at h
    obtain ⟨x59, ds, rfl, h1⟩ := dI_inv h
    obtain ⟨x60, ds, rfl, h2⟩ := dI_inv h1
    obtain ⟨x61, ds, rfl, h3⟩ := dI_inv h2
    obtain ⟨x62, ds, rfl, h4⟩ := dI_inv h3
    obtain ⟨x63, ds, rfl, h5⟩ := dI_inv h4
    obtain ⟨x64, ds, rfl, h6⟩ := dI_inv h5
    obtain ⟨x65, ds, rfl, h7⟩ := dI_inv h6
    obtain ⟨x66, ds, rfl, h8⟩ := dI_inv h7
    obtain ⟨x67, ds, rfl, h9⟩ := dI_inv h8
    obtain ⟨x68, ds, rfl, h10⟩ := dI_inv h9
    obtain ⟨x69, ds, rfl, h11⟩ := dV_inv h10
    obtain ⟨x70, ds, rfl, h12⟩ := dL_inv h11
    obtain ⟨x71, ds, rfl, h13⟩ := dI_inv h12
    obtain ⟨x72, ds, rfl, h14⟩ := dL_inv h13
    obtain ⟨x73, ds, rfl, h15⟩ := dL_inv h14
    obtain ⟨x74, ds, rfl, h16⟩ := dL_inv h15
    obtain ⟨x75, ds, rfl, h17⟩ := dI_inv h16
    obtain ⟨x76, ds, rfl, h18⟩ := dL_inv h17
    obtain ⟨x77, ds, rfl, h19⟩ := dL_inv h18
    obtain ⟨x78, ds, rfl, h20⟩ := dL_inv h19
    obtain ⟨x79, ds, rfl, h21⟩ := dL_inv h20
    obtain ⟨x80, ds, rfl, h22⟩ := dL_inv h21
    obtain ⟨rfl, hE⟩ := dE_inv h22
    have e : fillS (St.mk (none :: some (SV.ptr (nat_lit 0) (nat_lit 0)) :: some (SV.ptr (nat_lit 1) (nat_lit 0)) :: none :: none :: some (SV.ptr (nat_lit 5) (nat_lit 0)) :: none :: some (SV.int .i64 (0 : Int)) :: nn 43 (some (SV.sl (nat_lit 9)) :: some (SV.int .i64 (0 : Int)) :: some (SV.int .i64 (0 : Int)) :: nn 10 (some (SV.sl (nat_lit 10)) :: some (SV.int .i64 (0 : Int)) :: some (SV.int .i64 (0 : Int)) :: nn 40 ([]))))
  [.cells [SV.int .i64 (0 : Int), SV.int .i64 (0 : Int), SV.int .i64 (0 : Int), SV.int .i64 (0 : Int), SV.int .i64 (0 : Int), SV.ros undef kP []] (nat_lit 26), .cells [SV.sl (nat_lit 2), SV.sl (nat_lit 3), SV.sl (nat_lit 4), SV.int .i64 (0 : Int)] (nat_lit 31), .seq kP [] (nat_lit 23),
    .seq kP [] (nat_lit 23), .seq kP [] (nat_lit 23), .cells [SV.sl (nat_lit 6), SV.sl (nat_lit 7), SV.sl (nat_lit 8), SV.int .i64 (0 : Int)] (nat_lit 31), .seq kP [] (nat_lit 23), .seq kP [] (nat_lit 23),
    .seq kP [] (nat_lit 23), .seq (K.int IntKind.i64) [] (nat_lit 3), .seq (K.int IntKind.i64) [] (nat_lit 3)]) [.i x59, .i x60, .i x61, .i x62, .i x63, .i x64, .i x65, .i x66, .i x67, .i x68, .v x69, .l kP x70, .i x71, .l kP x72, .l kP x73, .l kP x74, .i x75, .l kP x76, .l kP x77, .l kP x78, .l (K.int IntKind.i64) x79, .l (K.int IntKind.i64) x80] = some (St.mk (none :: some (SV.ptr (nat_lit 0) (nat_lit 0)) :: some (SV.ptr (nat_lit 1) (nat_lit 0)) :: none :: none :: some (SV.ptr (nat_lit 5) (nat_lit 0)) :: none :: some (SV.int .i64 x59) :: nn 43 (some (SV.sl (nat_lit 9)) :: some (SV.int .i64 x60) :: some (SV.int .i64 x61) :: nn 10 (some (SV.sl (nat_lit 10)) :: some (SV.int .i64 x62) :: some (SV.int .i64 x63) :: nn 40 ([]))))
  [.cells [SV.int .i64 x64, SV.int .i64 x65, SV.int .i64 x66, SV.int .i64 x67, SV.int .i64 x68, SV.ros x69 kP x70] (nat_lit 26), .cells [SV.sl (nat_lit 2), SV.sl (nat_lit 3), SV.sl (nat_lit 4), SV.int .i64 x71] (nat_lit 31), .seq kP x72 (nat_lit 23),
    .seq kP x73 (nat_lit 23), .seq kP x74 (nat_lit 23), .cells [SV.sl (nat_lit 6), SV.sl (nat_lit 7), SV.sl (nat_lit 8), SV.int .i64 x75] (nat_lit 31), .seq kP x76 (nat_lit 23), .seq kP x77 (nat_lit 23),
    .seq kP x78 (nat_lit 23), .seq (K.int IntKind.i64) x79 (nat_lit 3), .seq (K.int IntKind.i64) x80 (nat_lit 3)]) := by kernel_rfl
    rw [e] at hS
    cases hS
    exact ⟨_, (core_l0_iter x59 x60 x61 x62 x64 x65 x66 x67 x68 x69 x70 x71 x72 x73 x74 x75 x77 x78 x79 x80 Q _ x63 x76).trans hE⟩
noncomputable def core_l0_lps {α : Type} : LookL α := addLp 13 [false, true, true, false, false, true, true, false, false, true, false, false, true, true, true, true, true, false, true, false, true, true, true] 0 (lEnt (St.mk (none :: some (SV.ptr (nat_lit 0) (nat_lit 0)) :: some (SV.ptr (nat_lit 1) (nat_lit 0)) :: none :: none :: some (SV.ptr (nat_lit 5) (nat_lit 0)) :: none :: some (SV.int .i64 (0 : Int)) :: nn 43 (some (SV.sl (nat_lit 9)) :: some (SV.int .i64 (0 : Int)) :: some (SV.int .i64 (0 : Int)) :: nn 10 (some (SV.sl (nat_lit 10)) :: some (SV.int .i64 (0 : Int)) :: some (SV.int .i64 (0 : Int)) :: nn 40 ([]))))
  [.cells [SV.int .i64 (0 : Int), SV.int .i64 (0 : Int), SV.int .i64 (0 : Int), SV.int .i64 (0 : Int), SV.int .i64 (0 : Int), SV.ros undef kP []] (nat_lit 26), .cells [SV.sl (nat_lit 2), SV.sl (nat_lit 3), SV.sl (nat_lit 4), SV.int .i64 (0 : Int)] (nat_lit 31), .seq kP [] (nat_lit 23),
    .seq kP [] (nat_lit 23), .seq kP [] (nat_lit 23), .cells [SV.sl (nat_lit 6), SV.sl (nat_lit 7), SV.sl (nat_lit 8), SV.int .i64 (0 : Int)] (nat_lit 31), .seq kP [] (nat_lit 23), .seq kP [] (nat_lit 23),
    .seq kP [] (nat_lit 23), .seq (K.int IntKind.i64) [] (nat_lit 3), .seq (K.int IntKind.i64) [] (nat_lit 3)]) core_l0_go) noLps
theorem core_l0_lps_ok {α : Type} : LoopsOk E.P (core_l0_lps (α := α)) := addLp_ok core_l0_ok (noLps_ok _)

noncomputable def _root_.Go.Proofs.Ytkjellhkamfciaa.M.core_l1_step {α : Type} (x84 : Int) (x89 : Int) (x90 : Int) (x92 : L3) (x94 : L3) (x95 : L3) (x96 : L3) (x99 : L3) (x100 : L3) (x101 : List Int) (kn : Int → L3 → Option α) (k1 : L3 → Option α) (x85 : Int) (x98 : L3) : Option α :=
  if cLt x85 x84 = true then
  if (0 : Int) ≤ x85 ∧ x85 < (↑(List.length x101) : Int) then M.core_l0 (List.getD x101 (Int.toNat x85) (0 : Int)) (↑((1 : Nat) + (1 : Nat)) : Int) x90 [IntKind.wrap .i64 ((0 : Int) - x89), x89] (fun (x102 : L3) ↦ kn (IntKind.wrap .i64 (x85 + (1 : Int))) x102) ((100 : Nat) + List.length x92 + List.length x94 + List.length x95 + List.length x96 + List.length x98 + List.length x99 + List.length x100 + List.length x101 + ((1 : Nat) + (1 : Nat))) (0 : Int) x98
  else none
else k1 x98
noncomputable def _root_.Go.Proofs.Ytkjellhkamfciaa.M.core_l1 {α : Type} (x84 : Int) (x89 : Int) (x90 : Int) (x92 : L3) (x94 : L3) (x95 : L3) (x96 : L3) (x99 : L3) (x100 : L3) (x101 : List Int) (k1 : L3 → Option α) : Nat → Int → L3 → Option α
  | 0, _, _ => none
  | n + 1, x85, x98 => M.core_l1_step x84 x89 x90 x92 x94 x95 x96 x99 x100 x101 (M.core_l1 x84 x89 x90 x92 x94 x95 x96 x99 x100 x101 k1 n) k1 x85 x98
theorem core_l1_step_eq {α : Type} (x84 : Int) (x85 : Int) (x86 : Int) (x87 : Int) (x88 : Int) (x89 : Int) (x90 : Int) (x91 : Value) (x92 : L3) (x93 : Int) (x94 : L3) (x95 : L3) (x96 : L3) (x97 : Int) (x98 : L3) (x99 : L3) (x100 : L3) (x101 : List Int) (Q : Ex → St → Option α) : (loopStep E (exec E look_check core_l0_lps 400) 13 [false, true, false, false, true, true, true, true, true, false, true, false, true, true, true] 0 (codeAt E.P 13 [false, true, false, false, true, true, true, true, true, false, true, false, true, true, true])) (St.mk (none :: some (SV.ptr (nat_lit 0) (nat_lit 0)) :: some (SV.ptr (nat_lit 1) (nat_lit 0)) :: none :: none :: some (SV.ptr (nat_lit 5) (nat_lit 0)) :: nn 45 (some (SV.sl (nat_lit 9)) :: some (SV.int .i64 x84) :: some (SV.int .i64 x85) :: nn 53 ([])))
  [.cells [SV.int .i64 x86, SV.int .i64 x87, SV.int .i64 x88, SV.int .i64 x89, SV.int .i64 x90, SV.ros x91 kP x92] (nat_lit 26), .cells [SV.sl (nat_lit 2), SV.sl (nat_lit 3), SV.sl (nat_lit 4), SV.int .i64 x93] (nat_lit 31), .seq kP x94 (nat_lit 23),
    .seq kP x95 (nat_lit 23), .seq kP x96 (nat_lit 23), .cells [SV.sl (nat_lit 6), SV.sl (nat_lit 7), SV.sl (nat_lit 8), SV.int .i64 x97] (nat_lit 31), .seq kP x98 (nat_lit 23), .seq kP x99 (nat_lit 23),
    .seq kP x100 (nat_lit 23), .seq (K.int IntKind.i64) x101 (nat_lit 3)]) Q = M.core_l1_step x84 x89 x90 x92 x94 x95 x96 x99 x100 x101 (fun (x104 : Int) (x105 : L3) => Q .normal (St.mk (none :: some (SV.ptr (nat_lit 0) (nat_lit 0)) :: some (SV.ptr (nat_lit 1) (nat_lit 0)) :: none :: none :: some (SV.ptr (nat_lit 5) (nat_lit 0)) :: nn 45 (some (SV.sl (nat_lit 9)) :: some (SV.int .i64 x84) :: some (SV.int .i64 x104) :: nn 53 ([])))
  [.cells [SV.int .i64 x86, SV.int .i64 x87, SV.int .i64 x88, SV.int .i64 x89, SV.int .i64 x90, SV.ros x91 kP x92] (nat_lit 26), .cells [SV.sl (nat_lit 2), SV.sl (nat_lit 3), SV.sl (nat_lit 4), SV.int .i64 x93] (nat_lit 31), .seq kP x94 (nat_lit 23),
    .seq kP x95 (nat_lit 23), .seq kP x96 (nat_lit 23), .cells [SV.sl (nat_lit 6), SV.sl (nat_lit 7), SV.sl (nat_lit 8), SV.int .i64 x97] (nat_lit 31), .seq kP x105 (nat_lit 23), .seq kP x99 (nat_lit 23),
    .seq kP x100 (nat_lit 23), .seq (K.int IntKind.i64) x101 (nat_lit 3)])) (fun (x103 : L3) => Q (.exit 1) (St.mk (none :: none :: some (SV.ptr (nat_lit 0) (nat_lit 0)) :: none :: none :: some (SV.ptr (nat_lit 4) (nat_lit 0)) :: nn 101 ([]))
  [.cells [SV.sl (nat_lit 1), SV.sl (nat_lit 2), SV.sl (nat_lit 3), SV.int .i64 x93] (nat_lit 31), .seq kP x94 (nat_lit 23), .seq kP x95 (nat_lit 23), .seq kP x96 (nat_lit 23), .cells [SV.sl (nat_lit 5), SV.sl (nat_lit 6), SV.sl (nat_lit 7), SV.int .i64 x97] (nat_lit 31),
    .seq kP x103 (nat_lit 23), .seq kP x99 (nat_lit 23), .seq kP x100 (nat_lit 23)])) x85 x98 := by kernel_rfl
theorem core_l1_iter {α : Type} (x84 : Int) (x86 : Int) (x87 : Int) (x88 : Int) (x89 : Int) (x90 : Int) (x91 : Value) (x92 : L3) (x93 : Int) (x94 : L3) (x95 : L3) (x96 : L3) (x97 : Int) (x99 : L3) (x100 : L3) (x101 : List Int) (Q : Ex → St → Option α) : ∀ (n : Nat) (x85 : Int) (x98 : L3), iter (loopStep E (exec E look_check core_l0_lps 400) 13 [false, true, false, false, true, true, true, true, true, false, true, false, true, true, true] 0 (codeAt E.P 13 [false, true, false, false, true, true, true, true, true, false, true, false, true, true, true])) n (St.mk (none :: some (SV.ptr (nat_lit 0) (nat_lit 0)) :: some (SV.ptr (nat_lit 1) (nat_lit 0)) :: none :: none :: some (SV.ptr (nat_lit 5) (nat_lit 0)) :: nn 45 (some (SV.sl (nat_lit 9)) :: some (SV.int .i64 x84) :: some (SV.int .i64 x85) :: nn 53 ([])))
  [.cells [SV.int .i64 x86, SV.int .i64 x87, SV.int .i64 x88, SV.int .i64 x89, SV.int .i64 x90, SV.ros x91 kP x92] (nat_lit 26), .cells [SV.sl (nat_lit 2), SV.sl (nat_lit 3), SV.sl (nat_lit 4), SV.int .i64 x93] (nat_lit 31), .seq kP x94 (nat_lit 23),
    .seq kP x95 (nat_lit 23), .seq kP x96 (nat_lit 23), .cells [SV.sl (nat_lit 6), SV.sl (nat_lit 7), SV.sl (nat_lit 8), SV.int .i64 x97] (nat_lit 31), .seq kP x98 (nat_lit 23), .seq kP x99 (nat_lit 23),
    .seq kP x100 (nat_lit 23), .seq (K.int IntKind.i64) x101 (nat_lit 3)]) Q = M.core_l1 x84 x89 x90 x92 x94 x95 x96 x99 x100 x101 (fun (x103 : L3) => Q (.exit 1) (St.mk (none :: none :: some (SV.ptr (nat_lit 0) (nat_lit 0)) :: none :: none :: some (SV.ptr (nat_lit 4) (nat_lit 0)) :: nn 101 ([]))
  [.cells [SV.sl (nat_lit 1), SV.sl (nat_lit 2), SV.sl (nat_lit 3), SV.int .i64 x93] (nat_lit 31), .seq kP x94 (nat_lit 23), .seq kP x95 (nat_lit 23), .seq kP x96 (nat_lit 23), .cells [SV.sl (nat_lit 5), SV.sl (nat_lit 6), SV.sl (nat_lit 7), SV.int .i64 x97] (nat_lit 31),
    .seq kP x103 (nat_lit 23), .seq kP x99 (nat_lit 23), .seq kP x100 (nat_lit 23)])) n x85 x98
  | 0, _, _ => rfl
  | n + 1, x85, x98 => (core_l1_step_eq x84 x85 x86 x87 x88 x89 x90 x91 x92 x93 x94 x95 x96 x97 x98 x99 x100 x101 (iterK (loopStep E (exec E look_check core_l0_lps 400) 13 [false, true, false, false, true, true, true, true, true, false, true, false, true, true, true] 0 (codeAt E.P 13 [false, true, false, false, true, true, true, true, true, false, true, false, true, true, true])) n Q)).trans (congrArg (fun kn => M.core_l1_step x84 x89 x90 x92 x94 x95 x96 x99 x100 x101 kn (fun (x103 : L3) => Q (.exit 1) (St.mk (none :: none :: some (SV.ptr (nat_lit 0) (nat_lit 0)) :: none :: none :: some (SV.ptr (nat_lit 4) (nat_lit 0)) :: nn 101 ([]))
  [.cells [SV.sl (nat_lit 1), SV.sl (nat_lit 2), SV.sl (nat_lit 3), SV.int .i64 x93] (nat_lit 31), .seq kP x94 (nat_lit 23), .seq kP x95 (nat_lit 23), .seq kP x96 (nat_lit 23), .cells [SV.sl (nat_lit 5), SV.sl (nat_lit 6), SV.sl (nat_lit 7), SV.int .i64 x97] (nat_lit 31),
    .seq kP x103 (nat_lit 23), .seq kP x99 (nat_lit 23), .seq kP x100 (nat_lit 23)])) x85 x98) (funext fun x85 => funext fun x98 => core_l1_iter x84 x86 x87 x88 x89 x90 x91 x92 x93 x94 x95 x96 x97 x99 x100 x101 Q n x85 x98))
noncomputable def core_l1_go {α : Type} (ds : List D) (Q : Ex → St → Option α) : Option α :=
  dI ds fun x84 ds => dI ds fun x85 ds => dI ds fun x86 ds => dI ds fun x87 ds => dI ds fun x88 ds => dI ds fun x89 ds => dI ds fun x90 ds => dV ds fun x91 ds => dL kP ds fun x92 ds => dI ds fun x93 ds => dL kP ds fun x94 ds => dL kP ds fun x95 ds => dL kP ds fun x96 ds => dI ds fun x97 ds => dL kP ds fun x98 ds => dL kP ds fun x99 ds => dL kP ds fun x100 ds => dL (K.int IntKind.i64) ds fun x101 ds => dE ds (M.core_l1 x84 x89 x90 x92 x94 x95 x96 x99 x100 x101 (fun (x103 : L3) => Q (.exit 1) (St.mk (none :: none :: some (SV.ptr (nat_lit 0) (nat_lit 0)) :: none :: none :: some (SV.ptr (nat_lit 4) (nat_lit 0)) :: nn 101 ([]))
  [.cells [SV.sl (nat_lit 1), SV.sl (nat_lit 2), SV.sl (nat_lit 3), SV.int .i64 x93] (nat_lit 31), .seq kP x94 (nat_lit 23), .seq kP x95 (nat_lit 23), .seq kP x96 (nat_lit 23), .cells [SV.sl (nat_lit 5), SV.sl (nat_lit 6), SV.sl (nat_lit 7), SV.int .i64 x97] (nat_lit 31),
    .seq kP x103 (nat_lit 23), .seq kP x99 (nat_lit 23), .seq kP x100 (nat_lit 23)])) (100 + x92.length + x94.length + x95.length + x96.length + x98.length + x99.length + x100.length + x101.length) x85 x98)
theorem core_l1_ok {α : Type} : LoopOk E.P 13 [false, true, false, false, true, true, true, true, true, false, true, false, true, true, true] 0 (lEnt (α := α) (St.mk (none :: some (SV.ptr (nat_lit 0) (nat_lit 0)) :: some (SV.ptr (nat_lit 1) (nat_lit 0)) :: none :: none :: some (SV.ptr (nat_lit 5) (nat_lit 0)) :: nn 45 (some (SV.sl (nat_lit 9)) :: some (SV.int .i64 (0 : Int)) :: some (SV.int .i64 (0 : Int)) :: nn 53 ([])))
  [.cells [SV.int .i64 (0 : Int), SV.int .i64 (0 : Int), SV.int .i64 (0 : Int), SV.int .i64 (0 : Int), SV.int .i64 (0 : Int), SV.ros undef kP []] (nat_lit 26), .cells [SV.sl (nat_lit 2), SV.sl (nat_lit 3), SV.sl (nat_lit 4), SV.int .i64 (0 : Int)] (nat_lit 31), .seq kP [] (nat_lit 23),
    .seq kP [] (nat_lit 23), .seq kP [] (nat_lit 23), .cells [SV.sl (nat_lit 6), SV.sl (nat_lit 7), SV.sl (nat_lit 8), SV.int .i64 (0 : Int)] (nat_lit 31), .seq kP [] (nat_lit 23), .seq kP [] (nat_lit 23),
    .seq kP [] (nat_lit 23), .seq (K.int IntKind.i64) [] (nat_lit 3)]) core_l1_go) :=
  lEnt_ok E (exec_sound E E_ok (look_check_ok) (core_l0_lps_ok) 400) fun ds Q r h S hS => by
    unfold core_l1_go at h
    obtain ⟨x84, ds, rfl, h1⟩ := dI_inv h
    obtain ⟨x85, ds, rfl, h2⟩ := dI_inv h1
    obtain ⟨x86, ds, rfl, h3⟩ := dI_inv h2
    obtain ⟨x87, ds, rfl, h4⟩ := dI_inv h3
    obtain ⟨x88, ds, rfl, h5⟩ := dI_inv h4
    obtain ⟨x89, ds, rfl, h6⟩ := dI_inv h5
    obtain ⟨x90, ds, rfl, h7⟩ := dI_inv h6
    obtain ⟨x91, ds, rfl, h8⟩ := dV_inv h7
    obtain ⟨x92, ds, rfl, h9⟩ := dL_inv h8
    obtain ⟨x93, ds, rfl, h10⟩ := dI_inv h9
    obtain ⟨x94, ds, rfl, h11⟩ := dL_inv h10
    obtain ⟨x95, ds, rfl, h12⟩ := dL_inv h11
    obtain ⟨x96, ds, rfl, h13⟩ := dL_inv h12
    obtain ⟨x97, ds, rfl, h14⟩ := dI_inv h13
    obtain ⟨x98, ds, rfl, h15⟩ := dL_inv h14
    obtain ⟨x99, ds, rfl, h16⟩ := dL_inv h15
    obtain ⟨x100, ds, rfl, h17⟩ := dL_inv h16
    obtain ⟨x101, ds, rfl, h18⟩ := dL_inv h17
    obtain ⟨rfl, hE⟩ := dE_inv h18
    have e : fillS (St.mk (none :: some (SV.ptr (nat_lit 0) (nat_lit 0)) :: some (SV.ptr (nat_lit 1) (nat_lit 0)) :: none :: none :: some (SV.ptr (nat_lit 5) (nat_lit 0)) :: nn 45 (some (SV.sl (nat_lit 9)) :: some (SV.int .i64 (0 : Int)) :: some (SV.int .i64 (0 : Int)) :: nn 53 ([])))
  [.cells [SV.int .i64 (0 : Int), SV.int .i64 (0 : Int), SV.int .i64 (0 : Int), SV.int .i64 (0 : Int), SV.int .i64 (0 : Int), SV.ros undef kP []] (nat_lit 26), .cells [SV.sl (nat_lit 2), SV.sl (nat_lit 3), SV.sl (nat_lit 4), SV.int .i64 (0 : Int)] (nat_lit 31), .seq kP [] (nat_lit 23),
    .seq kP [] (nat_lit 23), .seq kP [] (nat_lit 23), .cells [SV.sl (nat_lit 6), SV.sl (nat_lit 7), SV.sl (nat_lit 8), SV.int .i64 (0 : Int)] (nat_lit 31), .seq kP [] (nat_lit 23), .seq kP [] (nat_lit 23),
    .seq kP [] (nat_lit 23), .seq (K.int IntKind.i64) [] (nat_lit 3)]) [.i x84, .i x85, .i x86, .i x87, .i x88, .i x89, .i x90, .v x91, .l kP x92, .i x93, .l kP x94, .l kP x95, .l kP x96, .i x97, .l kP x98, .l kP x99, .l kP x100, .l (K.int IntKind.i64) x101] = some (St.mk (none :: some (SV.ptr (nat_lit 0) (nat_lit 0)) :: some (SV.ptr (nat_lit 1) (nat_lit 0)) :: none :: none :: some (SV.ptr (nat_lit 5) (nat_lit 0)) :: nn 45 (some (SV.sl (nat_lit 9)) :: some (SV.int .i64 x84) :: some (SV.int .i64 x85) :: nn 53 ([])))
  [.cells [SV.int .i64 x86, SV.int .i64 x87, SV.int .i64 x88, SV.int .i64 x89, SV.int .i64 x90, SV.ros x91 kP x92] (nat_lit 26), .cells [SV.sl (nat_lit 2), SV.sl (nat_lit 3), SV.sl (nat_lit 4), SV.int .i64 x93] (nat_lit 31), .seq kP x94 (nat_lit 23),
    .seq kP x95 (nat_lit 23), .seq kP x96 (nat_lit 23), .cells [SV.sl (nat_lit 6), SV.sl (nat_lit 7), SV.sl (nat_lit 8), SV.int .i64 x97] (nat_lit 31), .seq kP x98 (nat_lit 23), .seq kP x99 (nat_lit 23),
    .seq kP x100 (nat_lit 23), .seq (K.int IntKind.i64) x101 (nat_lit 3)]) := by kernel_rfl
    rw [e] at hS
    cases hS
    exact ⟨_, (core_l1_iter x84 x86 x87 x88 x89 x90 x91 x92 x93 x94 x95 x96 x97 x99 x100 x101 Q _ x85 x98).trans hE⟩
noncomputable def core_l1_lps {α : Type} : LookL α := addLp 13 [false, true, false, false, true, true, true, true, true, false, true, false, true, true, true] 0 (lEnt (St.mk (none :: some (SV.ptr (nat_lit 0) (nat_lit 0)) :: some (SV.ptr (nat_lit 1) (nat_lit 0)) :: none :: none :: some (SV.ptr (nat_lit 5) (nat_lit 0)) :: nn 45 (some (SV.sl (nat_lit 9)) :: some (SV.int .i64 (0 : Int)) :: some (SV.int .i64 (0 : Int)) :: nn 53 ([])))
  [.cells [SV.int .i64 (0 : Int), SV.int .i64 (0 : Int), SV.int .i64 (0 : Int), SV.int .i64 (0 : Int), SV.int .i64 (0 : Int), SV.ros undef kP []] (nat_lit 26), .cells [SV.sl (nat_lit 2), SV.sl (nat_lit 3), SV.sl (nat_lit 4), SV.int .i64 (0 : Int)] (nat_lit 31), .seq kP [] (nat_lit 23),
    .seq kP [] (nat_lit 23), .seq kP [] (nat_lit 23), .cells [SV.sl (nat_lit 6), SV.sl (nat_lit 7), SV.sl (nat_lit 8), SV.int .i64 (0 : Int)] (nat_lit 31), .seq kP [] (nat_lit 23), .seq kP [] (nat_lit 23),
    .seq kP [] (nat_lit 23), .seq (K.int IntKind.i64) [] (nat_lit 3)]) core_l1_go) core_l0_lps
theorem core_l1_lps_ok {α : Type} : LoopsOk E.P (core_l1_lps (α := α)) := addLp_ok core_l1_ok (core_l0_lps_ok)

noncomputable def _root_.Go.Proofs.Ytkjellhkamfciaa.M.core_l2_step {α : Type} (x276 : Int) (x297 : L3) (kn : Int → L3 → Option α) (k1 : L3 → Option α) (x277 : Int) (x296 : L3) : Option α :=
  if cLt x277 x276 = true then
  if (0 : Int) ≤ x277 ∧ x277 < (↑(List.length x297) : Int) then
    if V.lenB (List.length x296) = true then
      if (!V.hasP x296 (V.pShort (List.getD x297 (Int.toNat x277) ((0 : Int), (0 : Int), (0 : Int))))) = true then
        if V.lenB (List.length x296) = true then if (!V.hasP x296 (V.pSub ((0 : Int), (0 : Int), (0 : Int)) (V.pShort (List.getD x297 (Int.toNat x277) ((0 : Int), (0 : Int), (0 : Int)))))) = true then if (List.length x296 + ((0 : Nat) + (1 : Nat))) * (24 : Nat) ≤ (140737488355328 : Nat) then kn (IntKind.wrap .i64 (x277 + (1 : Int))) (x296 ++ [V.pShort (List.getD x297 (Int.toNat x277) ((0 : Int), (0 : Int), (0 : Int)))]) else none else kn (IntKind.wrap .i64 (x277 + (1 : Int))) x296
        else none
      else kn (IntKind.wrap .i64 (x277 + (1 : Int))) x296
    else none
  else none
else k1 x296
noncomputable def _root_.Go.Proofs.Ytkjellhkamfciaa.M.core_l2 {α : Type} (x276 : Int) (x297 : L3) (k1 : L3 → Option α) : Nat → Int → L3 → Option α
  | 0, _, _ => none
  | n + 1, x277, x296 => M.core_l2_step x276 x297 (M.core_l2 x276 x297 k1 n) k1 x277 x296
theorem core_l2_step_eq {α : Type} (x271 : Int) (x272 : Int) (x273 : Int) (x274 : Int) (x275 : Int) (x276 : Int) (x277 : Int) (x278 : Int) (x279 : Int) (x280 : Int) (x281 : Int) (x282 : Int) (x283 : Value) (x284 : L3) (x285 : L3) (x286 : L3) (x287 : L3) (x288 : Int) (x289 : L3) (x290 : L3) (x291 : L3) (x292 : Int) (x293 : L3) (x294 : L3) (x295 : L3) (x296 : L3) (x297 : L3) (Q : Ex → St → Option α) : (loopStep E (exec E look_check core_l1_lps 400) 30 [false, true, true, true, true, true, true, false, false, false, false, true, true, false, false, false, true, false, false, true, true, false, false, true, true, false, false, true, true, true, false] 13 (codeAt E.P 30 [false, true, true, true, true, true, true, false, false, false, false, true, true, false, false, false, true, false, false, true, true, false, false, true, true, false, false, true, true, true, false])) (St.mk (some (SV.ptr (nat_lit 8) (nat_lit 0)) :: none :: some (SV.sl (nat_lit 13)) :: some (SV.int .i64 x271) :: some (SV.int .i64 x272) :: some (SV.int .i64 x273) :: nn 10 (some (SV.int .i64 x274) :: some (SV.int .i64 x275) :: nn 114 (some (SV.sl (nat_lit 16)) :: some (SV.int .i64 x276) :: some (SV.int .i64 x277) :: nn 35 ([]))))
  [.cells [SV.int .i64 x278, SV.int .i64 x279, SV.int .i64 x280, SV.int .i64 x281, SV.int .i64 x282, SV.ros x283 kP x284] (nat_lit 26), .seq kP x285 (nat_lit 23), .seq kP x286 (nat_lit 23),
    .seq kP x287 (nat_lit 23), .cells [SV.sl (nat_lit 1), SV.sl (nat_lit 2), SV.sl (nat_lit 3), SV.int .i64 x288] (nat_lit 31), .seq kP x289 (nat_lit 23), .seq kP x290 (nat_lit 23), .seq kP x291 (nat_lit 23),
    .cells [SV.sl (nat_lit 13), SV.sl (nat_lit 14), SV.sl (nat_lit 15), SV.int .i64 x292] (nat_lit 31), .seq kP x293 (nat_lit 23), SObj.dead, SObj.dead, SObj.dead, .seq kP x294 (nat_lit 23), .seq kP x295 (nat_lit 23),
    .seq kP x296 (nat_lit 23), .seq kP x297 (nat_lit 23)]) Q = M.core_l2_step x276 x297 (fun (x299 : Int) (x300 : L3) => Q .normal (St.mk (some (SV.ptr (nat_lit 8) (nat_lit 0)) :: none :: some (SV.sl (nat_lit 13)) :: some (SV.int .i64 x271) :: some (SV.int .i64 x272) :: some (SV.int .i64 x273) :: nn 10 (some (SV.int .i64 x274) :: some (SV.int .i64 x275) :: nn 114 (some (SV.sl (nat_lit 16)) :: some (SV.int .i64 x276) :: some (SV.int .i64 x299) :: nn 35 ([]))))
  [.cells [SV.int .i64 x278, SV.int .i64 x279, SV.int .i64 x280, SV.int .i64 x281, SV.int .i64 x282, SV.ros x283 kP x284] (nat_lit 26), .seq kP x285 (nat_lit 23), .seq kP x286 (nat_lit 23),
    .seq kP x287 (nat_lit 23), .cells [SV.sl (nat_lit 1), SV.sl (nat_lit 2), SV.sl (nat_lit 3), SV.int .i64 x288] (nat_lit 31), .seq kP x289 (nat_lit 23), .seq kP x290 (nat_lit 23), .seq kP x291 (nat_lit 23),
    .cells [SV.sl (nat_lit 13), SV.sl (nat_lit 14), SV.sl (nat_lit 15), SV.int .i64 x292] (nat_lit 31), .seq kP x293 (nat_lit 23), SObj.dead, SObj.dead, SObj.dead, .seq kP x294 (nat_lit 23), .seq kP x295 (nat_lit 23),
    .seq kP x300 (nat_lit 23), .seq kP x297 (nat_lit 23)])) (fun (x298 : L3) => Q (.exit 6) (St.mk (some (SV.ptr (nat_lit 8) (nat_lit 0)) :: none :: some (SV.sl (nat_lit 13)) :: some (SV.int .i64 x271) :: some (SV.int .i64 x272) :: some (SV.int .i64 x273) :: nn 10 (some (SV.int .i64 x274) :: some (SV.int .i64 x275) :: nn 152 ([])))
  [.cells [SV.int .i64 x278, SV.int .i64 x279, SV.int .i64 x280, SV.int .i64 x281, SV.int .i64 x282, SV.ros x283 kP x284] (nat_lit 26), .seq kP x285 (nat_lit 23), .seq kP x286 (nat_lit 23),
    .seq kP x287 (nat_lit 23), .cells [SV.sl (nat_lit 1), SV.sl (nat_lit 2), SV.sl (nat_lit 3), SV.int .i64 x288] (nat_lit 31), .seq kP x289 (nat_lit 23), .seq kP x290 (nat_lit 23), .seq kP x291 (nat_lit 23),
    .cells [SV.sl (nat_lit 13), SV.sl (nat_lit 14), SV.sl (nat_lit 15), SV.int .i64 x292] (nat_lit 31), .seq kP x293 (nat_lit 23), SObj.dead, SObj.dead, SObj.dead, .seq kP x294 (nat_lit 23), .seq kP x295 (nat_lit 23),
    .seq kP x298 (nat_lit 23)])) x277 x296 := by kernel_rfl
theorem core_l2_iter {α : Type} (x271 : Int) (x272 : Int) (x273 : Int) (x274 : Int) (x275 : Int) (x276 : Int) (x278 : Int) (x279 : Int) (x280 : Int) (x281 : Int) (x282 : Int) (x283 : Value) (x284 : L3) (x285 : L3) (x286 : L3) (x287 : L3) (x288 : Int) (x289 : L3) (x290 : L3) (x291 : L3) (x292 : Int) (x293 : L3) (x294 : L3) (x295 : L3) (x297 : L3) (Q : Ex → St → Option α) : ∀ (n : Nat) (x277 : Int) (x296 : L3), iter (loopStep E (exec E look_check core_l1_lps 400) 30 [false, true, true, true, true, true, true, false, false, false, false, true, true, false, false, false, true, false, false, true, true, false, false, true, true, false, false, true, true, true, false] 13 (codeAt E.P 30 [false, true, true, true, true, true, true, false, false, false, false, true, true, false, false, false, true, false, false, true, true, false, false, true, true, false, false, true, true, true, false])) n (St.mk (some (SV.ptr (nat_lit 8) (nat_lit 0)) :: none :: some (SV.sl (nat_lit 13)) :: some (SV.int .i64 x271) :: some (SV.int .i64 x272) :: some (SV.int .i64 x273) :: nn 10 (some (SV.int .i64 x274) :: some (SV.int .i64 x275) :: nn 114 (some (SV.sl (nat_lit 16)) :: some (SV.int .i64 x276) :: some (SV.int .i64 x277) :: nn 35 ([]))))
  [.cells [SV.int .i64 x278, SV.int .i64 x279, SV.int .i64 x280, SV.int .i64 x281, SV.int .i64 x282, SV.ros x283 kP x284] (nat_lit 26), .seq kP x285 (nat_lit 23), .seq kP x286 (nat_lit 23),
    .seq kP x287 (nat_lit 23), .cells [SV.sl (nat_lit 1), SV.sl (nat_lit 2), SV.sl (nat_lit 3), SV.int .i64 x288] (nat_lit 31), .seq kP x289 (nat_lit 23), .seq kP x290 (nat_lit 23), .seq kP x291 (nat_lit 23),
    .cells [SV.sl (nat_lit 13), SV.sl (nat_lit 14), SV.sl (nat_lit 15), SV.int .i64 x292] (nat_lit 31), .seq kP x293 (nat_lit 23), SObj.dead, SObj.dead, SObj.dead, .seq kP x294 (nat_lit 23), .seq kP x295 (nat_lit 23),
    .seq kP x296 (nat_lit 23), .seq kP x297 (nat_lit 23)]) Q = M.core_l2 x276 x297 (fun (x298 : L3) => Q (.exit 6) (St.mk (some (SV.ptr (nat_lit 8) (nat_lit 0)) :: none :: some (SV.sl (nat_lit 13)) :: some (SV.int .i64 x271) :: some (SV.int .i64 x272) :: some (SV.int .i64 x273) :: nn 10 (some (SV.int .i64 x274) :: some (SV.int .i64 x275) :: nn 152 ([])))
  [.cells [SV.int .i64 x278, SV.int .i64 x279, SV.int .i64 x280, SV.int .i64 x281, SV.int .i64 x282, SV.ros x283 kP x284] (nat_lit 26), .seq kP x285 (nat_lit 23), .seq kP x286 (nat_lit 23),
    .seq kP x287 (nat_lit 23), .cells [SV.sl (nat_lit 1), SV.sl (nat_lit 2), SV.sl (nat_lit 3), SV.int .i64 x288] (nat_lit 31), .seq kP x289 (nat_lit 23), .seq kP x290 (nat_lit 23), .seq kP x291 (nat_lit 23),
    .cells [SV.sl (nat_lit 13), SV.sl (nat_lit 14), SV.sl (nat_lit 15), SV.int .i64 x292] (nat_lit 31), .seq kP x293 (nat_lit 23), SObj.dead, SObj.dead, SObj.dead, .seq kP x294 (nat_lit 23), .seq kP x295 (nat_lit 23),
    .seq kP x298 (nat_lit 23)])) n x277 x296
  | 0, _, _ => rfl
  | n + 1, x277, x296 => (core_l2_step_eq x271 x272 x273 x274 x275 x276 x277 x278 x279 x280 x281 x282 x283 x284 x285 x286 x287 x288 x289 x290 x291 x292 x293 x294 x295 x296 x297 (iterK (loopStep E (exec E look_check core_l1_lps 400) 30 [false, true, true, true, true, true, true, false, false, false, false, true, true, false, false, false, true, false, false, true, true, false, false, true, true, false, false, true, true, true, false] 13 (codeAt E.P 30 [false, true, true, true, true, true, true, false, false, false, false, true, true, false, false, false, true, false, false, true, true, false, false, true, true, false, false, true, true, true, false])) n Q)).trans (congrArg (fun kn => M.core_l2_step x276 x297 kn (fun (x298 : L3) => Q (.exit 6) (St.mk (some (SV.ptr (nat_lit 8) (nat_lit 0)) :: none :: some (SV.sl (nat_lit 13)) :: some (SV.int .i64 x271) :: some (SV.int .i64 x272) :: some (SV.int .i64 x273) :: nn 10 (some (SV.int .i64 x274) :: some (SV.int .i64 x275) :: nn 152 ([])))
  [.cells [SV.int .i64 x278, SV.int .i64 x279, SV.int .i64 x280, SV.int .i64 x281, SV.int .i64 x282, SV.ros x283 kP x284] (nat_lit 26), .seq kP x285 (nat_lit 23), .seq kP x286 (nat_lit 23),
    .seq kP x287 (nat_lit 23), .cells [SV.sl (nat_lit 1), SV.sl (nat_lit 2), SV.sl (nat_lit 3), SV.int .i64 x288] (nat_lit 31), .seq kP x289 (nat_lit 23), .seq kP x290 (nat_lit 23), .seq kP x291 (nat_lit 23),
    .cells [SV.sl (nat_lit 13), SV.sl (nat_lit 14), SV.sl (nat_lit 15), SV.int .i64 x292] (nat_lit 31), .seq kP x293 (nat_lit 23), SObj.dead, SObj.dead, SObj.dead, .seq kP x294 (nat_lit 23), .seq kP x295 (nat_lit 23),
    .seq kP x298 (nat_lit 23)])) x277 x296) (funext fun x277 => funext fun x296 => core_l2_iter x271 x272 x273 x274 x275 x276 x278 x279 x280 x281 x282 x283 x284 x285 x286 x287 x288 x289 x290 x291 x292 x293 x294 x295 x297 Q n x277 x296))
noncomputable def core_l2_go {α : Type} (ds : List D) (Q : Ex → St → Option α) : Option α :=
  dI ds fun x271 ds => dI ds fun x272 ds => dI ds fun x273 ds => dI ds fun x274 ds => dI ds fun x275 ds => dI ds fun x276 ds => dI ds fun x277 ds => dI ds fun x278 ds => dI ds fun x279 ds => dI ds fun x280 ds => dI ds fun x281 ds => dI ds fun x282 ds => dV ds fun x283 ds => dL kP ds fun x284 ds => dL kP ds fun x285 ds => dL kP ds fun x286 ds => dL kP ds fun x287 ds => dI ds fun x288 ds => dL kP ds fun x289 ds => dL kP ds fun x290 ds => dL kP ds fun x291 ds => dI ds fun x292 ds => dL kP ds fun x293 ds => dL kP ds fun x294 ds => dL kP ds fun x295 ds => dL kP ds fun x296 ds => dL kP ds fun x297 ds => dE ds (M.core_l2 x276 x297 (fun (x298 : L3) => Q (.exit 6) (St.mk (some (SV.ptr (nat_lit 8) (nat_lit 0)) :: none :: some (SV.sl (nat_lit 13)) :: some (SV.int .i64 x271) :: some (SV.int .i64 x272) :: some (SV.int .i64 x273) :: nn 10 (some (SV.int .i64 x274) :: some (SV.int .i64 x275) :: nn 152 ([])))
  [.cells [SV.int .i64 x278, SV.int .i64 x279, SV.int .i64 x280, SV.int .i64 x281, SV.int .i64 x282, SV.ros x283 kP x284] (nat_lit 26), .seq kP x285 (nat_lit 23), .seq kP x286 (nat_lit 23),
    .seq kP x287 (nat_lit 23), .cells [SV.sl (nat_lit 1), SV.sl (nat_lit 2), SV.sl (nat_lit 3), SV.int .i64 x288] (nat_lit 31), .seq kP x289 (nat_lit 23), .seq kP x290 (nat_lit 23), .seq kP x291 (nat_lit 23),
    .cells [SV.sl (nat_lit 13), SV.sl (nat_lit 14), SV.sl (nat_lit 15), SV.int .i64 x292] (nat_lit 31), .seq kP x293 (nat_lit 23), SObj.dead, SObj.dead, SObj.dead, .seq kP x294 (nat_lit 23), .seq kP x295 (nat_lit 23),
    .seq kP x298 (nat_lit 23)])) (100 + x284.length + x285.length + x286.length + x287.length + x289.length + x290.length + x291.length + x293.length + x294.length + x295.length + x296.length + x297.length) x277 x296)
theorem core_l2_ok {α : Type} : LoopOk E.P 30 [false, true, true, true, true, true, true, false, false, false, false, true, true, false, false, false, true, false, false, true, true, false, false, true, true, false, false, true, true, true, false] 13 (lEnt (α := α) (St.mk (some (SV.ptr (nat_lit 8) (nat_lit 0)) :: none :: some (SV.sl (nat_lit 13)) :: some (SV.int .i64 (0 : Int)) :: some (SV.int .i64 (0 : Int)) :: some (SV.int .i64 (0 : Int)) :: nn 10 (some (SV.int .i64 (0 : Int)) :: some (SV.int .i64 (0 : Int)) :: nn 114 (some (SV.sl (nat_lit 16)) :: some (SV.int .i64 (0 : Int)) :: some (SV.int .i64 (0 : Int)) :: nn 35 ([]))))
  [.cells [SV.int .i64 (0 : Int), SV.int .i64 (0 : Int), SV.int .i64 (0 : Int), SV.int .i64 (0 : Int), SV.int .i64 (0 : Int), SV.ros undef kP []] (nat_lit 26), .seq kP [] (nat_lit 23), .seq kP [] (nat_lit 23),
    .seq kP [] (nat_lit 23), .cells [SV.sl (nat_lit 1), SV.sl (nat_lit 2), SV.sl (nat_lit 3), SV.int .i64 (0 : Int)] (nat_lit 31), .seq kP [] (nat_lit 23), .seq kP [] (nat_lit 23), .seq kP [] (nat_lit 23),
    .cells [SV.sl (nat_lit 13), SV.sl (nat_lit 14), SV.sl (nat_lit 15), SV.int .i64 (0 : Int)] (nat_lit 31), .seq kP [] (nat_lit 23), SObj.dead, SObj.dead, SObj.dead, .seq kP [] (nat_lit 23), .seq kP [] (nat_lit 23),
    .seq kP [] (nat_lit 23), .seq kP [] (nat_lit 23)]) core_l2_go) :=
  lEnt_ok E (exec_sound E E_ok (look_check_ok) (core_l1_lps_ok) 400) fun ds Q r h S hS => by
    unfold core_l2_go at h
    obtain ⟨x271, ds, rfl, h1⟩ := dI_inv h
    obtain ⟨x272, ds, rfl, h2⟩ := dI_inv h1
    obtain ⟨x273, ds, rfl, h3⟩ := dI_inv h2
    obtain ⟨x274, ds, rfl, h4⟩ := dI_inv h3
    obtain ⟨x275, ds, rfl, h5⟩ := dI_inv h4
    obtain ⟨x276, ds, rfl, h6⟩ := dI_inv h5
    obtain ⟨x277, ds, rfl, h7⟩ := dI_inv h6
    obtain ⟨x278, ds, rfl, h8⟩ := dI_inv h7
    obtain ⟨x279, ds, rfl, h9⟩ := dI_inv h8
    obtain ⟨x280, ds, rfl, h10⟩ := dI_inv h9
    obtain ⟨x281, ds, rfl, h11⟩ := dI_inv h10
    obtain ⟨x282, ds, rfl, h12⟩ := dI_inv h11
    obtain ⟨x283, ds, rfl, h13⟩ := dV_inv h12
    obtain ⟨x284, ds, rfl, h14⟩ := dL_inv h13
    obtain ⟨x285, ds, rfl, h15⟩ := dL_inv h14
    obtain ⟨x286, ds, rfl, h16⟩ := dL_inv h15
    obtain ⟨x287, ds, rfl, h17⟩ := dL_inv h16
    obtain ⟨x288, ds, rfl, h18⟩ := dI_inv h17
    obtain ⟨x289, ds, rfl, h19⟩ := dL_inv h18
    obtain ⟨x290, ds, rfl, h20⟩ := dL_inv h19
    obtain ⟨x291, ds, rfl, h21⟩ := dL_inv h20
    obtain ⟨x292, ds, rfl, h22⟩ := dI_inv h21
    obtain ⟨x293, ds, rfl, h23⟩ := dL_inv h22
    obtain ⟨x294, ds, rfl, h24⟩ := dL_inv h23
    obtain ⟨x295, ds, rfl, h25⟩ := dL_inv h24
    obtain ⟨x296, ds, rfl, h26⟩ := dL_inv h25
    obtain ⟨x297, ds, rfl, h27⟩ := dL_inv h26
    obtain ⟨rfl, hE⟩ := dE_inv h27
    have e : fillS (St.mk (some (SV.ptr (nat_lit 8) (nat_lit 0)) :: none :: some (SV.sl (nat_lit 13)) :: some (SV.int .i64 (0 : Int)) :: some (SV.int .i64 (0 : Int)) :: some (SV.int .i64 (0 : Int)) :: nn 10 (some (SV.int .i64 (0 : Int)) :: some (SV.int .i64 (0 : Int)) :: nn 114 (some (SV.sl (nat_lit 16)) :: some (SV.int .i64 (0 : Int)) :: some (SV.int .i64 (0 : Int)) :: nn 35 ([]))))
  [.cells [SV.int .i64 (0 : Int), SV.int .i64 (0 : Int), SV.int .i64 (0 : Int), SV.int .i64 (0 : Int), SV.int .i64 (0 : Int), SV.ros undef kP []] (nat_lit 26), .seq kP [] (nat_lit 23), .seq kP [] (nat_lit 23),
    .seq kP [] (nat_lit 23), .cells [SV.sl (nat_lit 1), SV.sl (nat_lit 2), SV.sl (nat_lit 3), SV.int .i64 (0 : Int)] (nat_lit 31), .seq kP [] (nat_lit 23), .seq kP [] (nat_lit 23), .seq kP [] (nat_lit 23),
    .cells [SV.sl (nat_lit 13), SV.sl (nat_lit 14), SV.sl (nat_lit 15), SV.int .i64 (0 : Int)] (nat_lit 31), .seq kP [] (nat_lit 23), SObj.dead, SObj.dead, SObj.dead, .seq kP [] (nat_lit 23), .seq kP [] (nat_lit 23),
    .seq kP [] (nat_lit 23), .seq kP [] (nat_lit 23)]) [.i x271, .i x272, .i x273, .i x274, .i x275, .i x276, .i x277, .i x278, .i x279, .i x280, .i x281, .i x282, .v x283, .l kP x284, .l kP x285, .l kP x286, .l kP x287, .i x288, .l kP x289, .l kP x290, .l kP x291, .i x292, .l kP x293, .l kP x294, .l kP x295, .l kP x296, .l kP x297] = some (St.mk (some (SV.ptr (nat_lit 8) (nat_lit 0)) :: none :: some (SV.sl (nat_lit 13)) :: some (SV.int .i64 x271) :: some (SV.int .i64 x272) :: some (SV.int .i64 x273) :: nn 10 (some (SV.int .i64 x274) :: some (SV.int .i64 x275) :: nn 114 (some (SV.sl (nat_lit 16)) :: some (SV.int .i64 x276) :: some (SV.int .i64 x277) :: nn 35 ([]))))
  [.cells [SV.int .i64 x278, SV.int .i64 x279, SV.int .i64 x280, SV.int .i64 x281, SV.int .i64 x282, SV.ros x283 kP x284] (nat_lit 26), .seq kP x285 (nat_lit 23), .seq kP x286 (nat_lit 23),
    .seq kP x287 (nat_lit 23), .cells [SV.sl (nat_lit 1), SV.sl (nat_lit 2), SV.sl (nat_lit 3), SV.int .i64 x288] (nat_lit 31), .seq kP x289 (nat_lit 23), .seq kP x290 (nat_lit 23), .seq kP x291 (nat_lit 23),
    .cells [SV.sl (nat_lit 13), SV.sl (nat_lit 14), SV.sl (nat_lit 15), SV.int .i64 x292] (nat_lit 31), .seq kP x293 (nat_lit 23), SObj.dead, SObj.dead, SObj.dead, .seq kP x294 (nat_lit 23), .seq kP x295 (nat_lit 23),
    .seq kP x296 (nat_lit 23), .seq kP x297 (nat_lit 23)]) := by kernel_rfl
    rw [e] at hS
    cases hS
    exact ⟨_, (core_l2_iter x271 x272 x273 x274 x275 x276 x278 x279 x280 x281 x282 x283 x284 x285 x286 x287 x288 x289 x290 x291 x292 x293 x294 x295 x297 Q _ x277 x296).trans hE⟩
noncomputable def core_l2_lps {α : Type} : LookL α := addLp 30 [false, true, true, true, true, true, true, false, false, false, false, true, true, false, false, false, true, false, false, true, true, false, false, true, true, false, false, true, true, true, false] 13 (lEnt (St.mk (some (SV.ptr (nat_lit 8) (nat_lit 0)) :: none :: some (SV.sl (nat_lit 13)) :: some (SV.int .i64 (0 : Int)) :: some (SV.int .i64 (0 : Int)) :: some (SV.int .i64 (0 : Int)) :: nn 10 (some (SV.int .i64 (0 : Int)) :: some (SV.int .i64 (0 : Int)) :: nn 114 (some (SV.sl (nat_lit 16)) :: some (SV.int .i64 (0 : Int)) :: some (SV.int .i64 (0 : Int)) :: nn 35 ([]))))
  [.cells [SV.int .i64 (0 : Int), SV.int .i64 (0 : Int), SV.int .i64 (0 : Int), SV.int .i64 (0 : Int), SV.int .i64 (0 : Int), SV.ros undef kP []] (nat_lit 26), .seq kP [] (nat_lit 23), .seq kP [] (nat_lit 23),
    .seq kP [] (nat_lit 23), .cells [SV.sl (nat_lit 1), SV.sl (nat_lit 2), SV.sl (nat_lit 3), SV.int .i64 (0 : Int)] (nat_lit 31), .seq kP [] (nat_lit 23), .seq kP [] (nat_lit 23), .seq kP [] (nat_lit 23),
    .cells [SV.sl (nat_lit 13), SV.sl (nat_lit 14), SV.sl (nat_lit 15), SV.int .i64 (0 : Int)] (nat_lit 31), .seq kP [] (nat_lit 23), SObj.dead, SObj.dead, SObj.dead, .seq kP [] (nat_lit 23), .seq kP [] (nat_lit 23),
    .seq kP [] (nat_lit 23), .seq kP [] (nat_lit 23)]) core_l2_go) core_l1_lps
theorem core_l2_lps_ok {α : Type} : LoopsOk E.P (core_l2_lps (α := α)) := addLp_ok core_l2_ok (core_l1_lps_ok)

noncomputable def _root_.Go.Proofs.Ytkjellhkamfciaa.M.core_l3_step {α : Type} (x301 : Int) (x302 : Int) (x312 : L3) (x313 : L3) (x314 : L3) (x315 : L3) (x317 : L3) (x318 : L3) (x319 : L3) (x321 : L3) (x322 : L3) (kn : Int → L3 → L3 → Option α) (k0 : L3 → L3 → Option α) (k1 : L3 → L3 → Option α) (x303 : Int) (x323 : L3) (x324 : L3) : Option α :=
  if cEq x303 (↑(List.length x322) : Int) = true then if cEq x302 (IntKind.wrap .i64 ((↑(List.length x322) : Int) - (1 : Int))) = true then k0 x323 x324 else k1 x323 x324
else
  if (0 : Int) ≤ x302 ∧ x302 < (↑(List.length x322) : Int) then
    if (0 : Int) ≤ x301 ∧ x301 < (↑(List.length x322) : Int) then
      if (0 : Int) ≤ x303 ∧ x303 < (↑(List.length x322) : Int) then
        if (0 : Int) ≤ x301 ∧ x301 < (↑(List.length x322) : Int) then
          if (0 : Int) ≤ x301 ∧ x301 < (↑(List.length x322) : Int) then
            if V.lenB (List.length x322) = true then
              if
                  (cEq (Prod.fst (V.pCross (V.pSub (List.getD x322 (Int.toNat x302) ((0 : Int), (0 : Int), (0 : Int))) (List.getD x322 (Int.toNat x301) ((0 : Int), (0 : Int), (0 : Int)))) (V.pSub (List.getD x322 (Int.toNat x303) ((0 : Int), (0 : Int), (0 : Int))) (List.getD x322 (Int.toNat x301) ((0 : Int), (0 : Int), (0 : Int)))))) (0 : Int) &&
                      (cEq (Prod.fst (Prod.snd (V.pCross (V.pSub (List.getD x322 (Int.toNat x302) ((0 : Int), (0 : Int), (0 : Int))) (List.getD x322 (Int.toNat x301) ((0 : Int), (0 : Int), (0 : Int)))) (V.pSub (List.getD x322 (Int.toNat x303) ((0 : Int), (0 : Int), (0 : Int))) (List.getD x322 (Int.toNat x301) ((0 : Int), (0 : Int), (0 : Int))))))) (0 : Int) &&
                        (cEq (Prod.snd (Prod.snd (V.pCross (V.pSub (List.getD x322 (Int.toNat x302) ((0 : Int), (0 : Int), (0 : Int))) (List.getD x322 (Int.toNat x301) ((0 : Int), (0 : Int), (0 : Int)))) (V.pSub (List.getD x322 (Int.toNat x303) ((0 : Int), (0 : Int), (0 : Int))) (List.getD x322 (Int.toNat x301) ((0 : Int), (0 : Int), (0 : Int))))))) (0 : Int) && true))) =
                    true then
                kn (IntKind.wrap .i64 (x303 + (1 : Int))) x323 x324
              else
                if cEq (V.sideP x322 (V.pCross (V.pSub (List.getD x322 (Int.toNat x302) ((0 : Int), (0 : Int), (0 : Int))) (List.getD x322 (Int.toNat x301) ((0 : Int), (0 : Int), (0 : Int)))) (V.pSub (List.getD x322 (Int.toNat x303) ((0 : Int), (0 : Int), (0 : Int))) (List.getD x322 (Int.toNat x301) ((0 : Int), (0 : Int), (0 : Int))))) (List.getD x322 (Int.toNat x301) ((0 : Int), (0 : Int), (0 : Int)))) (0 : Int) = true then kn (IntKind.wrap .i64 (x303 + (1 : Int))) x323 x324
                else
                  if V.lenB (List.length x323) = true then
                    if
                        (!V.hasP x323
                              (V.pShort
                                (IntKind.wrap .i64
                                    (V.sideP x322 (V.pCross (V.pSub (List.getD x322 (Int.toNat x302) ((0 : Int), (0 : Int), (0 : Int))) (List.getD x322 (Int.toNat x301) ((0 : Int), (0 : Int), (0 : Int)))) (V.pSub (List.getD x322 (Int.toNat x303) ((0 : Int), (0 : Int), (0 : Int))) (List.getD x322 (Int.toNat x301) ((0 : Int), (0 : Int), (0 : Int))))) (List.getD x322 (Int.toNat x301) ((0 : Int), (0 : Int), (0 : Int))) *
                                      Prod.fst (V.pCross (V.pSub (List.getD x322 (Int.toNat x302) ((0 : Int), (0 : Int), (0 : Int))) (List.getD x322 (Int.toNat x301) ((0 : Int), (0 : Int), (0 : Int)))) (V.pSub (List.getD x322 (Int.toNat x303) ((0 : Int), (0 : Int), (0 : Int))) (List.getD x322 (Int.toNat x301) ((0 : Int), (0 : Int), (0 : Int)))))),
                                  IntKind.wrap .i64
                                    (V.sideP x322 (V.pCross (V.pSub (List.getD x322 (Int.toNat x302) ((0 : Int), (0 : Int), (0 : Int))) (List.getD x322 (Int.toNat x301) ((0 : Int), (0 : Int), (0 : Int)))) (V.pSub (List.getD x322 (Int.toNat x303) ((0 : Int), (0 : Int), (0 : Int))) (List.getD x322 (Int.toNat x301) ((0 : Int), (0 : Int), (0 : Int))))) (List.getD x322 (Int.toNat x301) ((0 : Int), (0 : Int), (0 : Int))) *
                                      Prod.fst (Prod.snd (V.pCross (V.pSub (List.getD x322 (Int.toNat x302) ((0 : Int), (0 : Int), (0 : Int))) (List.getD x322 (Int.toNat x301) ((0 : Int), (0 : Int), (0 : Int)))) (V.pSub (List.getD x322 (Int.toNat x303) ((0 : Int), (0 : Int), (0 : Int))) (List.getD x322 (Int.toNat x301) ((0 : Int), (0 : Int), (0 : Int))))))),
                                  IntKind.wrap .i64
                                    (V.sideP x322 (V.pCross (V.pSub (List.getD x322 (Int.toNat x302) ((0 : Int), (0 : Int), (0 : Int))) (List.getD x322 (Int.toNat x301) ((0 : Int), (0 : Int), (0 : Int)))) (V.pSub (List.getD x322 (Int.toNat x303) ((0 : Int), (0 : Int), (0 : Int))) (List.getD x322 (Int.toNat x301) ((0 : Int), (0 : Int), (0 : Int))))) (List.getD x322 (Int.toNat x301) ((0 : Int), (0 : Int), (0 : Int))) *
                                      Prod.snd (Prod.snd (V.pCross (V.pSub (List.getD x322 (Int.toNat x302) ((0 : Int), (0 : Int), (0 : Int))) (List.getD x322 (Int.toNat x301) ((0 : Int), (0 : Int), (0 : Int)))) (V.pSub (List.getD x322 (Int.toNat x303) ((0 : Int), (0 : Int), (0 : Int))) (List.getD x322 (Int.toNat x301) ((0 : Int), (0 : Int), (0 : Int)))))))))) =
                          true then
                      if (List.length x323 + ((0 : Nat) + (1 : Nat))) * (24 : Nat) ≤ (140737488355328 : Nat) then
                        if (0 : Int) ≤ x302 ∧ x302 < (↑(List.length x322) : Int) then
                          if (0 : Int) ≤ x301 ∧ x301 < (↑(List.length x322) : Int) then
                            if (0 : Int) ≤ x303 ∧ x303 < (↑(List.length x322) : Int) then
                              if (0 : Int) ≤ x301 ∧ x301 < (↑(List.length x322) : Int) then
                                if (0 : Int) ≤ x303 ∧ x303 < (↑(List.length x322) : Int) then
                                  if (0 : Int) ≤ x302 ∧ x302 < (↑(List.length x322) : Int) then
                                    M.core_l2 (↑((2 : Nat) + (1 : Nat)) : Int)
                                      [V.pSub (List.getD x322 (Int.toNat x302) ((0 : Int), (0 : Int), (0 : Int))) (List.getD x322 (Int.toNat x301) ((0 : Int), (0 : Int), (0 : Int))), V.pSub (List.getD x322 (Int.toNat x303) ((0 : Int), (0 : Int), (0 : Int))) (List.getD x322 (Int.toNat x301) ((0 : Int), (0 : Int), (0 : Int))), V.pSub (List.getD x322 (Int.toNat x303) ((0 : Int), (0 : Int), (0 : Int))) (List.getD x322 (Int.toNat x302) ((0 : Int), (0 : Int), (0 : Int)))]
                                      (fun (x325 : L3) ↦
                                        kn (IntKind.wrap .i64 (x303 + (1 : Int)))
                                          (x323 ++
                                            [V.pShort
                                                (IntKind.wrap .i64
                                                    (V.sideP x322 (V.pCross (V.pSub (List.getD x322 (Int.toNat x302) ((0 : Int), (0 : Int), (0 : Int))) (List.getD x322 (Int.toNat x301) ((0 : Int), (0 : Int), (0 : Int)))) (V.pSub (List.getD x322 (Int.toNat x303) ((0 : Int), (0 : Int), (0 : Int))) (List.getD x322 (Int.toNat x301) ((0 : Int), (0 : Int), (0 : Int))))) (List.getD x322 (Int.toNat x301) ((0 : Int), (0 : Int), (0 : Int))) *
                                                      Prod.fst (V.pCross (V.pSub (List.getD x322 (Int.toNat x302) ((0 : Int), (0 : Int), (0 : Int))) (List.getD x322 (Int.toNat x301) ((0 : Int), (0 : Int), (0 : Int)))) (V.pSub (List.getD x322 (Int.toNat x303) ((0 : Int), (0 : Int), (0 : Int))) (List.getD x322 (Int.toNat x301) ((0 : Int), (0 : Int), (0 : Int)))))),
                                                  IntKind.wrap .i64
                                                    (V.sideP x322 (V.pCross (V.pSub (List.getD x322 (Int.toNat x302) ((0 : Int), (0 : Int), (0 : Int))) (List.getD x322 (Int.toNat x301) ((0 : Int), (0 : Int), (0 : Int)))) (V.pSub (List.getD x322 (Int.toNat x303) ((0 : Int), (0 : Int), (0 : Int))) (List.getD x322 (Int.toNat x301) ((0 : Int), (0 : Int), (0 : Int))))) (List.getD x322 (Int.toNat x301) ((0 : Int), (0 : Int), (0 : Int))) *
                                                      Prod.fst (Prod.snd (V.pCross (V.pSub (List.getD x322 (Int.toNat x302) ((0 : Int), (0 : Int), (0 : Int))) (List.getD x322 (Int.toNat x301) ((0 : Int), (0 : Int), (0 : Int)))) (V.pSub (List.getD x322 (Int.toNat x303) ((0 : Int), (0 : Int), (0 : Int))) (List.getD x322 (Int.toNat x301) ((0 : Int), (0 : Int), (0 : Int))))))),
                                                  IntKind.wrap .i64
                                                    (V.sideP x322 (V.pCross (V.pSub (List.getD x322 (Int.toNat x302) ((0 : Int), (0 : Int), (0 : Int))) (List.getD x322 (Int.toNat x301) ((0 : Int), (0 : Int), (0 : Int)))) (V.pSub (List.getD x322 (Int.toNat x303) ((0 : Int), (0 : Int), (0 : Int))) (List.getD x322 (Int.toNat x301) ((0 : Int), (0 : Int), (0 : Int))))) (List.getD x322 (Int.toNat x301) ((0 : Int), (0 : Int), (0 : Int))) *
                                                      Prod.snd (Prod.snd (V.pCross (V.pSub (List.getD x322 (Int.toNat x302) ((0 : Int), (0 : Int), (0 : Int))) (List.getD x322 (Int.toNat x301) ((0 : Int), (0 : Int), (0 : Int)))) (V.pSub (List.getD x322 (Int.toNat x303) ((0 : Int), (0 : Int), (0 : Int))) (List.getD x322 (Int.toNat x301) ((0 : Int), (0 : Int), (0 : Int))))))))])
                                          x325)
                                      ((100 : Nat) + List.length x312 + List.length x313 + List.length x314 + List.length x315 + List.length x317 + List.length x318 + List.length x319 + List.length x321 + List.length x322 +
                                            List.length
                                              (x323 ++
                                                [V.pShort
                                                    (IntKind.wrap .i64
                                                        (V.sideP x322 (V.pCross (V.pSub (List.getD x322 (Int.toNat x302) ((0 : Int), (0 : Int), (0 : Int))) (List.getD x322 (Int.toNat x301) ((0 : Int), (0 : Int), (0 : Int)))) (V.pSub (List.getD x322 (Int.toNat x303) ((0 : Int), (0 : Int), (0 : Int))) (List.getD x322 (Int.toNat x301) ((0 : Int), (0 : Int), (0 : Int))))) (List.getD x322 (Int.toNat x301) ((0 : Int), (0 : Int), (0 : Int))) *
                                                          Prod.fst (V.pCross (V.pSub (List.getD x322 (Int.toNat x302) ((0 : Int), (0 : Int), (0 : Int))) (List.getD x322 (Int.toNat x301) ((0 : Int), (0 : Int), (0 : Int)))) (V.pSub (List.getD x322 (Int.toNat x303) ((0 : Int), (0 : Int), (0 : Int))) (List.getD x322 (Int.toNat x301) ((0 : Int), (0 : Int), (0 : Int)))))),
                                                      IntKind.wrap .i64
                                                        (V.sideP x322 (V.pCross (V.pSub (List.getD x322 (Int.toNat x302) ((0 : Int), (0 : Int), (0 : Int))) (List.getD x322 (Int.toNat x301) ((0 : Int), (0 : Int), (0 : Int)))) (V.pSub (List.getD x322 (Int.toNat x303) ((0 : Int), (0 : Int), (0 : Int))) (List.getD x322 (Int.toNat x301) ((0 : Int), (0 : Int), (0 : Int))))) (List.getD x322 (Int.toNat x301) ((0 : Int), (0 : Int), (0 : Int))) *
                                                          Prod.fst (Prod.snd (V.pCross (V.pSub (List.getD x322 (Int.toNat x302) ((0 : Int), (0 : Int), (0 : Int))) (List.getD x322 (Int.toNat x301) ((0 : Int), (0 : Int), (0 : Int)))) (V.pSub (List.getD x322 (Int.toNat x303) ((0 : Int), (0 : Int), (0 : Int))) (List.getD x322 (Int.toNat x301) ((0 : Int), (0 : Int), (0 : Int))))))),
                                                      IntKind.wrap .i64
                                                        (V.sideP x322 (V.pCross (V.pSub (List.getD x322 (Int.toNat x302) ((0 : Int), (0 : Int), (0 : Int))) (List.getD x322 (Int.toNat x301) ((0 : Int), (0 : Int), (0 : Int)))) (V.pSub (List.getD x322 (Int.toNat x303) ((0 : Int), (0 : Int), (0 : Int))) (List.getD x322 (Int.toNat x301) ((0 : Int), (0 : Int), (0 : Int))))) (List.getD x322 (Int.toNat x301) ((0 : Int), (0 : Int), (0 : Int))) *
                                                          Prod.snd (Prod.snd (V.pCross (V.pSub (List.getD x322 (Int.toNat x302) ((0 : Int), (0 : Int), (0 : Int))) (List.getD x322 (Int.toNat x301) ((0 : Int), (0 : Int), (0 : Int)))) (V.pSub (List.getD x322 (Int.toNat x303) ((0 : Int), (0 : Int), (0 : Int))) (List.getD x322 (Int.toNat x301) ((0 : Int), (0 : Int), (0 : Int))))))))]) +
                                          List.length x324 +
                                        ((2 : Nat) + (1 : Nat)))
                                      (0 : Int) x324
                                  else none
                                else none
                              else none
                            else none
                          else none
                        else none
                      else none
                    else
                      if (0 : Int) ≤ x302 ∧ x302 < (↑(List.length x322) : Int) then
                        if (0 : Int) ≤ x301 ∧ x301 < (↑(List.length x322) : Int) then
                          if (0 : Int) ≤ x303 ∧ x303 < (↑(List.length x322) : Int) then
                            if (0 : Int) ≤ x301 ∧ x301 < (↑(List.length x322) : Int) then
                              if (0 : Int) ≤ x303 ∧ x303 < (↑(List.length x322) : Int) then
                                if (0 : Int) ≤ x302 ∧ x302 < (↑(List.length x322) : Int) then
                                  M.core_l2 (↑((2 : Nat) + (1 : Nat)) : Int)
                                    [V.pSub (List.getD x322 (Int.toNat x302) ((0 : Int), (0 : Int), (0 : Int))) (List.getD x322 (Int.toNat x301) ((0 : Int), (0 : Int), (0 : Int))), V.pSub (List.getD x322 (Int.toNat x303) ((0 : Int), (0 : Int), (0 : Int))) (List.getD x322 (Int.toNat x301) ((0 : Int), (0 : Int), (0 : Int))), V.pSub (List.getD x322 (Int.toNat x303) ((0 : Int), (0 : Int), (0 : Int))) (List.getD x322 (Int.toNat x302) ((0 : Int), (0 : Int), (0 : Int)))]
                                    (fun (x326 : L3) ↦ kn (IntKind.wrap .i64 (x303 + (1 : Int))) x323 x326) ((100 : Nat) + List.length x312 + List.length x313 + List.length x314 + List.length x315 + List.length x317 + List.length x318 + List.length x319 + List.length x321 + List.length x322 + List.length x323 + List.length x324 + ((2 : Nat) + (1 : Nat))) (0 : Int) x324
                                else none
                              else none
                            else none
                          else none
                        else none
                      else none
                  else none
            else none
          else none
        else none
      else none
    else none
  else none
noncomputable def _root_.Go.Proofs.Ytkjellhkamfciaa.M.core_l3 {α : Type} (x301 : Int) (x302 : Int) (x312 : L3) (x313 : L3) (x314 : L3) (x315 : L3) (x317 : L3) (x318 : L3) (x319 : L3) (x321 : L3) (x322 : L3) (k0 : L3 → L3 → Option α) (k1 : L3 → L3 → Option α) : Nat → Int → L3 → L3 → Option α
  | 0, _, _, _ => none
  | n + 1, x303, x323, x324 => M.core_l3_step x301 x302 x312 x313 x314 x315 x317 x318 x319 x321 x322 (M.core_l3 x301 x302 x312 x313 x314 x315 x317 x318 x319 x321 x322 k0 k1 n) k0 k1 x303 x323 x324
theorem core_l3_step_eq {α : Type} (x301 : Int) (x302 : Int) (x303 : Int) (x304 : Int) (x305 : Int) (x306 : Int) (x307 : Int) (x308 : Int) (x309 : Int) (x310 : Int) (x311 : Value) (x312 : L3) (x313 : L3) (x314 : L3) (x315 : L3) (x316 : Int) (x317 : L3) (x318 : L3) (x319 : L3) (x320 : Int) (x321 : L3) (x322 : L3) (x323 : L3) (x324 : L3) (Q : Ex → St → Option α) : (loopStep E (exec E look_check core_l2_lps 400) 30 [false, true, true, false, false, false, true, false, false, true, true, false, false, true, true, false, false, true, true, true, false] 13 (codeAt E.P 30 [false, true, true, false, false, false, true, false, false, true, true, false, false, true, true, false, false, true, true, true, false])) (St.mk (some (SV.ptr (nat_lit 8) (nat_lit 0)) :: none :: some (SV.sl (nat_lit 13)) :: some (SV.int .i64 x301) :: some (SV.int .i64 x302) :: some (SV.int .i64 x303) :: nn 10 (some (SV.int .i64 x304) :: some (SV.int .i64 x305) :: nn 152 ([])))
  [.cells [SV.int .i64 x306, SV.int .i64 x307, SV.int .i64 x308, SV.int .i64 x309, SV.int .i64 x310, SV.ros x311 kP x312] (nat_lit 26), .seq kP x313 (nat_lit 23), .seq kP x314 (nat_lit 23),
    .seq kP x315 (nat_lit 23), .cells [SV.sl (nat_lit 1), SV.sl (nat_lit 2), SV.sl (nat_lit 3), SV.int .i64 x316] (nat_lit 31), .seq kP x317 (nat_lit 23), .seq kP x318 (nat_lit 23), .seq kP x319 (nat_lit 23),
    .cells [SV.sl (nat_lit 13), SV.sl (nat_lit 14), SV.sl (nat_lit 15), SV.int .i64 x320] (nat_lit 31), .seq kP x321 (nat_lit 23), SObj.dead, SObj.dead, SObj.dead, .seq kP x322 (nat_lit 23), .seq kP x323 (nat_lit 23),
    .seq kP x324 (nat_lit 23)]) Q = M.core_l3_step x301 x302 x312 x313 x314 x315 x317 x318 x319 x321 x322 (fun (x331 : Int) (x332 : L3) (x333 : L3) => Q .normal (St.mk (some (SV.ptr (nat_lit 8) (nat_lit 0)) :: none :: some (SV.sl (nat_lit 13)) :: some (SV.int .i64 x301) :: some (SV.int .i64 x302) :: some (SV.int .i64 x331) :: nn 10 (some (SV.int .i64 x304) :: some (SV.int .i64 x305) :: nn 152 ([])))
  [.cells [SV.int .i64 x306, SV.int .i64 x307, SV.int .i64 x308, SV.int .i64 x309, SV.int .i64 x310, SV.ros x311 kP x312] (nat_lit 26), .seq kP x313 (nat_lit 23), .seq kP x314 (nat_lit 23),
    .seq kP x315 (nat_lit 23), .cells [SV.sl (nat_lit 1), SV.sl (nat_lit 2), SV.sl (nat_lit 3), SV.int .i64 x316] (nat_lit 31), .seq kP x317 (nat_lit 23), .seq kP x318 (nat_lit 23), .seq kP x319 (nat_lit 23),
    .cells [SV.sl (nat_lit 13), SV.sl (nat_lit 14), SV.sl (nat_lit 15), SV.int .i64 x320] (nat_lit 31), .seq kP x321 (nat_lit 23), SObj.dead, SObj.dead, SObj.dead, .seq kP x322 (nat_lit 23), .seq kP x332 (nat_lit 23),
    .seq kP x333 (nat_lit 23)])) (fun (x327 : L3) (x328 : L3) => Q (.exit 1) (St.mk (some (SV.ptr (nat_lit 8) (nat_lit 0)) :: none :: some (SV.sl (nat_lit 13)) :: some (SV.int .i64 x301) :: some (SV.int .i64 x302) :: nn 11 (some (SV.int .i64 x304) :: some (SV.int .i64 x305) :: nn 152 ([])))
  [.cells [SV.int .i64 x306, SV.int .i64 x307, SV.int .i64 x308, SV.int .i64 x309, SV.int .i64 x310, SV.ros x311 kP x312] (nat_lit 26), .seq kP x313 (nat_lit 23), .seq kP x314 (nat_lit 23),
    .seq kP x315 (nat_lit 23), .cells [SV.sl (nat_lit 1), SV.sl (nat_lit 2), SV.sl (nat_lit 3), SV.int .i64 x316] (nat_lit 31), .seq kP x317 (nat_lit 23), .seq kP x318 (nat_lit 23), .seq kP x319 (nat_lit 23),
    .cells [SV.sl (nat_lit 13), SV.sl (nat_lit 14), SV.sl (nat_lit 15), SV.int .i64 x320] (nat_lit 31), .seq kP x321 (nat_lit 23), SObj.dead, SObj.dead, SObj.dead, .seq kP x322 (nat_lit 23), .seq kP x327 (nat_lit 23),
    .seq kP x328 (nat_lit 23)])) (fun (x329 : L3) (x330 : L3) => Q (.exit 4) (St.mk (some (SV.ptr (nat_lit 8) (nat_lit 0)) :: none :: some (SV.sl (nat_lit 13)) :: some (SV.int .i64 x301) :: some (SV.int .i64 x302) :: nn 11 (some (SV.int .i64 x304) :: some (SV.int .i64 x305) :: nn 152 ([])))
  [.cells [SV.int .i64 x306, SV.int .i64 x307, SV.int .i64 x308, SV.int .i64 x309, SV.int .i64 x310, SV.ros x311 kP x312] (nat_lit 26), .seq kP x313 (nat_lit 23), .seq kP x314 (nat_lit 23),
    .seq kP x315 (nat_lit 23), .cells [SV.sl (nat_lit 1), SV.sl (nat_lit 2), SV.sl (nat_lit 3), SV.int .i64 x316] (nat_lit 31), .seq kP x317 (nat_lit 23), .seq kP x318 (nat_lit 23), .seq kP x319 (nat_lit 23),
    .cells [SV.sl (nat_lit 13), SV.sl (nat_lit 14), SV.sl (nat_lit 15), SV.int .i64 x320] (nat_lit 31), .seq kP x321 (nat_lit 23), SObj.dead, SObj.dead, SObj.dead, .seq kP x322 (nat_lit 23), .seq kP x329 (nat_lit 23),
    .seq kP x330 (nat_lit 23)])) x303 x323 x324 := by kernel_rfl
theorem core_l3_iter {α : Type} (x301 : Int) (x302 : Int) (x304 : Int) (x305 : Int) (x306 : Int) (x307 : Int) (x308 : Int) (x309 : Int) (x310 : Int) (x311 : Value) (x312 : L3) (x313 : L3) (x314 : L3) (x315 : L3) (x316 : Int) (x317 : L3) (x318 : L3) (x319 : L3) (x320 : Int) (x321 : L3) (x322 : L3) (Q : Ex → St → Option α) : ∀ (n : Nat) (x303 : Int) (x323 : L3) (x324 : L3), iter (loopStep E (exec E look_check core_l2_lps 400) 30 [false, true, true, false, false, false, true, false, false, true, true, false, false, true, true, false, false, true, true, true, false] 13 (codeAt E.P 30 [false, true, true, false, false, false, true, false, false, true, true, false, false, true, true, false, false, true, true, true, false])) n (St.mk (some (SV.ptr (nat_lit 8) (nat_lit 0)) :: none :: some (SV.sl (nat_lit 13)) :: some (SV.int .i64 x301) :: some (SV.int .i64 x302) :: some (SV.int .i64 x303) :: nn 10 (some (SV.int .i64 x304) :: some (SV.int .i64 x305) :: nn 152 ([])))
  [.cells [SV.int .i64 x306, SV.int .i64 x307, SV.int .i64 x308, SV.int .i64 x309, SV.int .i64 x310, SV.ros x311 kP x312] (nat_lit 26), .seq kP x313 (nat_lit 23), .seq kP x314 (nat_lit 23),
    .seq kP x315 (nat_lit 23), .cells [SV.sl (nat_lit 1), SV.sl (nat_lit 2), SV.sl (nat_lit 3), SV.int .i64 x316] (nat_lit 31), .seq kP x317 (nat_lit 23), .seq kP x318 (nat_lit 23), .seq kP x319 (nat_lit 23),
    .cells [SV.sl (nat_lit 13), SV.sl (nat_lit 14), SV.sl (nat_lit 15), SV.int .i64 x320] (nat_lit 31), .seq kP x321 (nat_lit 23), SObj.dead, SObj.dead, SObj.dead, .seq kP x322 (nat_lit 23), .seq kP x323 (nat_lit 23),
    .seq kP x324 (nat_lit 23)]) Q = M.core_l3 x301 x302 x312 x313 x314 x315 x317 x318 x319 x321 x322 (fun (x327 : L3) (x328 : L3) => Q (.exit 1) (St.mk (some (SV.ptr (nat_lit 8) (nat_lit 0)) :: none :: some (SV.sl (nat_lit 13)) :: some (SV.int .i64 x301) :: some (SV.int .i64 x302) :: nn 11 (some (SV.int .i64 x304) :: some (SV.int .i64 x305) :: nn 152 ([])))
  [.cells [SV.int .i64 x306, SV.int .i64 x307, SV.int .i64 x308, SV.int .i64 x309, SV.int .i64 x310, SV.ros x311 kP x312] (nat_lit 26), .seq kP x313 (nat_lit 23), .seq kP x314 (nat_lit 23),
    .seq kP x315 (nat_lit 23), .cells [SV.sl (nat_lit 1), SV.sl (nat_lit 2), SV.sl (nat_lit 3), SV.int .i64 x316] (nat_lit 31), .seq kP x317 (nat_lit 23), .seq kP x318 (nat_lit 23), .seq kP x319 (nat_lit 23),
    .cells [SV.sl (nat_lit 13), SV.sl (nat_lit 14), SV.sl (nat_lit 15), SV.int .i64 x320] (nat_lit 31), .seq kP x321 (nat_lit 23), SObj.dead, SObj.dead, SObj.dead, .seq kP x322 (nat_lit 23), .seq kP x327 (nat_lit 23),
    .seq kP x328 (nat_lit 23)])) (fun (x329 : L3) (x330 : L3) => Q (.exit 4) (St.mk (some (SV.ptr (nat_lit 8) (nat_lit 0)) :: none :: some (SV.sl (nat_lit 13)) :: some (SV.int .i64 x301) :: some (SV.int .i64 x302) :: nn 11 (some (SV.int .i64 x304) :: some (SV.int .i64 x305) :: nn 152 ([])))
  [.cells [SV.int .i64 x306, SV.int .i64 x307, SV.int .i64 x308, SV.int .i64 x309, SV.int .i64 x310, SV.ros x311 kP x312] (nat_lit 26), .seq kP x313 (nat_lit 23), .seq kP x314 (nat_lit 23),
    .seq kP x315 (nat_lit 23), .cells [SV.sl (nat_lit 1), SV.sl (nat_lit 2), SV.sl (nat_lit 3), SV.int .i64 x316] (nat_lit 31), .seq kP x317 (nat_lit 23), .seq kP x318 (nat_lit 23), .seq kP x319 (nat_lit 23),
    .cells [SV.sl (nat_lit 13), SV.sl (nat_lit 14), SV.sl (nat_lit 15), SV.int .i64 x320] (nat_lit 31), .seq kP x321 (nat_lit 23), SObj.dead, SObj.dead, SObj.dead, .seq kP x322 (nat_lit 23), .seq kP x329 (nat_lit 23),
    .seq kP x330 (nat_lit 23)])) n x303 x323 x324
  | 0, _, _, _ => rfl
  | n + 1, x303, x323, x324 => (core_l3_step_eq x301 x302 x303 x304 x305 x306 x307 x308 x309 x310 x311 x312 x313 x314 x315 x316 x317 x318 x319 x320 x321 x322 x323 x324 (iterK (loopStep E (exec E look_check core_l2_lps 400) 30 [false, true, true, false, false, false, true, false, false, true, true, false, false, true, true, false, false, true, true, true, false] 13 (codeAt E.P 30 [false, true, true, false, false, false, true, false, false, true, true, false, false, true, true, false, false, true, true, true, false])) n Q)).trans (congrArg (fun kn => M.core_l3_step x301 x302 x312 x313 x314 x315 x317 x318 x319 x321 x322 kn (fun (x327 : L3) (x328 : L3) => Q (.exit 1) (St.mk (some (SV.ptr (nat_lit 8) (nat_lit 0)) :: none :: some (SV.sl (nat_lit 13)) :: some (SV.int .i64 x301) :: some (SV.int .i64 x302) :: nn 11 (some (SV.int .i64 x304) :: some (SV.int .i64 x305) :: nn 152 ([])))
  [.cells [SV.int .i64 x306, SV.int .i64 x307, SV.int .i64 x308, SV.int .i64 x309, SV.int .i64 x310, SV.ros x311 kP x312] (nat_lit 26), .seq kP x313 (nat_lit 23), .seq kP x314 (nat_lit 23),
    .seq kP x315 (nat_lit 23), .cells [SV.sl (nat_lit 1), SV.sl (nat_lit 2), SV.sl (nat_lit 3), SV.int .i64 x316] (nat_lit 31), .seq kP x317 (nat_lit 23), .seq kP x318 (nat_lit 23), .seq kP x319 (nat_lit 23),
    .cells [SV.sl (nat_lit 13), SV.sl (nat_lit 14), SV.sl (nat_lit 15), SV.int .i64 x320] (nat_lit 31), .seq kP x321 (nat_lit 23), SObj.dead, SObj.dead, SObj.dead, .seq kP x322 (nat_lit 23), .seq kP x327 (nat_lit 23),
    .seq kP x328 (nat_lit 23)])) (fun (x329 : L3) (x330 : L3) => Q (.exit 4) (St.mk (some (SV.ptr (nat_lit 8) (nat_lit 0)) :: none :: some (SV.sl (nat_lit 13)) :: some (SV.int .i64 x301) :: some (SV.int .i64 x302) :: nn 11 (some (SV.int .i64 x304) :: some (SV.int .i64 x305) :: nn 152 ([])))
  [.cells [SV.int .i64 x306, SV.int .i64 x307, SV.int .i64 x308, SV.int .i64 x309, SV.int .i64 x310, SV.ros x311 kP x312] (nat_lit 26), .seq kP x313 (nat_lit 23), .seq kP x314 (nat_lit 23),
    .seq kP x315 (nat_lit 23), .cells [SV.sl (nat_lit 1), SV.sl (nat_lit 2), SV.sl (nat_lit 3), SV.int .i64 x316] (nat_lit 31), .seq kP x317 (nat_lit 23), .seq kP x318 (nat_lit 23), .seq kP x319 (nat_lit 23),
    .cells [SV.sl (nat_lit 13), SV.sl (nat_lit 14), SV.sl (nat_lit 15), SV.int .i64 x320] (nat_lit 31), .seq kP x321 (nat_lit 23), SObj.dead, SObj.dead, SObj.dead, .seq kP x322 (nat_lit 23), .seq kP x329 (nat_lit 23),
    .seq kP x330 (nat_lit 23)])) x303 x323 x324) (funext fun x303 => funext fun x323 => funext fun x324 => core_l3_iter x301 x302 x304 x305 x306 x307 x308 x309 x310 x311 x312 x313 x314 x315 x316 x317 x318 x319 x320 x321 x322 Q n x303 x323 x324))
noncomputable def core_l3_go {α : Type} (ds : List D) (Q : Ex → St → Option α) : Option α :=
  dI ds fun x301 ds => dI ds fun x302 ds => dI ds fun x303 ds => dI ds fun x304 ds => dI ds fun x305 ds => dI ds fun x306 ds => dI ds fun x307 ds => dI ds fun x308 ds => dI ds fun x309 ds => dI ds fun x310 ds => dV ds fun x311 ds => dL kP ds fun x312 ds => dL kP ds fun x313 ds => dL kP ds fun x314 ds => dL kP ds fun x315 ds => dI ds fun x316 ds => dL kP ds fun x317 ds => dL kP ds fun x318 ds => dL kP ds fun x319 ds => dI ds fun x320 ds => dL kP ds fun x321 ds => dL kP ds fun x322 ds => dL kP ds fun x323 ds => dL kP ds fun x324 ds => dE ds (M.core_l3 x301 x302 x312 x313 x314 x315 x317 x318 x319 x321 x322 (fun (x327 : L3) (x328 : L3) => Q (.exit 1) (St.mk (some (SV.ptr (nat_lit 8) (nat_lit 0)) :: none :: some (SV.sl (nat_lit 13)) :: some (SV.int .i64 x301) :: some (SV.int .i64 x302) :: nn 11 (some (SV.int .i64 x304) :: some (SV.int .i64 x305) :: nn 152 ([])))
  [.cells [SV.int .i64 x306, SV.int .i64 x307, SV.int .i64 x308, SV.int .i64 x309, SV.int .i64 x310, SV.ros x311 kP x312] (nat_lit 26), .seq kP x313 (nat_lit 23), .seq kP x314 (nat_lit 23),
    .seq kP x315 (nat_lit 23), .cells [SV.sl (nat_lit 1), SV.sl (nat_lit 2), SV.sl (nat_lit 3), SV.int .i64 x316] (nat_lit 31), .seq kP x317 (nat_lit 23), .seq kP x318 (nat_lit 23), .seq kP x319 (nat_lit 23),
    .cells [SV.sl (nat_lit 13), SV.sl (nat_lit 14), SV.sl (nat_lit 15), SV.int .i64 x320] (nat_lit 31), .seq kP x321 (nat_lit 23), SObj.dead, SObj.dead, SObj.dead, .seq kP x322 (nat_lit 23), .seq kP x327 (nat_lit 23),
    .seq kP x328 (nat_lit 23)])) (fun (x329 : L3) (x330 : L3) => Q (.exit 4) (St.mk (some (SV.ptr (nat_lit 8) (nat_lit 0)) :: none :: some (SV.sl (nat_lit 13)) :: some (SV.int .i64 x301) :: some (SV.int .i64 x302) :: nn 11 (some (SV.int .i64 x304) :: some (SV.int .i64 x305) :: nn 152 ([])))
  [.cells [SV.int .i64 x306, SV.int .i64 x307, SV.int .i64 x308, SV.int .i64 x309, SV.int .i64 x310, SV.ros x311 kP x312] (nat_lit 26), .seq kP x313 (nat_lit 23), .seq kP x314 (nat_lit 23),
    .seq kP x315 (nat_lit 23), .cells [SV.sl (nat_lit 1), SV.sl (nat_lit 2), SV.sl (nat_lit 3), SV.int .i64 x316] (nat_lit 31), .seq kP x317 (nat_lit 23), .seq kP x318 (nat_lit 23), .seq kP x319 (nat_lit 23),
    .cells [SV.sl (nat_lit 13), SV.sl (nat_lit 14), SV.sl (nat_lit 15), SV.int .i64 x320] (nat_lit 31), .seq kP x321 (nat_lit 23), SObj.dead, SObj.dead, SObj.dead, .seq kP x322 (nat_lit 23), .seq kP x329 (nat_lit 23),
    .seq kP x330 (nat_lit 23)])) (100 + x312.length + x313.length + x314.length + x315.length + x317.length + x318.length + x319.length + x321.length + x322.length + x323.length + x324.length) x303 x323 x324)
theorem core_l3_ok {α : Type} : LoopOk E.P 30 [false, true, true, false, false, false, true, false, false, true, true, false, false, true, true, false, false, true, true, true, false] 13 (lEnt (α := α) (St.mk (some (SV.ptr (nat_lit 8) (nat_lit 0)) :: none :: some (SV.sl (nat_lit 13)) :: some (SV.int .i64 (0 : Int)) :: some (SV.int .i64 (0 : Int)) :: some (SV.int .i64 (0 : Int)) :: nn 10 (some (SV.int .i64 (0 : Int)) :: some (SV.int .i64 (0 : Int)) :: nn 152 ([])))
  [.cells [SV.int .i64 (0 : Int), SV.int .i64 (0 : Int), SV.int .i64 (0 : Int), SV.int .i64 (0 : Int), SV.int .i64 (0 : Int), SV.ros undef kP []] (nat_lit 26), .seq kP [] (nat_lit 23), .seq kP [] (nat_lit 23),
    .seq kP [] (nat_lit 23), .cells [SV.sl (nat_lit 1), SV.sl (nat_lit 2), SV.sl (nat_lit 3), SV.int .i64 (0 : Int)] (nat_lit 31), .seq kP [] (nat_lit 23), .seq kP [] (nat_lit 23), .seq kP [] (nat_lit 23),
    .cells [SV.sl (nat_lit 13), SV.sl (nat_lit 14), SV.sl (nat_lit 15), SV.int .i64 (0 : Int)] (nat_lit 31), .seq kP [] (nat_lit 23), SObj.dead, SObj.dead, SObj.dead, .seq kP [] (nat_lit 23), .seq kP [] (nat_lit 23),
    .seq kP [] (nat_lit 23)]) core_l3_go) :=
  lEnt_ok E (exec_sound E E_ok (look_check_ok) (core_l2_lps_ok) 400) fun ds Q r h S hS => by
    unfold core_l3_go at h
    obtain ⟨x301, ds, rfl, h1⟩ := dI_inv h
    obtain ⟨x302, ds, rfl, h2⟩ := dI_inv h1
    obtain ⟨x303, ds, rfl, h3⟩ := dI_inv h2
    obtain ⟨x304, ds, rfl, h4⟩ := dI_inv h3
    obtain ⟨x305, ds, rfl, h5⟩ := dI_inv h4
    obtain ⟨x306, ds, rfl, h6⟩ := dI_inv h5
    obtain ⟨x307, ds, rfl, h7⟩ := dI_inv h6
    obtain ⟨x308, ds, rfl, h8⟩ := dI_inv h7
    obtain ⟨x309, ds, rfl, h9⟩ := dI_inv h8
    obtain ⟨x310, ds, rfl, h10⟩ := dI_inv h9
    obtain ⟨x311, ds, rfl, h11⟩ := dV_inv h10
    obtain ⟨x312, ds, rfl, h12⟩ := dL_inv h11
    obtain ⟨x313, ds, rfl, h13⟩ := dL_inv h12
    obtain ⟨x314, ds, rfl, h14⟩ := dL_inv h13
    obtain ⟨x315, ds, rfl, h15⟩ := dL_inv h14
    obtain ⟨x316, ds, rfl, h16⟩ := dI_inv h15
    obtain ⟨x317, ds, rfl, h17⟩ := dL_inv h16
    obtain ⟨x318, ds, rfl, h18⟩ := dL_inv h17
    obtain ⟨x319, ds, rfl, h19⟩ := dL_inv h18
    obtain ⟨x320, ds, rfl, h20⟩ := dI_inv h19
    obtain ⟨x321, ds, rfl, h21⟩ := dL_inv h20
    obtain ⟨x322, ds, rfl, h22⟩ := dL_inv h21
    obtain ⟨x323, ds, rfl, h23⟩ := dL_inv h22
    obtain ⟨x324, ds, rfl, h24⟩ := dL_inv h23
    obtain ⟨rfl, hE⟩ := dE_inv h24
    have e : fillS (St.mk (some (SV.ptr (nat_lit 8) (nat_lit 0)) :: none :: some (SV.sl (nat_lit 13)) :: some (SV.int .i64 (0 : Int)) :: some (SV.int .i64 (0 : Int)) :: some (SV.int .i64 (0 : Int)) :: nn 10 (some (SV.int .i64 (0 : Int)) :: some (SV.int .i64 (0 : Int)) :: nn 152 ([])))
  [.cells [SV.int .i64 (0 : Int), SV.int .i64 (0 : Int), SV.int .i64 (0 : Int), SV.int .i64 (0 : Int), SV.int .i64 (0 : Int), SV.ros undef kP []] (nat_lit 26), .seq kP [] (nat_lit 23), .seq kP [] (nat_lit 23),
    .seq kP [] (nat_lit 23), .cells [SV.sl (nat_lit 1), SV.sl (nat_lit 2), SV.sl (nat_lit 3), SV.int .i64 (0 : Int)] (nat_lit 31), .seq kP [] (nat_lit 23), .seq kP [] (nat_lit 23), .seq kP [] (nat_lit 23),
    .cells [SV.sl (nat_lit 13), SV.sl (nat_lit 14), SV.sl (nat_lit 15), SV.int .i64 (0 : Int)] (nat_lit 31), .seq kP [] (nat_lit 23), SObj.dead, SObj.dead, SObj.dead, .seq kP [] (nat_lit 23), .seq kP [] (nat_lit 23),
    .seq kP [] (nat_lit 23)]) [.i x301, .i x302, .i x303, .i x304, .i x305, .i x306, .i x307, .i x308, .i x309, .i x310, .v x311, .l kP x312, .l kP x313, .l kP x314, .l kP x315, .i x316, .l kP x317, .l kP x318, .l kP x319, .i x320, .l kP x321, .l kP x322, .l kP x323, .l kP x324] = some (St.mk (some (SV.ptr (nat_lit 8) (nat_lit 0)) :: none :: some (SV.sl (nat_lit 13)) :: some (SV.int .i64 x301) :: some (SV.int .i64 x302) :: some (SV.int .i64 x303) :: nn 10 (some (SV.int .i64 x304) :: some (SV.int .i64 x305) :: nn 152 ([])))
  [.cells [SV.int .i64 x306, SV.int .i64 x307, SV.int .i64 x308, SV.int .i64 x309, SV.int .i64 x310, SV.ros x311 kP x312] (nat_lit 26), .seq kP x313 (nat_lit 23), .seq kP x314 (nat_lit 23),
    .seq kP x315 (nat_lit 23), .cells [SV.sl (nat_lit 1), SV.sl (nat_lit 2), SV.sl (nat_lit 3), SV.int .i64 x316] (nat_lit 31), .seq kP x317 (nat_lit 23), .seq kP x318 (nat_lit 23), .seq kP x319 (nat_lit 23),
    .cells [SV.sl (nat_lit 13), SV.sl (nat_lit 14), SV.sl (nat_lit 15), SV.int .i64 x320] (nat_lit 31), .seq kP x321 (nat_lit 23), SObj.dead, SObj.dead, SObj.dead, .seq kP x322 (nat_lit 23), .seq kP x323 (nat_lit 23),
    .seq kP x324 (nat_lit 23)]) := by kernel_rfl
    rw [e] at hS
    cases hS
    exact ⟨_, (core_l3_iter x301 x302 x304 x305 x306 x307 x308 x309 x310 x311 x312 x313 x314 x315 x316 x317 x318 x319 x320 x321 x322 Q _ x303 x323 x324).trans hE⟩
noncomputable def core_l3_lps {α : Type} : LookL α := addLp 30 [false, true, true, false, false, false, true, false, false, true, true, false, false, true, true, false, false, true, true, true, false] 13 (lEnt (St.mk (some (SV.ptr (nat_lit 8) (nat_lit 0)) :: none :: some (SV.sl (nat_lit 13)) :: some (SV.int .i64 (0 : Int)) :: some (SV.int .i64 (0 : Int)) :: some (SV.int .i64 (0 : Int)) :: nn 10 (some (SV.int .i64 (0 : Int)) :: some (SV.int .i64 (0 : Int)) :: nn 152 ([])))
  [.cells [SV.int .i64 (0 : Int), SV.int .i64 (0 : Int), SV.int .i64 (0 : Int), SV.int .i64 (0 : Int), SV.int .i64 (0 : Int), SV.ros undef kP []] (nat_lit 26), .seq kP [] (nat_lit 23), .seq kP [] (nat_lit 23),
    .seq kP [] (nat_lit 23), .cells [SV.sl (nat_lit 1), SV.sl (nat_lit 2), SV.sl (nat_lit 3), SV.int .i64 (0 : Int)] (nat_lit 31), .seq kP [] (nat_lit 23), .seq kP [] (nat_lit 23), .seq kP [] (nat_lit 23),
    .cells [SV.sl (nat_lit 13), SV.sl (nat_lit 14), SV.sl (nat_lit 15), SV.int .i64 (0 : Int)] (nat_lit 31), .seq kP [] (nat_lit 23), SObj.dead, SObj.dead, SObj.dead, .seq kP [] (nat_lit 23), .seq kP [] (nat_lit 23),
    .seq kP [] (nat_lit 23)]) core_l3_go) core_l2_lps
theorem core_l3_lps_ok {α : Type} : LoopsOk E.P (core_l3_lps (α := α)) := addLp_ok core_l3_ok (core_l2_lps_ok)

noncomputable def _root_.Go.Proofs.Ytkjellhkamfciaa.M.core_l4_step {α : Type} (x334 : Int) (x344 : L3) (x345 : L3) (x346 : L3) (x347 : L3) (x349 : L3) (x350 : L3) (x351 : L3) (x353 : L3) (x354 : L3) (kn : Int → L3 → L3 → Option α) (k0 : L3 → L3 → Option α) (k2 : L3 → L3 → Option α) (x335 : Int) (x355 : L3) (x356 : L3) : Option α :=
  if cLt x335 (↑(List.length x354) : Int) = true then
  M.core_l3 x334 x335 x344 x345 x346 x347 x349 x350 x351 x353 x354 (fun (x357 x358 : L3) ↦ k0 x357 x358) (fun (x359 x360 : L3) ↦ kn (IntKind.wrap .i64 (x335 + (1 : Int))) x359 x360) ((100 : Nat) + List.length x344 + List.length x345 + List.length x346 + List.length x347 + List.length x349 + List.length x350 + List.length x351 + List.length x353 + List.length x354 + List.length x355 + List.length x356) (IntKind.wrap .i64 (x335 + (1 : Int)))
    x355 x356
else k2 x355 x356
noncomputable def _root_.Go.Proofs.Ytkjellhkamfciaa.M.core_l4 {α : Type} (x334 : Int) (x344 : L3) (x345 : L3) (x346 : L3) (x347 : L3) (x349 : L3) (x350 : L3) (x351 : L3) (x353 : L3) (x354 : L3) (k0 : L3 → L3 → Option α) (k2 : L3 → L3 → Option α) : Nat → Int → L3 → L3 → Option α
  | 0, _, _, _ => none
  | n + 1, x335, x355, x356 => M.core_l4_step x334 x344 x345 x346 x347 x349 x350 x351 x353 x354 (M.core_l4 x334 x344 x345 x346 x347 x349 x350 x351 x353 x354 k0 k2 n) k0 k2 x335 x355 x356
theorem core_l4_step_eq {α : Type} (x334 : Int) (x335 : Int) (x336 : Int) (x337 : Int) (x338 : Int) (x339 : Int) (x340 : Int) (x341 : Int) (x342 : Int) (x343 : Value) (x344 : L3) (x345 : L3) (x346 : L3) (x347 : L3) (x348 : Int) (x349 : L3) (x350 : L3) (x351 : L3) (x352 : Int) (x353 : L3) (x354 : L3) (x355 : L3) (x356 : L3) (Q : Ex → St → Option α) : (loopStep E (exec E look_check core_l3_lps 400) 30 [false, true, true, false, false, true, true, false, false, true, true, true, false] 13 (codeAt E.P 30 [false, true, true, false, false, true, true, false, false, true, true, true, false])) (St.mk (some (SV.ptr (nat_lit 8) (nat_lit 0)) :: none :: some (SV.sl (nat_lit 13)) :: some (SV.int .i64 x334) :: some (SV.int .i64 x335) :: nn 11 (some (SV.int .i64 x336) :: some (SV.int .i64 x337) :: nn 152 ([])))
  [.cells [SV.int .i64 x338, SV.int .i64 x339, SV.int .i64 x340, SV.int .i64 x341, SV.int .i64 x342, SV.ros x343 kP x344] (nat_lit 26), .seq kP x345 (nat_lit 23), .seq kP x346 (nat_lit 23),
    .seq kP x347 (nat_lit 23), .cells [SV.sl (nat_lit 1), SV.sl (nat_lit 2), SV.sl (nat_lit 3), SV.int .i64 x348] (nat_lit 31), .seq kP x349 (nat_lit 23), .seq kP x350 (nat_lit 23), .seq kP x351 (nat_lit 23),
    .cells [SV.sl (nat_lit 13), SV.sl (nat_lit 14), SV.sl (nat_lit 15), SV.int .i64 x352] (nat_lit 31), .seq kP x353 (nat_lit 23), SObj.dead, SObj.dead, SObj.dead, .seq kP x354 (nat_lit 23), .seq kP x355 (nat_lit 23),
    .seq kP x356 (nat_lit 23)]) Q = M.core_l4_step x334 x344 x345 x346 x347 x349 x350 x351 x353 x354 (fun (x365 : Int) (x366 : L3) (x367 : L3) => Q .normal (St.mk (some (SV.ptr (nat_lit 8) (nat_lit 0)) :: none :: some (SV.sl (nat_lit 13)) :: some (SV.int .i64 x334) :: some (SV.int .i64 x365) :: nn 11 (some (SV.int .i64 x336) :: some (SV.int .i64 x337) :: nn 152 ([])))
  [.cells [SV.int .i64 x338, SV.int .i64 x339, SV.int .i64 x340, SV.int .i64 x341, SV.int .i64 x342, SV.ros x343 kP x344] (nat_lit 26), .seq kP x345 (nat_lit 23), .seq kP x346 (nat_lit 23),
    .seq kP x347 (nat_lit 23), .cells [SV.sl (nat_lit 1), SV.sl (nat_lit 2), SV.sl (nat_lit 3), SV.int .i64 x348] (nat_lit 31), .seq kP x349 (nat_lit 23), .seq kP x350 (nat_lit 23), .seq kP x351 (nat_lit 23),
    .cells [SV.sl (nat_lit 13), SV.sl (nat_lit 14), SV.sl (nat_lit 15), SV.int .i64 x352] (nat_lit 31), .seq kP x353 (nat_lit 23), SObj.dead, SObj.dead, SObj.dead, .seq kP x354 (nat_lit 23), .seq kP x366 (nat_lit 23),
    .seq kP x367 (nat_lit 23)])) (fun (x361 : L3) (x362 : L3) => Q (.exit 1) (St.mk (some (SV.ptr (nat_lit 8) (nat_lit 0)) :: none :: some (SV.sl (nat_lit 13)) :: nn 13 (some (SV.int .i64 x336) :: some (SV.int .i64 x337) :: nn 152 ([])))
  [.cells [SV.int .i64 x338, SV.int .i64 x339, SV.int .i64 x340, SV.int .i64 x341, SV.int .i64 x342, SV.ros x343 kP x344] (nat_lit 26), .seq kP x345 (nat_lit 23), .seq kP x346 (nat_lit 23),
    .seq kP x347 (nat_lit 23), .cells [SV.sl (nat_lit 1), SV.sl (nat_lit 2), SV.sl (nat_lit 3), SV.int .i64 x348] (nat_lit 31), .seq kP x349 (nat_lit 23), .seq kP x350 (nat_lit 23), .seq kP x351 (nat_lit 23),
    .cells [SV.sl (nat_lit 13), SV.sl (nat_lit 14), SV.sl (nat_lit 15), SV.int .i64 x352] (nat_lit 31), .seq kP x353 (nat_lit 23), SObj.dead, SObj.dead, SObj.dead, .seq kP x354 (nat_lit 23), .seq kP x361 (nat_lit 23),
    .seq kP x362 (nat_lit 23)])) (fun (x363 : L3) (x364 : L3) => Q (.exit 2) (St.mk (some (SV.ptr (nat_lit 8) (nat_lit 0)) :: none :: some (SV.sl (nat_lit 13)) :: nn 13 (some (SV.int .i64 x336) :: some (SV.int .i64 x337) :: nn 152 ([])))
  [.cells [SV.int .i64 x338, SV.int .i64 x339, SV.int .i64 x340, SV.int .i64 x341, SV.int .i64 x342, SV.ros x343 kP x344] (nat_lit 26), .seq kP x345 (nat_lit 23), .seq kP x346 (nat_lit 23),
    .seq kP x347 (nat_lit 23), .cells [SV.sl (nat_lit 1), SV.sl (nat_lit 2), SV.sl (nat_lit 3), SV.int .i64 x348] (nat_lit 31), .seq kP x349 (nat_lit 23), .seq kP x350 (nat_lit 23), .seq kP x351 (nat_lit 23),
    .cells [SV.sl (nat_lit 13), SV.sl (nat_lit 14), SV.sl (nat_lit 15), SV.int .i64 x352] (nat_lit 31), .seq kP x353 (nat_lit 23), SObj.dead, SObj.dead, SObj.dead, .seq kP x354 (nat_lit 23), .seq kP x363 (nat_lit 23),
    .seq kP x364 (nat_lit 23)])) x335 x355 x356 := by kernel_rfl
theorem core_l4_iter {α : Type} (x334 : Int) (x336 : Int) (x337 : Int) (x338 : Int) (x339 : Int) (x340 : Int) (x341 : Int) (x342 : Int) (x343 : Value) (x344 : L3) (x345 : L3) (x346 : L3) (x347 : L3) (x348 : Int) (x349 : L3) (x350 : L3) (x351 : L3) (x352 : Int) (x353 : L3) (x354 : L3) (Q : Ex → St → Option α) : ∀ (n : Nat) (x335 : Int) (x355 : L3) (x356 : L3), iter (loopStep E (exec E look_check core_l3_lps 400) 30 [false, true, true, false, false, true, true, false, false, true, true, true, false] 13 (codeAt E.P 30 [false, true, true, false, false, true, true, false, false, true, true, true, false])) n (St.mk (some (SV.ptr (nat_lit 8) (nat_lit 0)) :: none :: some (SV.sl (nat_lit 13)) :: some (SV.int .i64 x334) :: some (SV.int .i64 x335) :: nn 11 (some (SV.int .i64 x336) :: some (SV.int .i64 x337) :: nn 152 ([])))
  [.cells [SV.int .i64 x338, SV.int .i64 x339, SV.int .i64 x340, SV.int .i64 x341, SV.int .i64 x342, SV.ros x343 kP x344] (nat_lit 26), .seq kP x345 (nat_lit 23), .seq kP x346 (nat_lit 23),
    .seq kP x347 (nat_lit 23), .cells [SV.sl (nat_lit 1), SV.sl (nat_lit 2), SV.sl (nat_lit 3), SV.int .i64 x348] (nat_lit 31), .seq kP x349 (nat_lit 23), .seq kP x350 (nat_lit 23), .seq kP x351 (nat_lit 23),
    .cells [SV.sl (nat_lit 13), SV.sl (nat_lit 14), SV.sl (nat_lit 15), SV.int .i64 x352] (nat_lit 31), .seq kP x353 (nat_lit 23), SObj.dead, SObj.dead, SObj.dead, .seq kP x354 (nat_lit 23), .seq kP x355 (nat_lit 23),
    .seq kP x356 (nat_lit 23)]) Q = M.core_l4 x334 x344 x345 x346 x347 x349 x350 x351 x353 x354 (fun (x361 : L3) (x362 : L3) => Q (.exit 1) (St.mk (some (SV.ptr (nat_lit 8) (nat_lit 0)) :: none :: some (SV.sl (nat_lit 13)) :: nn 13 (some (SV.int .i64 x336) :: some (SV.int .i64 x337) :: nn 152 ([])))
  [.cells [SV.int .i64 x338, SV.int .i64 x339, SV.int .i64 x340, SV.int .i64 x341, SV.int .i64 x342, SV.ros x343 kP x344] (nat_lit 26), .seq kP x345 (nat_lit 23), .seq kP x346 (nat_lit 23),
    .seq kP x347 (nat_lit 23), .cells [SV.sl (nat_lit 1), SV.sl (nat_lit 2), SV.sl (nat_lit 3), SV.int .i64 x348] (nat_lit 31), .seq kP x349 (nat_lit 23), .seq kP x350 (nat_lit 23), .seq kP x351 (nat_lit 23),
    .cells [SV.sl (nat_lit 13), SV.sl (nat_lit 14), SV.sl (nat_lit 15), SV.int .i64 x352] (nat_lit 31), .seq kP x353 (nat_lit 23), SObj.dead, SObj.dead, SObj.dead, .seq kP x354 (nat_lit 23), .seq kP x361 (nat_lit 23),
    .seq kP x362 (nat_lit 23)])) (fun (x363 : L3) (x364 : L3) => Q (.exit 2) (St.mk (some (SV.ptr (nat_lit 8) (nat_lit 0)) :: none :: some (SV.sl (nat_lit 13)) :: nn 13 (some (SV.int .i64 x336) :: some (SV.int .i64 x337) :: nn 152 ([])))
  [.cells [SV.int .i64 x338, SV.int .i64 x339, SV.int .i64 x340, SV.int .i64 x341, SV.int .i64 x342, SV.ros x343 kP x344] (nat_lit 26), .seq kP x345 (nat_lit 23), .seq kP x346 (nat_lit 23),
    .seq kP x347 (nat_lit 23), .cells [SV.sl (nat_lit 1), SV.sl (nat_lit 2), SV.sl (nat_lit 3), SV.int .i64 x348] (nat_lit 31), .seq kP x349 (nat_lit 23), .seq kP x350 (nat_lit 23), .seq kP x351 (nat_lit 23),
    .cells [SV.sl (nat_lit 13), SV.sl (nat_lit 14), SV.sl (nat_lit 15), SV.int .i64 x352] (nat_lit 31), .seq kP x353 (nat_lit 23), SObj.dead, SObj.dead, SObj.dead, .seq kP x354 (nat_lit 23), .seq kP x363 (nat_lit 23),
    .seq kP x364 (nat_lit 23)])) n x335 x355 x356
  | 0, _, _, _ => rfl
  | n + 1, x335, x355, x356 => (core_l4_step_eq x334 x335 x336 x337 x338 x339 x340 x341 x342 x343 x344 x345 x346 x347 x348 x349 x350 x351 x352 x353 x354 x355 x356 (iterK (loopStep E (exec E look_check core_l3_lps 400) 30 [false, true, true, false, false, true, true, false, false, true, true, true, false] 13 (codeAt E.P 30 [false, true, true, false, false, true, true, false, false, true, true, true, false])) n Q)).trans (congrArg (fun kn => M.core_l4_step x334 x344 x345 x346 x347 x349 x350 x351 x353 x354 kn (fun (x361 : L3) (x362 : L3) => Q (.exit 1) (St.mk (some (SV.ptr (nat_lit 8) (nat_lit 0)) :: none :: some (SV.sl (nat_lit 13)) :: nn 13 (some (SV.int .i64 x336) :: some (SV.int .i64 x337) :: nn 152 ([])))
  [.cells [SV.int .i64 x338, SV.int .i64 x339, SV.int .i64 x340, SV.int .i64 x341, SV.int .i64 x342, SV.ros x343 kP x344] (nat_lit 26), .seq kP x345 (nat_lit 23), .seq kP x346 (nat_lit 23),
    .seq kP x347 (nat_lit 23), .cells [SV.sl (nat_lit 1), SV.sl (nat_lit 2), SV.sl (nat_lit 3), SV.int .i64 x348] (nat_lit 31), .seq kP x349 (nat_lit 23), .seq kP x350 (nat_lit 23), .seq kP x351 (nat_lit 23),
    .cells [SV.sl (nat_lit 13), SV.sl (nat_lit 14), SV.sl (nat_lit 15), SV.int .i64 x352] (nat_lit 31), .seq kP x353 (nat_lit 23), SObj.dead, SObj.dead, SObj.dead, .seq kP x354 (nat_lit 23), .seq kP x361 (nat_lit 23),
    .seq kP x362 (nat_lit 23)])) (fun (x363 : L3) (x364 : L3) => Q (.exit 2) (St.mk (some (SV.ptr (nat_lit 8) (nat_lit 0)) :: none :: some (SV.sl (nat_lit 13)) :: nn 13 (some (SV.int .i64 x336) :: some (SV.int .i64 x337) :: nn 152 ([])))
  [.cells [SV.int .i64 x338, SV.int .i64 x339, SV.int .i64 x340, SV.int .i64 x341, SV.int .i64 x342, SV.ros x343 kP x344] (nat_lit 26), .seq kP x345 (nat_lit 23), .seq kP x346 (nat_lit 23),
    .seq kP x347 (nat_lit 23), .cells [SV.sl (nat_lit 1), SV.sl (nat_lit 2), SV.sl (nat_lit 3), SV.int .i64 x348] (nat_lit 31), .seq kP x349 (nat_lit 23), .seq kP x350 (nat_lit 23), .seq kP x351 (nat_lit 23),
    .cells [SV.sl (nat_lit 13), SV.sl (nat_lit 14), SV.sl (nat_lit 15), SV.int .i64 x352] (nat_lit 31), .seq kP x353 (nat_lit 23), SObj.dead, SObj.dead, SObj.dead, .seq kP x354 (nat_lit 23), .seq kP x363 (nat_lit 23),
    .seq kP x364 (nat_lit 23)])) x335 x355 x356) (funext fun x335 => funext fun x355 => funext fun x356 => core_l4_iter x334 x336 x337 x338 x339 x340 x341 x342 x343 x344 x345 x346 x347 x348 x349 x350 x351 x352 x353 x354 Q n x335 x355 x356))
noncomputable def core_l4_go {α : Type} (ds : List D) (Q : Ex → St → Option α) : Option α :=
  dI ds fun x334 ds => dI ds fun x335 ds => dI ds fun x336 ds => dI ds fun x337 ds => dI ds fun x338 ds => dI ds fun x339 ds => dI ds fun x340 ds => dI ds fun x341 ds => dI ds fun x342 ds => dV ds fun x343 ds => dL kP ds fun x344 ds => dL kP ds fun x345 ds => dL kP ds fun x346 ds => dL kP ds fun x347 ds => dI ds fun x348 ds => dL kP ds fun x349 ds => dL kP ds fun x350 ds => dL kP ds fun x351 ds => dI ds fun x352 ds => dL kP ds fun x353 ds => dL kP ds fun x354 ds => dL kP ds fun x355 ds => dL kP ds fun x356 ds => dE ds (M.core_l4 x334 x344 x345 x346 x347 x349 x350 x351 x353 x354 (fun (x361 : L3) (x362 : L3) => Q (.exit 1) (St.mk (some (SV.ptr (nat_lit 8) (nat_lit 0)) :: none :: some (SV.sl (nat_lit 13)) :: nn 13 (some (SV.int .i64 x336) :: some (SV.int .i64 x337) :: nn 152 ([])))
  [.cells [SV.int .i64 x338, SV.int .i64 x339, SV.int .i64 x340, SV.int .i64 x341, SV.int .i64 x342, SV.ros x343 kP x344] (nat_lit 26), .seq kP x345 (nat_lit 23), .seq kP x346 (nat_lit 23),
    .seq kP x347 (nat_lit 23), .cells [SV.sl (nat_lit 1), SV.sl (nat_lit 2), SV.sl (nat_lit 3), SV.int .i64 x348] (nat_lit 31), .seq kP x349 (nat_lit 23), .seq kP x350 (nat_lit 23), .seq kP x351 (nat_lit 23),
    .cells [SV.sl (nat_lit 13), SV.sl (nat_lit 14), SV.sl (nat_lit 15), SV.int .i64 x352] (nat_lit 31), .seq kP x353 (nat_lit 23), SObj.dead, SObj.dead, SObj.dead, .seq kP x354 (nat_lit 23), .seq kP x361 (nat_lit 23),
    .seq kP x362 (nat_lit 23)])) (fun (x363 : L3) (x364 : L3) => Q (.exit 2) (St.mk (some (SV.ptr (nat_lit 8) (nat_lit 0)) :: none :: some (SV.sl (nat_lit 13)) :: nn 13 (some (SV.int .i64 x336) :: some (SV.int .i64 x337) :: nn 152 ([])))
  [.cells [SV.int .i64 x338, SV.int .i64 x339, SV.int .i64 x340, SV.int .i64 x341, SV.int .i64 x342, SV.ros x343 kP x344] (nat_lit 26), .seq kP x345 (nat_lit 23), .seq kP x346 (nat_lit 23),
    .seq kP x347 (nat_lit 23), .cells [SV.sl (nat_lit 1), SV.sl (nat_lit 2), SV.sl (nat_lit 3), SV.int .i64 x348] (nat_lit 31), .seq kP x349 (nat_lit 23), .seq kP x350 (nat_lit 23), .seq kP x351 (nat_lit 23),
    .cells [SV.sl (nat_lit 13), SV.sl (nat_lit 14), SV.sl (nat_lit 15), SV.int .i64 x352] (nat_lit 31), .seq kP x353 (nat_lit 23), SObj.dead, SObj.dead, SObj.dead, .seq kP x354 (nat_lit 23), .seq kP x363 (nat_lit 23),
    .seq kP x364 (nat_lit 23)])) (100 + x344.length + x345.length + x346.length + x347.length + x349.length + x350.length + x351.length + x353.length + x354.length + x355.length + x356.length) x335 x355 x356)
theorem core_l4_ok {α : Type} : LoopOk E.P 30 [false, true, true, false, false, true, true, false, false, true, true, true, false] 13 (lEnt (α := α) (St.mk (some (SV.ptr (nat_lit 8) (nat_lit 0)) :: none :: some (SV.sl (nat_lit 13)) :: some (SV.int .i64 (0 : Int)) :: some (SV.int .i64 (0 : Int)) :: nn 11 (some (SV.int .i64 (0 : Int)) :: some (SV.int .i64 (0 : Int)) :: nn 152 ([])))
  [.cells [SV.int .i64 (0 : Int), SV.int .i64 (0 : Int), SV.int .i64 (0 : Int), SV.int .i64 (0 : Int), SV.int .i64 (0 : Int), SV.ros undef kP []] (nat_lit 26), .seq kP [] (nat_lit 23), .seq kP [] (nat_lit 23),
    .seq kP [] (nat_lit 23), .cells [SV.sl (nat_lit 1), SV.sl (nat_lit 2), SV.sl (nat_lit 3), SV.int .i64 (0 : Int)] (nat_lit 31), .seq kP [] (nat_lit 23), .seq kP [] (nat_lit 23), .seq kP [] (nat_lit 23),
    .cells [SV.sl (nat_lit 13), SV.sl (nat_lit 14), SV.sl (nat_lit 15), SV.int .i64 (0 : Int)] (nat_lit 31), .seq kP [] (nat_lit 23), SObj.dead, SObj.dead, SObj.dead, .seq kP [] (nat_lit 23), .seq kP [] (nat_lit 23),
    .seq kP [] (nat_lit 23)]) core_l4_go) :=
  lEnt_ok E (exec_sound E E_ok (look_check_ok) (core_l3_lps_ok) 400) fun ds Q r h S hS => by
    unfold core_l4_go at h
    obtain ⟨x334, ds, rfl, h1⟩ := dI_inv h
    obtain ⟨x335, ds, rfl, h2⟩ := dI_inv h1
    obtain ⟨x336, ds, rfl, h3⟩ := dI_inv h2
    obtain ⟨x337, ds, rfl, h4⟩ := dI_inv h3
    obtain ⟨x338, ds, rfl, h5⟩ := dI_inv h4
    obtain ⟨x339, ds, rfl, h6⟩ := dI_inv h5
    obtain ⟨x340, ds, rfl, h7⟩ := dI_inv h6
    obtain ⟨x341, ds, rfl, h8⟩ := dI_inv h7
    obtain ⟨x342, ds, rfl, h9⟩ := dI_inv h8
    obtain ⟨x343, ds, rfl, h10⟩ := dV_inv h9
    obtain ⟨x344, ds, rfl, h11⟩ := dL_inv h10
    obtain ⟨x345, ds, rfl, h12⟩ := dL_inv h11
    obtain ⟨x346, ds, rfl, h13⟩ := dL_inv h12
    obtain ⟨x347, ds, rfl, h14⟩ := dL_inv h13
    obtain ⟨x348, ds, rfl, h15⟩ := dI_inv h14
    obtain ⟨x349, ds, rfl, h16⟩ := dL_inv h15
    obtain ⟨x350, ds, rfl, h17⟩ := dL_inv h16
    obtain ⟨x351, ds, rfl, h18⟩ := dL_inv h17
    obtain ⟨x352, ds, rfl, h19⟩ := dI_inv h18
    obtain ⟨x353, ds, rfl, h20⟩ := dL_inv h19
    obtain ⟨x354, ds, rfl, h21⟩ := dL_inv h20
    obtain ⟨x355, ds, rfl, h22⟩ := dL_inv h21
    obtain ⟨x356, ds, rfl, h23⟩ := dL_inv h22
    obtain ⟨rfl, hE⟩ := dE_inv h23
    have e : fillS (St.mk (some (SV.ptr (nat_lit 8) (nat_lit 0)) :: none :: some (SV.sl (nat_lit 13)) :: some (SV.int .i64 (0 : Int)) :: some (SV.int .i64 (0 : Int)) :: nn 11 (some (SV.int .i64 (0 : Int)) :: some (SV.int .i64 (0 : Int)) :: nn 152 ([])))
  [.cells [SV.int .i64 (0 : Int), SV.int .i64 (0 : Int), SV.int .i64 (0 : Int), SV.int .i64 (0 : Int), SV.int .i64 (0 : Int), SV.ros undef kP []] (nat_lit 26), .seq kP [] (nat_lit 23), .seq kP [] (nat_lit 23),
    .seq kP [] (nat_lit 23), .cells [SV.sl (nat_lit 1), SV.sl (nat_lit 2), SV.sl (nat_lit 3), SV.int .i64 (0 : Int)] (nat_lit 31), .seq kP [] (nat_lit 23), .seq kP [] (nat_lit 23), .seq kP [] (nat_lit 23),
    .cells [SV.sl (nat_lit 13), SV.sl (nat_lit 14), SV.sl (nat_lit 15), SV.int .i64 (0 : Int)] (nat_lit 31), .seq kP [] (nat_lit 23), SObj.dead, SObj.dead, SObj.dead, .seq kP [] (nat_lit 23), .seq kP [] (nat_lit 23),
    .seq kP [] (nat_lit 23)]) [.i x334, .i x335, .i x336, .i x337, .i x338, .i x339, .i x340, .i x341, .i x342, .v x343, .l kP x344, .l kP x345, .l kP x346, .l kP x347, .i x348, .l kP x349, .l kP x350, .l kP x351, .i x352, .l kP x353, .l kP x354, .l kP x355, .l kP x356] = some (St.mk (some (SV.ptr (nat_lit 8) (nat_lit 0)) :: none :: some (SV.sl (nat_lit 13)) :: some (SV.int .i64 x334) :: some (SV.int .i64 x335) :: nn 11 (some (SV.int .i64 x336) :: some (SV.int .i64 x337) :: nn 152 ([])))
  [.cells [SV.int .i64 x338, SV.int .i64 x339, SV.int .i64 x340, SV.int .i64 x341, SV.int .i64 x342, SV.ros x343 kP x344] (nat_lit 26), .seq kP x345 (nat_lit 23), .seq kP x346 (nat_lit 23),
    .seq kP x347 (nat_lit 23), .cells [SV.sl (nat_lit 1), SV.sl (nat_lit 2), SV.sl (nat_lit 3), SV.int .i64 x348] (nat_lit 31), .seq kP x349 (nat_lit 23), .seq kP x350 (nat_lit 23), .seq kP x351 (nat_lit 23),
    .cells [SV.sl (nat_lit 13), SV.sl (nat_lit 14), SV.sl (nat_lit 15), SV.int .i64 x352] (nat_lit 31), .seq kP x353 (nat_lit 23), SObj.dead, SObj.dead, SObj.dead, .seq kP x354 (nat_lit 23), .seq kP x355 (nat_lit 23),
    .seq kP x356 (nat_lit 23)]) := by kernel_rfl
    rw [e] at hS
    cases hS
    exact ⟨_, (core_l4_iter x334 x336 x337 x338 x339 x340 x341 x342 x343 x344 x345 x346 x347 x348 x349 x350 x351 x352 x353 x354 Q _ x335 x355 x356).trans hE⟩
noncomputable def core_l4_lps {α : Type} : LookL α := addLp 30 [false, true, true, false, false, true, true, false, false, true, true, true, false] 13 (lEnt (St.mk (some (SV.ptr (nat_lit 8) (nat_lit 0)) :: none :: some (SV.sl (nat_lit 13)) :: some (SV.int .i64 (0 : Int)) :: some (SV.int .i64 (0 : Int)) :: nn 11 (some (SV.int .i64 (0 : Int)) :: some (SV.int .i64 (0 : Int)) :: nn 152 ([])))
  [.cells [SV.int .i64 (0 : Int), SV.int .i64 (0 : Int), SV.int .i64 (0 : Int), SV.int .i64 (0 : Int), SV.int .i64 (0 : Int), SV.ros undef kP []] (nat_lit 26), .seq kP [] (nat_lit 23), .seq kP [] (nat_lit 23),
    .seq kP [] (nat_lit 23), .cells [SV.sl (nat_lit 1), SV.sl (nat_lit 2), SV.sl (nat_lit 3), SV.int .i64 (0 : Int)] (nat_lit 31), .seq kP [] (nat_lit 23), .seq kP [] (nat_lit 23), .seq kP [] (nat_lit 23),
    .cells [SV.sl (nat_lit 13), SV.sl (nat_lit 14), SV.sl (nat_lit 15), SV.int .i64 (0 : Int)] (nat_lit 31), .seq kP [] (nat_lit 23), SObj.dead, SObj.dead, SObj.dead, .seq kP [] (nat_lit 23), .seq kP [] (nat_lit 23),
    .seq kP [] (nat_lit 23)]) core_l4_go) core_l3_lps
theorem core_l4_lps_ok {α : Type} : LoopsOk E.P (core_l4_lps (α := α)) := addLp_ok core_l4_ok (core_l3_lps_ok)

noncomputable def _root_.Go.Proofs.Ytkjellhkamfciaa.M.core_l5_step {α : Type} (x368 : Int) (x376 : L3) (x377 : L3) (x378 : L3) (x379 : L3) (x381 : L3) (x382 : L3) (x383 : L3) (x385 : L3) (x386 : L3) (kn : Int → L3 → L3 → Option α) (k1 : L3 → L3 → Option α) (x369 : Int) (x387 : L3) (x388 : L3) : Option α :=
  if cLt x369 x368 = true then
  M.core_l4 x369 x376 x377 x378 x379 x381 x382 x383 x385 x386 (fun (x389 x390 : L3) ↦ kn (IntKind.wrap .i64 (x369 + (1 : Int))) x389 x390) (fun (x391 x392 : L3) ↦ kn (IntKind.wrap .i64 (x369 + (1 : Int))) x391 x392) ((100 : Nat) + List.length x376 + List.length x377 + List.length x378 + List.length x379 + List.length x381 + List.length x382 + List.length x383 + List.length x385 + List.length x386 + List.length x387 + List.length x388)
    (IntKind.wrap .i64 (x369 + (1 : Int))) x387 x388
else k1 x387 x388
noncomputable def _root_.Go.Proofs.Ytkjellhkamfciaa.M.core_l5 {α : Type} (x368 : Int) (x376 : L3) (x377 : L3) (x378 : L3) (x379 : L3) (x381 : L3) (x382 : L3) (x383 : L3) (x385 : L3) (x386 : L3) (k1 : L3 → L3 → Option α) : Nat → Int → L3 → L3 → Option α
  | 0, _, _, _ => none
  | n + 1, x369, x387, x388 => M.core_l5_step x368 x376 x377 x378 x379 x381 x382 x383 x385 x386 (M.core_l5 x368 x376 x377 x378 x379 x381 x382 x383 x385 x386 k1 n) k1 x369 x387 x388
theorem core_l5_step_eq {α : Type} (x368 : Int) (x369 : Int) (x370 : Int) (x371 : Int) (x372 : Int) (x373 : Int) (x374 : Int) (x375 : Value) (x376 : L3) (x377 : L3) (x378 : L3) (x379 : L3) (x380 : Int) (x381 : L3) (x382 : L3) (x383 : L3) (x384 : Int) (x385 : L3) (x386 : L3) (x387 : L3) (x388 : L3) (Q : Ex → St → Option α) : (loopStep E (exec E look_check core_l4_lps 400) 30 [false, true, true, true, false] 13 (codeAt E.P 30 [false, true, true, true, false])) (St.mk (some (SV.ptr (nat_lit 8) (nat_lit 0)) :: none :: some (SV.sl (nat_lit 13)) :: nn 13 (some (SV.int .i64 x368) :: some (SV.int .i64 x369) :: nn 152 ([])))
  [.cells [SV.int .i64 x370, SV.int .i64 x371, SV.int .i64 x372, SV.int .i64 x373, SV.int .i64 x374, SV.ros x375 kP x376] (nat_lit 26), .seq kP x377 (nat_lit 23), .seq kP x378 (nat_lit 23),
    .seq kP x379 (nat_lit 23), .cells [SV.sl (nat_lit 1), SV.sl (nat_lit 2), SV.sl (nat_lit 3), SV.int .i64 x380] (nat_lit 31), .seq kP x381 (nat_lit 23), .seq kP x382 (nat_lit 23), .seq kP x383 (nat_lit 23),
    .cells [SV.sl (nat_lit 13), SV.sl (nat_lit 14), SV.sl (nat_lit 15), SV.int .i64 x384] (nat_lit 31), .seq kP x385 (nat_lit 23), SObj.dead, SObj.dead, SObj.dead, .seq kP x386 (nat_lit 23), .seq kP x387 (nat_lit 23),
    .seq kP x388 (nat_lit 23)]) Q = M.core_l5_step x368 x376 x377 x378 x379 x381 x382 x383 x385 x386 (fun (x395 : Int) (x396 : L3) (x397 : L3) => Q .normal (St.mk (some (SV.ptr (nat_lit 8) (nat_lit 0)) :: none :: some (SV.sl (nat_lit 13)) :: nn 13 (some (SV.int .i64 x368) :: some (SV.int .i64 x395) :: nn 152 ([])))
  [.cells [SV.int .i64 x370, SV.int .i64 x371, SV.int .i64 x372, SV.int .i64 x373, SV.int .i64 x374, SV.ros x375 kP x376] (nat_lit 26), .seq kP x377 (nat_lit 23), .seq kP x378 (nat_lit 23),
    .seq kP x379 (nat_lit 23), .cells [SV.sl (nat_lit 1), SV.sl (nat_lit 2), SV.sl (nat_lit 3), SV.int .i64 x380] (nat_lit 31), .seq kP x381 (nat_lit 23), .seq kP x382 (nat_lit 23), .seq kP x383 (nat_lit 23),
    .cells [SV.sl (nat_lit 13), SV.sl (nat_lit 14), SV.sl (nat_lit 15), SV.int .i64 x384] (nat_lit 31), .seq kP x385 (nat_lit 23), SObj.dead, SObj.dead, SObj.dead, .seq kP x386 (nat_lit 23), .seq kP x396 (nat_lit 23),
    .seq kP x397 (nat_lit 23)])) (fun (x393 : L3) (x394 : L3) => Q (.exit 0) (St.mk (nn 170 ([]))
  [.cells [SV.int .i64 x370, SV.int .i64 x371, SV.int .i64 x372, SV.int .i64 x373, SV.int .i64 x374, SV.ros x375 kP x376] (nat_lit 26), .seq kP x377 (nat_lit 23), .seq kP x378 (nat_lit 23),
    .seq kP x379 (nat_lit 23), .cells [SV.sl (nat_lit 1), SV.sl (nat_lit 2), SV.sl (nat_lit 3), SV.int .i64 x380] (nat_lit 31), .seq kP x381 (nat_lit 23), .seq kP x382 (nat_lit 23), .seq kP x383 (nat_lit 23),
    .cells [SV.sl (nat_lit 13), SV.sl (nat_lit 14), SV.sl (nat_lit 15), SV.int .i64 x384] (nat_lit 31), .seq kP x385 (nat_lit 23), SObj.dead, SObj.dead, SObj.dead, .seq kP x386 (nat_lit 23), .seq kP x393 (nat_lit 23),
    .seq kP x394 (nat_lit 23)])) x369 x387 x388 := by kernel_rfl
theorem core_l5_iter {α : Type} (x368 : Int) (x370 : Int) (x371 : Int) (x372 : Int) (x373 : Int) (x374 : Int) (x375 : Value) (x376 : L3) (x377 : L3) (x378 : L3) (x379 : L3) (x380 : Int) (x381 : L3) (x382 : L3) (x383 : L3) (x384 : Int) (x385 : L3) (x386 : L3) (Q : Ex → St → Option α) : ∀ (n : Nat) (x369 : Int) (x387 : L3) (x388 : L3), iter (loopStep E (exec E look_check core_l4_lps 400) 30 [false, true, true, true, false] 13 (codeAt E.P 30 [false, true, true, true, false])) n (St.mk (some (SV.ptr (nat_lit 8) (nat_lit 0)) :: none :: some (SV.sl (nat_lit 13)) :: nn 13 (some (SV.int .i64 x368) :: some (SV.int .i64 x369) :: nn 152 ([])))
  [.cells [SV.int .i64 x370, SV.int .i64 x371, SV.int .i64 x372, SV.int .i64 x373, SV.int .i64 x374, SV.ros x375 kP x376] (nat_lit 26), .seq kP x377 (nat_lit 23), .seq kP x378 (nat_lit 23),
    .seq kP x379 (nat_lit 23), .cells [SV.sl (nat_lit 1), SV.sl (nat_lit 2), SV.sl (nat_lit 3), SV.int .i64 x380] (nat_lit 31), .seq kP x381 (nat_lit 23), .seq kP x382 (nat_lit 23), .seq kP x383 (nat_lit 23),
    .cells [SV.sl (nat_lit 13), SV.sl (nat_lit 14), SV.sl (nat_lit 15), SV.int .i64 x384] (nat_lit 31), .seq kP x385 (nat_lit 23), SObj.dead, SObj.dead, SObj.dead, .seq kP x386 (nat_lit 23), .seq kP x387 (nat_lit 23),
    .seq kP x388 (nat_lit 23)]) Q = M.core_l5 x368 x376 x377 x378 x379 x381 x382 x383 x385 x386 (fun (x393 : L3) (x394 : L3) => Q (.exit 0) (St.mk (nn 170 ([]))
  [.cells [SV.int .i64 x370, SV.int .i64 x371, SV.int .i64 x372, SV.int .i64 x373, SV.int .i64 x374, SV.ros x375 kP x376] (nat_lit 26), .seq kP x377 (nat_lit 23), .seq kP x378 (nat_lit 23),
    .seq kP x379 (nat_lit 23), .cells [SV.sl (nat_lit 1), SV.sl (nat_lit 2), SV.sl (nat_lit 3), SV.int .i64 x380] (nat_lit 31), .seq kP x381 (nat_lit 23), .seq kP x382 (nat_lit 23), .seq kP x383 (nat_lit 23),
    .cells [SV.sl (nat_lit 13), SV.sl (nat_lit 14), SV.sl (nat_lit 15), SV.int .i64 x384] (nat_lit 31), .seq kP x385 (nat_lit 23), SObj.dead, SObj.dead, SObj.dead, .seq kP x386 (nat_lit 23), .seq kP x393 (nat_lit 23),
    .seq kP x394 (nat_lit 23)])) n x369 x387 x388
  | 0, _, _, _ => rfl
  | n + 1, x369, x387, x388 => (core_l5_step_eq x368 x369 x370 x371 x372 x373 x374 x375 x376 x377 x378 x379 x380 x381 x382 x383 x384 x385 x386 x387 x388 (iterK (loopStep E (exec E look_check core_l4_lps 400) 30 [false, true, true, true, false] 13 (codeAt E.P 30 [false, true, true, true, false])) n Q)).trans (congrArg (fun kn => M.core_l5_step x368 x376 x377 x378 x379 x381 x382 x383 x385 x386 kn (fun (x393 : L3) (x394 : L3) => Q (.exit 0) (St.mk (nn 170 ([]))
  [.cells [SV.int .i64 x370, SV.int .i64 x371, SV.int .i64 x372, SV.int .i64 x373, SV.int .i64 x374, SV.ros x375 kP x376] (nat_lit 26), .seq kP x377 (nat_lit 23), .seq kP x378 (nat_lit 23),
    .seq kP x379 (nat_lit 23), .cells [SV.sl (nat_lit 1), SV.sl (nat_lit 2), SV.sl (nat_lit 3), SV.int .i64 x380] (nat_lit 31), .seq kP x381 (nat_lit 23), .seq kP x382 (nat_lit 23), .seq kP x383 (nat_lit 23),
    .cells [SV.sl (nat_lit 13), SV.sl (nat_lit 14), SV.sl (nat_lit 15), SV.int .i64 x384] (nat_lit 31), .seq kP x385 (nat_lit 23), SObj.dead, SObj.dead, SObj.dead, .seq kP x386 (nat_lit 23), .seq kP x393 (nat_lit 23),
    .seq kP x394 (nat_lit 23)])) x369 x387 x388) (funext fun x369 => funext fun x387 => funext fun x388 => core_l5_iter x368 x370 x371 x372 x373 x374 x375 x376 x377 x378 x379 x380 x381 x382 x383 x384 x385 x386 Q n x369 x387 x388))
noncomputable def core_l5_go {α : Type} (ds : List D) (Q : Ex → St → Option α) : Option α :=
  dI ds fun x368 ds => dI ds fun x369 ds => dI ds fun x370 ds => dI ds fun x371 ds => dI ds fun x372 ds => dI ds fun x373 ds => dI ds fun x374 ds => dV ds fun x375 ds => dL kP ds fun x376 ds => dL kP ds fun x377 ds => dL kP ds fun x378 ds => dL kP ds fun x379 ds => dI ds fun x380 ds => dL kP ds fun x381 ds => dL kP ds fun x382 ds => dL kP ds fun x383 ds => dI ds fun x384 ds => dL kP ds fun x385 ds => dL kP ds fun x386 ds => dL kP ds fun x387 ds => dL kP ds fun x388 ds => dE ds (M.core_l5 x368 x376 x377 x378 x379 x381 x382 x383 x385 x386 (fun (x393 : L3) (x394 : L3) => Q (.exit 0) (St.mk (nn 170 ([]))
  [.cells [SV.int .i64 x370, SV.int .i64 x371, SV.int .i64 x372, SV.int .i64 x373, SV.int .i64 x374, SV.ros x375 kP x376] (nat_lit 26), .seq kP x377 (nat_lit 23), .seq kP x378 (nat_lit 23),
    .seq kP x379 (nat_lit 23), .cells [SV.sl (nat_lit 1), SV.sl (nat_lit 2), SV.sl (nat_lit 3), SV.int .i64 x380] (nat_lit 31), .seq kP x381 (nat_lit 23), .seq kP x382 (nat_lit 23), .seq kP x383 (nat_lit 23),
    .cells [SV.sl (nat_lit 13), SV.sl (nat_lit 14), SV.sl (nat_lit 15), SV.int .i64 x384] (nat_lit 31), .seq kP x385 (nat_lit 23), SObj.dead, SObj.dead, SObj.dead, .seq kP x386 (nat_lit 23), .seq kP x393 (nat_lit 23),
    .seq kP x394 (nat_lit 23)])) (100 + x376.length + x377.length + x378.length + x379.length + x381.length + x382.length + x383.length + x385.length + x386.length + x387.length + x388.length) x369 x387 x388)
theorem core_l5_ok {α : Type} : LoopOk E.P 30 [false, true, true, true, false] 13 (lEnt (α := α) (St.mk (some (SV.ptr (nat_lit 8) (nat_lit 0)) :: none :: some (SV.sl (nat_lit 13)) :: nn 13 (some (SV.int .i64 (0 : Int)) :: some (SV.int .i64 (0 : Int)) :: nn 152 ([])))
  [.cells [SV.int .i64 (0 : Int), SV.int .i64 (0 : Int), SV.int .i64 (0 : Int), SV.int .i64 (0 : Int), SV.int .i64 (0 : Int), SV.ros undef kP []] (nat_lit 26), .seq kP [] (nat_lit 23), .seq kP [] (nat_lit 23),
    .seq kP [] (nat_lit 23), .cells [SV.sl (nat_lit 1), SV.sl (nat_lit 2), SV.sl (nat_lit 3), SV.int .i64 (0 : Int)] (nat_lit 31), .seq kP [] (nat_lit 23), .seq kP [] (nat_lit 23), .seq kP [] (nat_lit 23),
    .cells [SV.sl (nat_lit 13), SV.sl (nat_lit 14), SV.sl (nat_lit 15), SV.int .i64 (0 : Int)] (nat_lit 31), .seq kP [] (nat_lit 23), SObj.dead, SObj.dead, SObj.dead, .seq kP [] (nat_lit 23), .seq kP [] (nat_lit 23),
    .seq kP [] (nat_lit 23)]) core_l5_go) :=
  lEnt_ok E (exec_sound E E_ok (look_check_ok) (core_l4_lps_ok) 400) fun ds Q r h S hS => by
    unfold core_l5_go at h
    obtain ⟨x368, ds, rfl, h1⟩ := dI_inv h
    obtain ⟨x369, ds, rfl, h2⟩ := dI_inv h1
    obtain ⟨x370, ds, rfl, h3⟩ := dI_inv h2
    obtain ⟨x371, ds, rfl, h4⟩ := dI_inv h3
    obtain ⟨x372, ds, rfl, h5⟩ := dI_inv h4
    obtain ⟨x373, ds, rfl, h6⟩ := dI_inv h5
    obtain ⟨x374, ds, rfl, h7⟩ := dI_inv h6
    obtain ⟨x375, ds, rfl, h8⟩ := dV_inv h7
    obtain ⟨x376, ds, rfl, h9⟩ := dL_inv h8
    obtain ⟨x377, ds, rfl, h10⟩ := dL_inv h9
    obtain ⟨x378, ds, rfl, h11⟩ := dL_inv h10
    obtain ⟨x379, ds, rfl, h12⟩ := dL_inv h11
    obtain ⟨x380, ds, rfl, h13⟩ := dI_inv h12
    obtain ⟨x381, ds, rfl, h14⟩ := dL_inv h13
    obtain ⟨x382, ds, rfl, h15⟩ := dL_inv h14
    obtain ⟨x383, ds, rfl, h16⟩ := dL_inv h15
    obtain ⟨x384, ds, rfl, h17⟩ := dI_inv h16
    obtain ⟨x385, ds, rfl, h18⟩ := dL_inv h17
    obtain ⟨x386, ds, rfl, h19⟩ := dL_inv h18
    obtain ⟨x387, ds, rfl, h20⟩ := dL_inv h19
    obtain ⟨x388, ds, rfl, h21⟩ := dL_inv h20
    obtain ⟨rfl, hE⟩ := dE_inv h21
    have e : fillS (St.mk (some (SV.ptr (nat_lit 8) (nat_lit 0)) :: none :: some (SV.sl (nat_lit 13)) :: nn 13 (some (SV.int .i64 (0 : Int)) :: some (SV.int .i64 (0 : Int)) :: nn 152 ([])))
  [.cells [SV.int .i64 (0 : Int), SV.int .i64 (0 : Int), SV.int .i64 (0 : Int), SV.int .i64 (0 : Int), SV.int .i64 (0 : Int), SV.ros undef kP []] (nat_lit 26), .seq kP [] (nat_lit 23), .seq kP [] (nat_lit 23),
    .seq kP [] (nat_lit 23), .cells [SV.sl (nat_lit 1), SV.sl (nat_lit 2), SV.sl (nat_lit 3), SV.int .i64 (0 : Int)] (nat_lit 31), .seq kP [] (nat_lit 23), .seq kP [] (nat_lit 23), .seq kP [] (nat_lit 23),
    .cells [SV.sl (nat_lit 13), SV.sl (nat_lit 14), SV.sl (nat_lit 15), SV.int .i64 (0 : Int)] (nat_lit 31), .seq kP [] (nat_lit 23), SObj.dead, SObj.dead, SObj.dead, .seq kP [] (nat_lit 23), .seq kP [] (nat_lit 23),
    .seq kP [] (nat_lit 23)]) [.i x368, .i x369, .i x370, .i x371, .i x372, .i x373, .i x374, .v x375, .l kP x376, .l kP x377, .l kP x378, .l kP x379, .i x380, .l kP x381, .l kP x382, .l kP x383, .i x384, .l kP x385, .l kP x386, .l kP x387, .l kP x388] = some (St.mk (some (SV.ptr (nat_lit 8) (nat_lit 0)) :: none :: some (SV.sl (nat_lit 13)) :: nn 13 (some (SV.int .i64 x368) :: some (SV.int .i64 x369) :: nn 152 ([])))
  [.cells [SV.int .i64 x370, SV.int .i64 x371, SV.int .i64 x372, SV.int .i64 x373, SV.int .i64 x374, SV.ros x375 kP x376] (nat_lit 26), .seq kP x377 (nat_lit 23), .seq kP x378 (nat_lit 23),
    .seq kP x379 (nat_lit 23), .cells [SV.sl (nat_lit 1), SV.sl (nat_lit 2), SV.sl (nat_lit 3), SV.int .i64 x380] (nat_lit 31), .seq kP x381 (nat_lit 23), .seq kP x382 (nat_lit 23), .seq kP x383 (nat_lit 23),
    .cells [SV.sl (nat_lit 13), SV.sl (nat_lit 14), SV.sl (nat_lit 15), SV.int .i64 x384] (nat_lit 31), .seq kP x385 (nat_lit 23), SObj.dead, SObj.dead, SObj.dead, .seq kP x386 (nat_lit 23), .seq kP x387 (nat_lit 23),
    .seq kP x388 (nat_lit 23)]) := by kernel_rfl
    rw [e] at hS
    cases hS
    exact ⟨_, (core_l5_iter x368 x370 x371 x372 x373 x374 x375 x376 x377 x378 x379 x380 x381 x382 x383 x384 x385 x386 Q _ x369 x387 x388).trans hE⟩
noncomputable def core_l5_lps {α : Type} : LookL α := addLp 30 [false, true, true, true, false] 13 (lEnt (St.mk (some (SV.ptr (nat_lit 8) (nat_lit 0)) :: none :: some (SV.sl (nat_lit 13)) :: nn 13 (some (SV.int .i64 (0 : Int)) :: some (SV.int .i64 (0 : Int)) :: nn 152 ([])))
  [.cells [SV.int .i64 (0 : Int), SV.int .i64 (0 : Int), SV.int .i64 (0 : Int), SV.int .i64 (0 : Int), SV.int .i64 (0 : Int), SV.ros undef kP []] (nat_lit 26), .seq kP [] (nat_lit 23), .seq kP [] (nat_lit 23),
    .seq kP [] (nat_lit 23), .cells [SV.sl (nat_lit 1), SV.sl (nat_lit 2), SV.sl (nat_lit 3), SV.int .i64 (0 : Int)] (nat_lit 31), .seq kP [] (nat_lit 23), .seq kP [] (nat_lit 23), .seq kP [] (nat_lit 23),
    .cells [SV.sl (nat_lit 13), SV.sl (nat_lit 14), SV.sl (nat_lit 15), SV.int .i64 (0 : Int)] (nat_lit 31), .seq kP [] (nat_lit 23), SObj.dead, SObj.dead, SObj.dead, .seq kP [] (nat_lit 23), .seq kP [] (nat_lit 23),
    .seq kP [] (nat_lit 23)]) core_l5_go) core_l4_lps
theorem core_l5_lps_ok {α : Type} : LoopsOk E.P (core_l5_lps (α := α)) := addLp_ok core_l5_ok (core_l4_lps_ok)

noncomputable def _root_.Go.Proofs.Ytkjellhkamfciaa.M.core {α : Type} (k : Int) (r : Int) (hx : Int) (hy : Int) (hz : Int) (l : L3) (k0 : Int → Int → L3 → L3 → L3 → Option α) : Option α :=
  if (!cEq (V.chk k r hx hy hz l) (0 : Int)) = true then k0 (0 : Int) (V.chk k r hx hy hz l) [] [] []
else
  if cEq k (1 : Int) = true then k0 r (0 : Int) [((0 : Int), (0 : Int), (0 : Int))] [] []
  else
    if cEq k (2 : Int) = true then k0 r (0 : Int) [(IntKind.wrap .i64 ((0 : Int) - hx), (0 : Int), (0 : Int)), (hx, (0 : Int), (0 : Int))] [] [((1 : Int), (0 : Int), (0 : Int))]
    else
      if cEq k (3 : Int) = true then
        M.core_l1 (↑((0 : Nat) + (1 : Nat) + (1 : Nat)) : Int) hy hz l [] [] [] [] [] [IntKind.wrap .i64 ((0 : Int) - hx), hx] (fun (x399 : L3) ↦ if V.lenB (3 : Nat) = true then k0 r (0 : Int) x399 [((1 : Int), (0 : Int), (0 : Int)), ((0 : Int), (1 : Int), (0 : Int)), ((0 : Int), (0 : Int), (1 : Int))] [((1 : Int), (0 : Int), (0 : Int)), ((0 : Int), (1 : Int), (0 : Int)), ((0 : Int), (0 : Int), (1 : Int))] else none)
          ((100 : Nat) + List.length l + (0 : Nat) + (0 : Nat) + (0 : Nat) + (0 : Nat) + (0 : Nat) + (0 : Nat) + ((0 : Nat) + (1 : Nat) + (1 : Nat))) (0 : Int) []
      else if cEq k (4 : Int) = true then if V.lenB (List.length l) = true then M.core_l5 (↑(List.length l) : Int) l [] [] [] [] [] [] [] l (fun (x400 x401 : L3) ↦ k0 r (0 : Int) l x400 x401) ((100 : Nat) + List.length l + (0 : Nat) + (0 : Nat) + (0 : Nat) + (0 : Nat) + (0 : Nat) + (0 : Nat) + (0 : Nat) + List.length l + (0 : Nat) + (0 : Nat)) (0 : Int) [] [] else none else k0 r (0 : Int) [] [] []
theorem core_eq {α : Type} (k : Int) (r : Int) (hx : Int) (hy : Int) (hz : Int) (l : L3) (v398 : Value) (Q : SV → Hp → Option α) : callI E look_check (exec E look_check core_l5_lps 400) 13 ([SV.agg [SV.int .i64 k, SV.int .i64 r, SV.int .i64 hx, SV.int .i64 hy, SV.int .i64 hz, SV.ros v398 kP l]]) ([]) Q = M.core k r hx hy hz l (fun (x402 : Int) (x403 : Int) (x404 : L3) (x405 : L3) (x406 : L3) => Q (SV.tup [SV.agg [SV.sl (nat_lit 0), SV.sl (nat_lit 1), SV.sl (nat_lit 2), SV.int .i64 x402], SV.int .i64 x403]) ([.seq kP x404 (nat_lit 23), .seq kP x405 (nat_lit 23), .seq kP x406 (nat_lit 23)])) := by kernel_rfl
def core_sp : List AS := [.st [.leaf (.int .i64 0), .leaf (.int .i64 0), .leaf (.int .i64 0), .leaf (.int .i64 0), .leaf (.int .i64 0), .ro (.st (.i .i64) [.i .i64, .i .i64])]]
/-! Plain words: the faces of a hull. -/
def negP (p : P3) : P3 := V.pSub (0, 0, 0) p
noncomputable def addE (es : List P3) (e : P3) : List P3 := if V.pShort e ∈ es ∨ negP (V.pShort e) ∈ es then es else es ++ [V.pShort e]
def triN (l : List P3) (i j k : Nat) : P3 := V.pCross (V.pSub (pt l j) (pt l i)) (V.pSub (pt l k) (pt l i))
def mulP (s : Int) (p : P3) : P3 := (IntKind.wrap .i64 (s * p.1), IntKind.wrap .i64 (s * p.2.1), IntKind.wrap .i64 (s * p.2.2))
def triS (l : List P3) (i j k : Nat) : Int := V.sideP l (triN l i j k) (pt l i)
noncomputable def triA (l : List P3) (i j k : Nat) : P3 := V.pShort (mulP (triS l i j k) (triN l i j k))
def triE (l : List P3) (i j k : Nat) : List P3 := [V.pSub (pt l j) (pt l i), V.pSub (pt l k) (pt l i), V.pSub (pt l k) (pt l j)]
abbrev St2 := List P3 × List P3
noncomputable def trip (l : List P3) (i j k : Nat) (st : St2) : St2 :=
  if triN l i j k = (0, 0, 0) then st else if triS l i j k = 0 then st
  else (if triA l i j k ∈ st.1 then st.1 else st.1 ++ [triA l i j k], (triE l i j k).foldl addE st.2)
noncomputable def kF (l : List P3) (i j : Nat) : Nat → Nat → St2 → St2
  | 0, _, st => st
  | m + 1, k, st => kF l i j m (k + 1) (trip l i j k st)
noncomputable def jF (l : List P3) (i : Nat) : Nat → Nat → St2 → St2
  | 0, _, st => st
  | m + 1, j, st => jF l i m (j + 1) (kF l i j (l.length - (j + 1)) (j + 1) st)
noncomputable def iF (l : List P3) : Nat → Nat → St2 → St2
  | 0, _, st => st
  | m + 1, i, st => iF l m (i + 1) (jF l i (l.length - (i + 1)) (i + 1) st)
noncomputable def facesP (l : List P3) : St2 := iF l l.length 0 ([], [])
def sz2 (st : St2) : Nat := st.1.length + st.2.length
theorem addE_len (es : List P3) (e : P3) : (addE es e).length ≤ es.length + 1 := by
  unfold addE; split <;> simp
theorem addEs_len : ∀ (l es : List P3), (l.foldl addE es).length ≤ es.length + l.length
  | [], es => by simp
  | e :: l, es => by
    have h1 := addEs_len l (addE es e)
    have h2 := addE_len es e
    simp only [List.foldl_cons, List.length_cons]; omega
theorem trip_len (l : List P3) (i j k : Nat) (st : St2) : sz2 (trip l i j k st) ≤ sz2 st + 4 := by
  unfold trip
  split
  · omega
  · split
    · omega
    · have h := addEs_len (triE l i j k) st.2
      have h3 : (triE l i j k).length = 3 := rfl
      unfold sz2
      simp only
      split <;> (try rw [List.length_append, List.length_singleton]) <;> omega
theorem kF_len (l : List P3) (i j : Nat) : ∀ (m k : Nat) (st : St2), sz2 (kF l i j m k st) ≤ sz2 st + 4 * m
  | 0, k, st => by simp [kF]
  | m + 1, k, st => by
    have h1 := kF_len l i j m (k + 1) (trip l i j k st)
    have h2 := trip_len l i j k st
    simp only [kF]; omega
theorem jF_len (l : List P3) (i : Nat) (hl : l.length ≤ 12) : ∀ (m j : Nat) (st : St2), sz2 (jF l i m j st) ≤ sz2 st + 48 * m
  | 0, j, st => by simp [jF]
  | m + 1, j, st => by
    have h1 := jF_len l i hl m (j + 1) (kF l i j (l.length - (j + 1)) (j + 1) st)
    have h2 := kF_len l i j (l.length - (j + 1)) (j + 1) st
    simp only [jF]; omega
theorem iF_len (l : List P3) (hl : l.length ≤ 12) : ∀ (m i : Nat) (st : St2), sz2 (iF l m i st) ≤ sz2 st + 576 * m
  | 0, i, st => by simp [iF]
  | m + 1, i, st => by
    have h1 := iF_len l hl m (i + 1) (jF l i (l.length - (i + 1)) (i + 1) st)
    have h2 := jF_len l i hl (l.length - (i + 1)) (i + 1) st
    simp only [iF]; omega
theorem edges_val {α : Type} (es : List P3) (hes : es.length < 1000) (k1 : List P3 → Option α) : ∀ (fuel i : Nat) (E : List P3), i ≤ es.length → es.length - i < fuel → E.length + (es.length - i) < 1000000 →
    M.core_l2 (es.length : Int) es k1 fuel (i : Int) E = k1 ((es.drop i).foldl addE E)
  | 0, i, E, h1, h2, h3 => by omega
  | f + 1, i, E, h1, h2, h3 => by
    unfold M.core_l2 M.core_l2_step
    rw [cLt_nat]
    by_cases hi : i < es.length
    · have a2 := addE_len E (pt es i)
      have hd := drop_pt es i hi
      rw [w_next (by omega)]
      rw [if_pos (by simpa using hi), if_pos (by omega : (0 : Int) ≤ (i : Int) ∧ (i : Int) < (es.length : Int)), if_pos (lenB_of (n := E.length) (by omega)), if_pos (lenB_of (n := E.length) (by omega)), if_pos (by omega : (E.length + (0 + 1)) * 24 ≤ 140737488355328)]
      rw [hd, List.foldl_cons]
      have e : ∀ X, X = addE E (pt es i) → M.core_l2 (es.length : Int) es k1 f ((i + 1 : Nat) : Int) X = k1 ((es.drop (i + 1)).foldl addE (addE E (pt es i))) := by
        intro X hX
        rw [hX]
        exact edges_val es hes k1 f (i + 1) _ (by omega) (by omega) (by omega)
      show (if (!V.hasP E (V.pShort (pt es i))) = true then if (!V.hasP E (negP (V.pShort (pt es i)))) = true then _ else _ else _) = _
      unfold V.hasP
      by_cases c1 : V.pShort (pt es i) ∈ E
      · rw [if_neg (by simp [c1])]
        exact e E (by unfold addE; rw [if_pos (.inl c1)])
      · rw [if_pos (by simp [c1])]
        by_cases c2 : negP (V.pShort (pt es i)) ∈ E
        · rw [if_neg (by simp [c2])]
          exact e E (by unfold addE; rw [if_pos (.inr c2)])
        · rw [if_pos (by simp [c2])]
          exact e _ (by unfold addE; rw [if_neg (by rintro (h | h); exact c1 h; exact c2 h)]; rfl)
    · have : i = es.length := by omega
      subst this
      simp
theorem w_pred {n : Nat} (h0 : 0 < n) (h : n < 1099511627776) : IntKind.wrap .i64 ((n : Int) - 1) = ((n - 1 : Nat) : Int) := by
  rw [IntWalk.i64_in _ (by omega)]; omega
theorem cEq_nat (i n : Nat) : cEq (i : Int) (n : Int) = decide (i = n) := by
  rw [cEq_eq, Bool.eq_iff_iff]; simp [Int.natCast_inj]
theorem tri_val {α : Type} (l : List P3) (hl : l.length ≤ 12) (i j k : Nat) (hi : i < l.length) (hj : j < l.length) (hk : k < l.length) (a b c d e f g h A E : List P3) (hA : A.length + E.length < 900000) (k0 k1 : List P3 → List P3 → Option α) (kn : Int → List P3 → List P3 → Option α) :
    M.core_l3_step (i : Int) (j : Int) a b c d e f g h l kn k0 k1 (k : Int) A E = kn ((k + 1 : Nat) : Int) (trip l i j k (A, E)).1 (trip l i j k (A, E)).2 := by
  unfold M.core_l3_step
  have ci : (0 : Int) ≤ (i : Int) ∧ (i : Int) < (l.length : Int) := by omega
  have cj : (0 : Int) ≤ (j : Int) ∧ (j : Int) < (l.length : Int) := by omega
  have ck : (0 : Int) ≤ (k : Int) ∧ (k : Int) < (l.length : Int) := by omega
  rw [cEq_nat, if_neg (by simp; omega), if_pos cj, if_pos ci, if_pos ck, if_pos ci, if_pos ci, if_pos (lenB_of (n := l.length) (by omega)), w_next (by omega)]
  have hN : (cEq (triN l i j k).1 (0 : Int) && (cEq (triN l i j k).2.1 (0 : Int) && (cEq (triN l i j k).2.2 (0 : Int) && true))) = decide (triN l i j k = (0, 0, 0)) := eq3 _ _ _ (0, 0, 0)
  show (if (cEq (triN l i j k).1 (0 : Int) && (cEq (triN l i j k).2.1 (0 : Int) && (cEq (triN l i j k).2.2 (0 : Int) && true))) = true then kn _ A E else if cEq (triS l i j k) 0 = true then kn _ A E else _) = _
  rw [hN, cEq_eq]
  by_cases c1 : triN l i j k = (0, 0, 0)
  · have e : trip l i j k (A, E) = (A, E) := by unfold trip; rw [if_pos c1]
    rw [if_pos (by simpa using c1), e]
  · rw [if_neg (by simpa using c1)]
    by_cases c2 : triS l i j k = 0
    · have e : trip l i j k (A, E) = (A, E) := by unfold trip; rw [if_neg c1, if_pos c2]
      rw [if_pos (by simpa using c2), e]
    · rw [if_neg (by simpa using c2), if_pos (lenB_of (n := A.length) (by omega))]
      have e : trip l i j k (A, E) = (if triA l i j k ∈ A then A else A ++ [triA l i j k], (triE l i j k).foldl addE E) := by unfold trip; rw [if_neg c1, if_neg c2]
      rw [e]
      show (if (!V.hasP A (triA l i j k)) = true then _ else _) = _
      unfold V.hasP
      have h2 : ∀ (fuel : Nat) (k1 : List P3 → Option α), 3 < fuel → M.core_l2 (↑((2 : Nat) + (1 : Nat)) : Int) (triE l i j k) k1 fuel (0 : Int) E = k1 ((triE l i j k).foldl addE E) := by
        intro fuel k1 hf
        exact edges_val (triE l i j k) (by show 3 < 1000; omega) k1 fuel 0 E (Nat.zero_le _) (by show 3 - 0 < fuel; omega) (by show E.length + (3 - 0) < 1000000; omega)
      by_cases c3 : triA l i j k ∈ A
      · rw [if_neg (by simp [c3]), if_pos cj, if_pos ci, if_pos ck, if_pos ci, if_pos ck, if_pos cj, if_pos c3]
        refine (h2 _ _ (by omega)).trans ?_
        rfl
      · rw [if_pos (by simp [c3]), if_pos (by omega : (A.length + (0 + 1)) * 24 ≤ 140737488355328), if_pos cj, if_pos ci, if_pos ck, if_pos ci, if_pos ck, if_pos cj, if_neg c3]
        refine (h2 _ _ (by omega)).trans ?_
        rfl
theorem kF_val {α : Type} (l : List P3) (hl : l.length ≤ 12) (i j : Nat) (hi : i < l.length) (hj : j < l.length) (a b c d e f g h : List P3) (k0 k1 : List P3 → List P3 → Option α) : ∀ (fuel k : Nat) (st : St2), k ≤ l.length → l.length - k < fuel → sz2 st + 4 * (l.length - k) < 900000 →
    M.core_l3 (i : Int) (j : Int) a b c d e f g h l k0 k1 fuel (k : Int) st.1 st.2 = if j = l.length - 1 then k0 (kF l i j (l.length - k) k st).1 (kF l i j (l.length - k) k st).2 else k1 (kF l i j (l.length - k) k st).1 (kF l i j (l.length - k) k st).2
  | 0, k, st, h1, h2, h3 => by omega
  | fu + 1, k, st, h1, h2, h3 => by
    unfold M.core_l3
    by_cases hk : k < l.length
    · have hs := trip_len l i j k st
      rw [tri_val l hl i j k hi hj hk _ _ _ _ _ _ _ _ _ _ (by unfold sz2 at h3; omega)]
      rw [kF_val l hl i j hi hj a b c d e f g h k0 k1 fu (k + 1) (trip l i j k (st.1, st.2)) (by omega) (by omega) (by show sz2 (trip l i j k st) + _ < _; omega)]
      have hq : l.length - k = (l.length - (k + 1)) + 1 := by omega
      rw [hq]
      rfl
    · have hk' : k = l.length := by omega
      subst hk'
      unfold M.core_l3_step
      rw [cEq_nat, if_pos (by simp), w_pred (by omega) (by omega), cEq_nat, Nat.sub_self]
      simp only [decide_eq_true_eq, kF]
theorem jF_val {α : Type} (l : List P3) (hl : l.length ≤ 12) (i : Nat) (hi : i < l.length) (a b c d e f g h : List P3) (kk : List P3 → List P3 → Option α) : ∀ (fuel j : Nat) (st : St2), i < j → j ≤ l.length → l.length - j < fuel → sz2 st + 48 * (l.length - j) < 800000 →
    M.core_l4 (i : Int) a b c d e f g h l kk kk fuel (j : Int) st.1 st.2 = kk (jF l i (l.length - j) j st).1 (jF l i (l.length - j) j st).2
  | 0, j, st, h0, h1, h2, h3 => by omega
  | fu + 1, j, st, h0, h1, h2, h3 => by
    unfold M.core_l4 M.core_l4_step
    rw [cLt_nat]
    by_cases hj : j < l.length
    · have hs := kF_len l i j (l.length - (j + 1)) (j + 1) st
      rw [if_pos (by simpa using hj), w_next (by omega)]
      rw [kF_val l hl i j hi hj a b c d e f g h _ _ _ (j + 1) st (by omega) (by omega) (by omega)]
      have hq : l.length - j = (l.length - (j + 1)) + 1 := by omega
      rw [hq]
      simp only [jF]
      by_cases hj2 : j = l.length - 1
      · rw [if_pos hj2]
        have e2 : l.length - (j + 1) = 0 := by omega
        rw [e2]
        simp only [jF]
      · rw [if_neg hj2]
        exact jF_val l hl i hi a b c d e f g h kk fu (j + 1) (kF l i j (l.length - (j + 1)) (j + 1) st) (by omega) (by omega) (by omega) (by omega)
    · have hj' : j = l.length := by omega
      subst hj'
      rw [if_neg (by simp), Nat.sub_self]
      simp only [jF]
theorem iF_val {α : Type} (l : List P3) (hl : l.length ≤ 12) (a b c d e f g h : List P3) (k1 : List P3 → List P3 → Option α) : ∀ (fuel i : Nat) (st : St2), i ≤ l.length → l.length - i < fuel → sz2 st + 576 * (l.length - i) < 700000 →
    M.core_l5 (l.length : Int) a b c d e f g h l k1 fuel (i : Int) st.1 st.2 = k1 (iF l (l.length - i) i st).1 (iF l (l.length - i) i st).2
  | 0, i, st, h1, h2, h3 => by omega
  | fu + 1, i, st, h1, h2, h3 => by
    unfold M.core_l5 M.core_l5_step
    rw [cLt_nat]
    by_cases hi : i < l.length
    · have hs := jF_len l i hl (l.length - (i + 1)) (i + 1) st
      rw [if_pos (by simpa using hi), w_next (by omega)]
      rw [jF_val l hl i hi a b c d e f g h _ _ (i + 1) st (by omega) (by omega) (by omega) (by omega)]
      have hq : l.length - i = (l.length - (i + 1)) + 1 := by omega
      rw [hq]
      simp only [iF]
      exact iF_val l hl a b c d e f g h k1 fu (i + 1) (jF l i (l.length - (i + 1)) (i + 1) st) (by omega) (by omega) (by omega)
    · have hi' : i = l.length := by omega
      subst hi'
      rw [if_neg (by simp), Nat.sub_self]
      simp only [iF]
def brickP (x y z : Int) : List P3 := [(-x, -y, -z), (-x, -y, z), (-x, y, -z), (-x, y, z), (x, -y, -z), (x, -y, z), (x, y, -z), (x, y, z)]
noncomputable def corPP (k hx hy hz : Int) (l : List P3) : List P3 := if k = 1 then [(0, 0, 0)] else if k = 2 then [(-hx, 0, 0), (hx, 0, 0)] else if k = 3 then brickP hx hy hz else l
noncomputable def corAP (k : Int) (l : List P3) : List P3 := if k = 3 then [(1, 0, 0), (0, 1, 0), (0, 0, 1)] else if k = 4 then (facesP l).1 else []
noncomputable def corEP (k : Int) (l : List P3) : List P3 := if k = 2 then [(1, 0, 0)] else if k = 3 then [(1, 0, 0), (0, 1, 0), (0, 0, 1)] else if k = 4 then (facesP l).2 else []
noncomputable def _root_.Go.Proofs.Ytkjellhkamfciaa.V.corP (k r hx hy hz : Int) (l : List P3) : List P3 := hid (if chkP k r hx hy hz l = 0 then corPP k hx hy hz l else [])
noncomputable def _root_.Go.Proofs.Ytkjellhkamfciaa.V.corA (k r hx hy hz : Int) (l : List P3) : List P3 := hid (if chkP k r hx hy hz l = 0 then corAP k l else [])
noncomputable def _root_.Go.Proofs.Ytkjellhkamfciaa.V.corE (k r hx hy hz : Int) (l : List P3) : List P3 := hid (if chkP k r hx hy hz l = 0 then corEP k l else [])
noncomputable def _root_.Go.Proofs.Ytkjellhkamfciaa.V.corR (k r hx hy hz : Int) (l : List P3) : Int := hid (if chkP k r hx hy hz l = 0 then r else 0)
theorem chk_range {k r hx hy hz : Int} {l : List P3} (h : chkP k r hx hy hz l = 0) :
    (k = 1 ∧ 1 ≤ r ∧ r ≤ 16384) ∨ (k = 2 ∧ (1 ≤ r ∧ r ≤ 16384) ∧ 1 ≤ hx ∧ hx ≤ 65536) ∨ (k = 3 ∧ (0 ≤ r ∧ r ≤ 16384) ∧ (1 ≤ hx ∧ hx ≤ 65536) ∧ (1 ≤ hy ∧ hy ≤ 65536) ∧ 1 ≤ hz ∧ hz ≤ 65536) ∨
      (k = 4 ∧ (0 ≤ r ∧ r ≤ 16384) ∧ (4 ≤ l.length ∧ l.length ≤ 12) ∧ V.apartP l = true ∧ V.flatP l = false) := by
  unfold chkP at h
  split at h
  · rename_i hk
    split at h
    · rename_i h1; simp [inZ] at h1; exact .inl ⟨hk, h1⟩
    · cases h
  split at h
  · rename_i hk
    split at h
    · rename_i h1; simp [inZ] at h1; exact .inr (.inl ⟨hk, h1.2, h1.1⟩)
    · cases h
  split at h
  · rename_i hk
    split at h
    · rename_i h1; simp [inZ] at h1; exact .inr (.inr (.inl ⟨hk, h1.2, h1.1.1.1, h1.1.1.2, h1.1.2⟩))
    · cases h
  split at h
  · rename_i hk
    split at h
    · rename_i h1
      split at h
      · cases h
      · rename_i hf
        simp [inZ] at h1
        exact .inr (.inr (.inr ⟨hk, h1.2, by omega, h1.1.2, by simpa using hf⟩))
    · cases h
  · cases h
theorem brick_l0 {α : Type} (x y z : Int) (hz : -65536 ≤ z ∧ z ≤ 65536) (k1 : List P3 → Option α) (fuel : Nat) (hf : 3 ≤ fuel) (pts : List P3) (hp : pts.length < 1000) :
    M.core_l0 x (↑((0 : Nat) + (1 : Nat) + (1 : Nat)) : Int) z [IntKind.wrap .i64 (0 - y), y] k1 fuel 0 pts = k1 (pts ++ [(x, IntKind.wrap .i64 (0 - y), -z), (x, IntKind.wrap .i64 (0 - y), z)] ++ [(x, y, -z), (x, y, z)]) := by
  obtain ⟨f, rfl⟩ : ∃ f, fuel = f + 3 := ⟨fuel - 3, by omega⟩
  have w0 : IntKind.wrap .i64 (0 + 1) = 1 := by decide
  have w1 : IntKind.wrap .i64 (1 + 1) = 2 := by decide
  have wz : IntKind.wrap .i64 (0 - z) = -z := by rw [IntWalk.i64_in _ (by omega)]; omega
  have l0 : cLt (0 : Int) (↑((0 : Nat) + (1 : Nat) + (1 : Nat)) : Int) = true := by rw [cLt_eq]; decide
  have l1 : cLt (1 : Int) (↑((0 : Nat) + (1 : Nat) + (1 : Nat)) : Int) = true := by rw [cLt_eq]; decide
  have l2 : ¬ cLt (2 : Int) (↑((0 : Nat) + (1 : Nat) + (1 : Nat)) : Int) = true := by rw [cLt_eq]; decide
  have c0 : (0 : Int) ≤ 0 ∧ (0 : Int) < ((List.length [IntKind.wrap .i64 (0 - y), y] : Nat) : Int) := by simp
  have c1 : (0 : Int) ≤ 1 ∧ (1 : Int) < ((List.length [IntKind.wrap .i64 (0 - y), y] : Nat) : Int) := by simp
  have q : ∀ (m : Nat) (n : Nat), m < 2000 → n < 10 → (m + n) * 24 ≤ 140737488355328 := by intro m n h1 h2; omega
  unfold M.core_l0 M.core_l0_step
  rw [if_pos l0, if_pos c0, if_pos (q _ _ (by omega) (by decide)), w0, wz]
  unfold M.core_l0 M.core_l0_step
  rw [if_pos l1, if_pos c1, if_pos (q _ _ (by rw [List.length_append]; simp; omega) (by decide)), w1, wz]
  unfold M.core_l0 M.core_l0_step
  rw [if_neg l2]
  rfl
theorem brick_l1 {α : Type} (x y z : Int) (hx : -65536 ≤ x ∧ x ≤ 65536) (hy : -65536 ≤ y ∧ y ≤ 65536) (hz : -65536 ≤ z ∧ z ≤ 65536) (a b c d e g : List P3) (k1 : List P3 → Option α) (fuel : Nat) (hf : 3 ≤ fuel) :
    M.core_l1 (↑((0 : Nat) + (1 : Nat) + (1 : Nat)) : Int) y z a b c d e g [IntKind.wrap .i64 (0 - x), x] k1 fuel 0 [] = k1 (brickP x y z) := by
  obtain ⟨f, rfl⟩ : ∃ f, fuel = f + 3 := ⟨fuel - 3, by omega⟩
  have w0 : IntKind.wrap .i64 (0 + 1) = 1 := by decide
  have w1 : IntKind.wrap .i64 (1 + 1) = 2 := by decide
  have wx : IntKind.wrap .i64 (0 - x) = -x := by rw [IntWalk.i64_in _ (by omega)]; omega
  have wy : IntKind.wrap .i64 (0 - y) = -y := by rw [IntWalk.i64_in _ (by omega)]; omega
  have hb := fun (x : Int) (k1 : List P3 → Option α) (fuel : Nat) (hf : 3 ≤ fuel) (pts : List P3) (hp : pts.length < 1000) => brick_l0 x y z hz k1 fuel hf pts hp
  have c0 : (0 : Int) ≤ 0 ∧ (0 : Int) < ((List.length [IntKind.wrap .i64 (0 - x), x] : Nat) : Int) := by simp
  have c1 : (0 : Int) ≤ 1 ∧ (1 : Int) < ((List.length [IntKind.wrap .i64 (0 - x), x] : Nat) : Int) := by simp
  have l0 : cLt (0 : Int) (↑((0 : Nat) + (1 : Nat) + (1 : Nat)) : Int) = true := by rw [cLt_eq]; decide
  have l1 : cLt (1 : Int) (↑((0 : Nat) + (1 : Nat) + (1 : Nat)) : Int) = true := by rw [cLt_eq]; decide
  have l2 : ¬ cLt (2 : Int) (↑((0 : Nat) + (1 : Nat) + (1 : Nat)) : Int) = true := by rw [cLt_eq]; decide
  unfold M.core_l1 M.core_l1_step
  rw [if_pos l0, if_pos c0]
  rw [hb _ _ _ (by omega) _ (by simp), w0]
  unfold M.core_l1 M.core_l1_step
  rw [if_pos l1, if_pos c1]
  rw [hb _ _ _ (by omega) _ (by simp), w1]
  unfold M.core_l1 M.core_l1_step
  rw [if_neg l2]
  simp only [List.getD_cons_zero, List.getD_cons_succ, Int.toNat_zero, List.nil_append, show Int.toNat 1 = 1 from rfl, wx, wy]
  rfl
theorem core_v {α : Type} (k r hx hy hz : Int) (l : List P3) (k0 : Int → Int → List P3 → List P3 → List P3 → Option α) :
    M.core k r hx hy hz l k0 = k0 (V.corR k r hx hy hz l) (V.chk k r hx hy hz l) (V.corP k r hx hy hz l) (V.corA k r hx hy hz l) (V.corE k r hx hy hz l) := by
  unfold M.core V.corR V.corP V.corA V.corE V.chk
  simp only [hid_eq, cEq_eq]
  by_cases hc : chkP k r hx hy hz l = 0
  · simp only [hc, beq_self_eq_true, Bool.not_true, Bool.false_eq_true, if_false, if_true, beq_iff_eq]
    rcases chk_range hc with ⟨rfl, h1⟩ | ⟨rfl, h1, h2⟩ | ⟨rfl, h1, h2, h3, h4⟩ | ⟨rfl, h1, h2, h3, h4⟩
    · rfl
    · have wx : IntKind.wrap .i64 (0 - hx) = -hx := by rw [IntWalk.i64_in _ (by omega)]; omega
      simp only [wx]
      rfl
    · simp only [Int.reduceEq, if_false, if_true]
      rw [brick_l1 hx hy hz (by omega) (by omega) (by omega) _ _ _ _ _ _ _ _ (by omega), if_pos (lenB_of (n := 3) (by omega))]
      rfl
    · simp only [Int.reduceEq, if_false, if_true]
      rw [if_pos (lenB_of (n := l.length) (by omega))]
      have := iF_val l h2.2 l [] [] [] [] [] [] [] (fun (x402 x403 : List P3) => k0 r (0 : Int) l x402 x403) (100 + l.length + 0 + 0 + 0 + 0 + 0 + 0 + 0 + l.length + 0 + 0) 0 ([], []) (by omega) (by omega) (by show 0 + 576 * _ < 700000; omega)
      refine Eq.trans this ?_
      rfl
  · simp [hc]
noncomputable def core_h {α : Type} (ds : List D) (Q : SV → Hp → Option α) : Option α :=
  dI ds fun k ds => dI ds fun r ds => dI ds fun hx ds => dI ds fun hy ds => dI ds fun hz ds => dL kP ds fun l ds => dE ds (Q (.tup [.agg [.sl 0, .sl 1, .sl 2, .int .i64 (V.corR k r hx hy hz l)], .int .i64 (V.chk k r hx hy hz l)]) ([.seq (.st (.i .i64) [.i .i64, .i .i64]) (V.corP k r hx hy hz l) 23, .seq (.st (.i .i64) [.i .i64, .i .i64]) (V.corA k r hx hy hz l) 23, .seq (.st (.i .i64) [.i .i64, .i .i64]) (V.corE k r hx hy hz l) 23]))
theorem core_h_ok {α : Type} : FnOk E.P 13 (fEnt (α := α) core_sp core_h) :=
  fEntR_ok E (look_check_ok) (exec_sound E E_ok (look_check_ok) (core_l5_lps_ok) 400) fun ds Q r h => by
    unfold core_h at h
    obtain ⟨k, ds, rfl, h1⟩ := dI_inv h
    obtain ⟨r, ds, rfl, h2⟩ := dI_inv h1
    obtain ⟨hx, ds, rfl, h3⟩ := dI_inv h2
    obtain ⟨hy, ds, rfl, h4⟩ := dI_inv h3
    obtain ⟨hz, ds, rfl, h5⟩ := dI_inv h4
    obtain ⟨l, ds, rfl, h6⟩ := dL_inv h5
    obtain ⟨rfl, hE⟩ := dE_inv h6
    exact ⟨_, _, hE, fun vs => ⟨_, _, by kernel_rfl, (core_eq k r hx hy hz l ((cellsV (vs.headD undef)).tail.tail.tail.tail.tail.headD undef) _).trans (core_v k r hx hy hz l _)⟩⟩
noncomputable def look_core {α : Type} : LookF α := addFn 13 (fEnt core_sp core_h) look_check
theorem look_core_ok {α : Type} : LookOk E.P (look_core (α := α)) := addFn_ok core_h_ok (look_check_ok)
end Go.Proofs.Ytkjellhkamfciaa.Sx
