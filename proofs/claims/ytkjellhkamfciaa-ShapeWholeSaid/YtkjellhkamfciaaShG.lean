/- shape: masses. -/
import Derived.Test.YtkjellhkamfciaaShF
namespace Go.Proofs.Ytkjellhkamfciaa.Sx
open Go
set_option maxRecDepth 20000
set_option linter.unusedVariables false
set_option linter.unusedSimpArgs false
noncomputable def _root_.Go.Proofs.Ytkjellhkamfciaa.M.mass_l0_step {α : Type} (x31 : Int) (x45 : L3) (kn : Int → Int → Int → Option α) (k1 : Int → Int → Option α) (x29 : Int) (x30 : Int) (x32 : Int) : Option α :=
  if cLt x32 x31 = true then if (0 : Int) ≤ x32 ∧ x32 < (↑(List.length x45) : Int) then kn (if Prod.fst (List.getD x45 (Int.toNat x32) ((0 : Int), (0 : Int), (0 : Int))) < x29 then Prod.fst (List.getD x45 (Int.toNat x32) ((0 : Int), (0 : Int), (0 : Int))) else x29) (if Prod.fst (List.getD x45 (Int.toNat x32) ((0 : Int), (0 : Int), (0 : Int))) > x30 then Prod.fst (List.getD x45 (Int.toNat x32) ((0 : Int), (0 : Int), (0 : Int))) else x30) (IntKind.wrap .i64 (x32 + (1 : Int))) else none
else k1 x29 x30
noncomputable def _root_.Go.Proofs.Ytkjellhkamfciaa.M.mass_l0 {α : Type} (x31 : Int) (x45 : L3) (k1 : Int → Int → Option α) : Nat → Int → Int → Int → Option α
  | 0, _, _, _ => none
  | n + 1, x29, x30, x32 => M.mass_l0_step x31 x45 (M.mass_l0 x31 x45 k1 n) k1 x29 x30 x32
theorem mass_l0_step_eq {α : Type} (x29 : Int) (x30 : Int) (x31 : Int) (x32 : Int) (x33 : Int) (x34 : Int) (x35 : Int) (x36 : Int) (x37 : Int) (x38 : Value) (x39 : L3) (x40 : Int) (x41 : Int) (x42 : Int) (x43 : Int) (x44 : Int) (x45 : L3) (x46 : L3) (x47 : L3) (x48 : L3) (x49 : L3) (x50 : L3) (x51 : Int) (x52 : Bool) (x53 : Int) (x54 : Int) (x55 : Int) (x56 : Int) (Q : Ex → St → Option α) : (loopStep E (exec E look_core noLps 400) 35 [false, true, false, true, true] 12 (codeAt E.P 35 [false, true, false, true, true])) (St.mk (none :: some (SV.fn (nat_lit 36) [] []) :: some (SV.ptr (nat_lit 12) (nat_lit 0)) :: none :: none :: some (SV.int .i64 x29) :: some (SV.int .i64 x30) :: nn 15 (some (SV.sl (nat_lit 3)) :: some (SV.int .i64 x31) :: some (SV.int .i64 x32) :: nn 22 ([])))
  [.cells [SV.int .i64 x33, SV.int .i64 x34, SV.int .i64 x35, SV.int .i64 x36, SV.int .i64 x37, SV.ros x38 kP x39] (nat_lit 26), .cells [SV.int .i64 x40] (nat_lit 3), .cells [SV.int .i64 x41, SV.int .i64 x42, SV.int .i64 x43, SV.int .i64 x44] (nat_lit 36), .seq kP x45 (nat_lit 23),
    .seq kP x46 (nat_lit 23), .seq kP x47 (nat_lit 23), .seq kP x48 (nat_lit 23), .seq kP x49 (nat_lit 23), .seq kP x50 (nat_lit 23),
    .cells [SV.sl (nat_lit 3), SV.sl (nat_lit 4), SV.sl (nat_lit 5), SV.int .i64 x51] (nat_lit 31), .cells [SV.bool x52] (nat_lit 62), .cells [SV.int .i64 x53, SV.int .i64 x54, SV.int .i64 x55] (nat_lit 34), .cells [SV.sl (nat_lit 3), SV.sl (nat_lit 4), SV.sl (nat_lit 5), SV.int .i64 x56] (nat_lit 31)]) Q = M.mass_l0_step x31 x45 (fun (x59 : Int) (x60 : Int) (x61 : Int) => Q .normal (St.mk (none :: some (SV.fn (nat_lit 36) [] []) :: some (SV.ptr (nat_lit 12) (nat_lit 0)) :: none :: none :: some (SV.int .i64 x59) :: some (SV.int .i64 x60) :: nn 15 (some (SV.sl (nat_lit 3)) :: some (SV.int .i64 x31) :: some (SV.int .i64 x61) :: nn 22 ([])))
  [.cells [SV.int .i64 x33, SV.int .i64 x34, SV.int .i64 x35, SV.int .i64 x36, SV.int .i64 x37, SV.ros x38 kP x39] (nat_lit 26), .cells [SV.int .i64 x40] (nat_lit 3), .cells [SV.int .i64 x41, SV.int .i64 x42, SV.int .i64 x43, SV.int .i64 x44] (nat_lit 36), .seq kP x45 (nat_lit 23),
    .seq kP x46 (nat_lit 23), .seq kP x47 (nat_lit 23), .seq kP x48 (nat_lit 23), .seq kP x49 (nat_lit 23), .seq kP x50 (nat_lit 23),
    .cells [SV.sl (nat_lit 3), SV.sl (nat_lit 4), SV.sl (nat_lit 5), SV.int .i64 x51] (nat_lit 31), .cells [SV.bool x52] (nat_lit 62), .cells [SV.int .i64 x53, SV.int .i64 x54, SV.int .i64 x55] (nat_lit 34), .cells [SV.sl (nat_lit 3), SV.sl (nat_lit 4), SV.sl (nat_lit 5), SV.int .i64 x56] (nat_lit 31)])) (fun (x57 : Int) (x58 : Int) => Q (.exit 0) (St.mk (none :: none :: some (SV.ptr (nat_lit 12) (nat_lit 0)) :: none :: none :: some (SV.int .i64 x57) :: some (SV.int .i64 x58) :: nn 40 ([]))
  [.cells [SV.int .i64 x33, SV.int .i64 x34, SV.int .i64 x35, SV.int .i64 x36, SV.int .i64 x37, SV.ros x38 kP x39] (nat_lit 26), .cells [SV.int .i64 x40] (nat_lit 3), .cells [SV.int .i64 x41, SV.int .i64 x42, SV.int .i64 x43, SV.int .i64 x44] (nat_lit 36), .seq kP x45 (nat_lit 23),
    .seq kP x46 (nat_lit 23), .seq kP x47 (nat_lit 23), .seq kP x48 (nat_lit 23), .seq kP x49 (nat_lit 23), .seq kP x50 (nat_lit 23),
    .cells [SV.sl (nat_lit 3), SV.sl (nat_lit 4), SV.sl (nat_lit 5), SV.int .i64 x51] (nat_lit 31), .cells [SV.bool x52] (nat_lit 62), .cells [SV.int .i64 x53, SV.int .i64 x54, SV.int .i64 x55] (nat_lit 34), .cells [SV.sl (nat_lit 3), SV.sl (nat_lit 4), SV.sl (nat_lit 5), SV.int .i64 x56] (nat_lit 31)])) x29 x30 x32 := by kernel_rfl
theorem mass_l0_iter {α : Type} (x31 : Int) (x33 : Int) (x34 : Int) (x35 : Int) (x36 : Int) (x37 : Int) (x38 : Value) (x39 : L3) (x40 : Int) (x41 : Int) (x42 : Int) (x43 : Int) (x44 : Int) (x45 : L3) (x46 : L3) (x47 : L3) (x48 : L3) (x49 : L3) (x50 : L3) (x51 : Int) (x52 : Bool) (x53 : Int) (x54 : Int) (x55 : Int) (x56 : Int) (Q : Ex → St → Option α) : ∀ (n : Nat) (x29 : Int) (x30 : Int) (x32 : Int), iter (loopStep E (exec E look_core noLps 400) 35 [false, true, false, true, true] 12 (codeAt E.P 35 [false, true, false, true, true])) n (St.mk (none :: some (SV.fn (nat_lit 36) [] []) :: some (SV.ptr (nat_lit 12) (nat_lit 0)) :: none :: none :: some (SV.int .i64 x29) :: some (SV.int .i64 x30) :: nn 15 (some (SV.sl (nat_lit 3)) :: some (SV.int .i64 x31) :: some (SV.int .i64 x32) :: nn 22 ([])))
  [.cells [SV.int .i64 x33, SV.int .i64 x34, SV.int .i64 x35, SV.int .i64 x36, SV.int .i64 x37, SV.ros x38 kP x39] (nat_lit 26), .cells [SV.int .i64 x40] (nat_lit 3), .cells [SV.int .i64 x41, SV.int .i64 x42, SV.int .i64 x43, SV.int .i64 x44] (nat_lit 36), .seq kP x45 (nat_lit 23),
    .seq kP x46 (nat_lit 23), .seq kP x47 (nat_lit 23), .seq kP x48 (nat_lit 23), .seq kP x49 (nat_lit 23), .seq kP x50 (nat_lit 23),
    .cells [SV.sl (nat_lit 3), SV.sl (nat_lit 4), SV.sl (nat_lit 5), SV.int .i64 x51] (nat_lit 31), .cells [SV.bool x52] (nat_lit 62), .cells [SV.int .i64 x53, SV.int .i64 x54, SV.int .i64 x55] (nat_lit 34), .cells [SV.sl (nat_lit 3), SV.sl (nat_lit 4), SV.sl (nat_lit 5), SV.int .i64 x56] (nat_lit 31)]) Q = M.mass_l0 x31 x45 (fun (x57 : Int) (x58 : Int) => Q (.exit 0) (St.mk (none :: none :: some (SV.ptr (nat_lit 12) (nat_lit 0)) :: none :: none :: some (SV.int .i64 x57) :: some (SV.int .i64 x58) :: nn 40 ([]))
  [.cells [SV.int .i64 x33, SV.int .i64 x34, SV.int .i64 x35, SV.int .i64 x36, SV.int .i64 x37, SV.ros x38 kP x39] (nat_lit 26), .cells [SV.int .i64 x40] (nat_lit 3), .cells [SV.int .i64 x41, SV.int .i64 x42, SV.int .i64 x43, SV.int .i64 x44] (nat_lit 36), .seq kP x45 (nat_lit 23),
    .seq kP x46 (nat_lit 23), .seq kP x47 (nat_lit 23), .seq kP x48 (nat_lit 23), .seq kP x49 (nat_lit 23), .seq kP x50 (nat_lit 23),
    .cells [SV.sl (nat_lit 3), SV.sl (nat_lit 4), SV.sl (nat_lit 5), SV.int .i64 x51] (nat_lit 31), .cells [SV.bool x52] (nat_lit 62), .cells [SV.int .i64 x53, SV.int .i64 x54, SV.int .i64 x55] (nat_lit 34), .cells [SV.sl (nat_lit 3), SV.sl (nat_lit 4), SV.sl (nat_lit 5), SV.int .i64 x56] (nat_lit 31)])) n x29 x30 x32
  | 0, _, _, _ => rfl
  | n + 1, x29, x30, x32 => (mass_l0_step_eq x29 x30 x31 x32 x33 x34 x35 x36 x37 x38 x39 x40 x41 x42 x43 x44 x45 x46 x47 x48 x49 x50 x51 x52 x53 x54 x55 x56 (iterK (loopStep E (exec E look_core noLps 400) 35 [false, true, false, true, true] 12 (codeAt E.P 35 [false, true, false, true, true])) n Q)).trans (congrArg (fun kn => M.mass_l0_step x31 x45 kn (fun (x57 : Int) (x58 : Int) => Q (.exit 0) (St.mk (none :: none :: some (SV.ptr (nat_lit 12) (nat_lit 0)) :: none :: none :: some (SV.int .i64 x57) :: some (SV.int .i64 x58) :: nn 40 ([]))
  [.cells [SV.int .i64 x33, SV.int .i64 x34, SV.int .i64 x35, SV.int .i64 x36, SV.int .i64 x37, SV.ros x38 kP x39] (nat_lit 26), .cells [SV.int .i64 x40] (nat_lit 3), .cells [SV.int .i64 x41, SV.int .i64 x42, SV.int .i64 x43, SV.int .i64 x44] (nat_lit 36), .seq kP x45 (nat_lit 23),
    .seq kP x46 (nat_lit 23), .seq kP x47 (nat_lit 23), .seq kP x48 (nat_lit 23), .seq kP x49 (nat_lit 23), .seq kP x50 (nat_lit 23),
    .cells [SV.sl (nat_lit 3), SV.sl (nat_lit 4), SV.sl (nat_lit 5), SV.int .i64 x51] (nat_lit 31), .cells [SV.bool x52] (nat_lit 62), .cells [SV.int .i64 x53, SV.int .i64 x54, SV.int .i64 x55] (nat_lit 34), .cells [SV.sl (nat_lit 3), SV.sl (nat_lit 4), SV.sl (nat_lit 5), SV.int .i64 x56] (nat_lit 31)])) x29 x30 x32) (funext fun x29 => funext fun x30 => funext fun x32 => mass_l0_iter x31 x33 x34 x35 x36 x37 x38 x39 x40 x41 x42 x43 x44 x45 x46 x47 x48 x49 x50 x51 x52 x53 x54 x55 x56 Q n x29 x30 x32))
noncomputable def mass_l0_go {α : Type} (ds : List D) (Q : Ex → St → Option α) : Option α :=
  dI ds fun x29 ds => dI ds fun x30 ds => dI ds fun x31 ds => dI ds fun x32 ds => dI ds fun x33 ds => dI ds fun x34 ds => dI ds fun x35 ds => dI ds fun x36 ds => dI ds fun x37 ds => dV ds fun x38 ds => dL kP ds fun x39 ds => dI ds fun x40 ds => dI ds fun x41 ds => dI ds fun x42 ds => dI ds fun x43 ds => dI ds fun x44 ds => dL kP ds fun x45 ds => dL kP ds fun x46 ds => dL kP ds fun x47 ds => dL kP ds fun x48 ds => dL kP ds fun x49 ds => dL kP ds fun x50 ds => dI ds fun x51 ds => dB ds fun x52 ds => dI ds fun x53 ds => dI ds fun x54 ds => dI ds fun x55 ds => dI ds fun x56 ds => dE ds (M.mass_l0 x31 x45 (fun (x57 : Int) (x58 : Int) => Q (.exit 0) (St.mk (none :: none :: some (SV.ptr (nat_lit 12) (nat_lit 0)) :: none :: none :: some (SV.int .i64 x57) :: some (SV.int .i64 x58) :: nn 40 ([]))
  [.cells [SV.int .i64 x33, SV.int .i64 x34, SV.int .i64 x35, SV.int .i64 x36, SV.int .i64 x37, SV.ros x38 kP x39] (nat_lit 26), .cells [SV.int .i64 x40] (nat_lit 3), .cells [SV.int .i64 x41, SV.int .i64 x42, SV.int .i64 x43, SV.int .i64 x44] (nat_lit 36), .seq kP x45 (nat_lit 23),
    .seq kP x46 (nat_lit 23), .seq kP x47 (nat_lit 23), .seq kP x48 (nat_lit 23), .seq kP x49 (nat_lit 23), .seq kP x50 (nat_lit 23),
    .cells [SV.sl (nat_lit 3), SV.sl (nat_lit 4), SV.sl (nat_lit 5), SV.int .i64 x51] (nat_lit 31), .cells [SV.bool x52] (nat_lit 62), .cells [SV.int .i64 x53, SV.int .i64 x54, SV.int .i64 x55] (nat_lit 34), .cells [SV.sl (nat_lit 3), SV.sl (nat_lit 4), SV.sl (nat_lit 5), SV.int .i64 x56] (nat_lit 31)])) (100 + x39.length + x45.length + x46.length + x47.length + x48.length + x49.length + x50.length) x29 x30 x32)
theorem mass_l0_ok {α : Type} : LoopOk E.P 35 [false, true, false, true, true] 12 (lEnt (α := α) (St.mk (none :: some (SV.fn (nat_lit 36) [] []) :: some (SV.ptr (nat_lit 12) (nat_lit 0)) :: none :: none :: some (SV.int .i64 (0 : Int)) :: some (SV.int .i64 (0 : Int)) :: nn 15 (some (SV.sl (nat_lit 3)) :: some (SV.int .i64 (0 : Int)) :: some (SV.int .i64 (0 : Int)) :: nn 22 ([])))
  [.cells [SV.int .i64 (0 : Int), SV.int .i64 (0 : Int), SV.int .i64 (0 : Int), SV.int .i64 (0 : Int), SV.int .i64 (0 : Int), SV.ros undef kP []] (nat_lit 26), .cells [SV.int .i64 (0 : Int)] (nat_lit 3), .cells [SV.int .i64 (0 : Int), SV.int .i64 (0 : Int), SV.int .i64 (0 : Int), SV.int .i64 (0 : Int)] (nat_lit 36),
    .seq kP [] (nat_lit 23), .seq kP [] (nat_lit 23), .seq kP [] (nat_lit 23), .seq kP [] (nat_lit 23), .seq kP [] (nat_lit 23),
    .seq kP [] (nat_lit 23), .cells [SV.sl (nat_lit 3), SV.sl (nat_lit 4), SV.sl (nat_lit 5), SV.int .i64 (0 : Int)] (nat_lit 31), .cells [SV.bool false] (nat_lit 62), .cells [SV.int .i64 (0 : Int), SV.int .i64 (0 : Int), SV.int .i64 (0 : Int)] (nat_lit 34), .cells [SV.sl (nat_lit 3), SV.sl (nat_lit 4), SV.sl (nat_lit 5), SV.int .i64 (0 : Int)] (nat_lit 31)]) mass_l0_go) :=
  lEnt_ok E (exec_sound E E_ok (look_core_ok) (noLps_ok _) 400) fun ds Q r h S hS => by
    unfold mass_l0_go at h
    obtain ⟨x29, ds, rfl, h1⟩ := dI_inv h
    obtain ⟨x30, ds, rfl, h2⟩ := dI_inv h1
    obtain ⟨x31, ds, rfl, h3⟩ := dI_inv h2
    obtain ⟨x32, ds, rfl, h4⟩ := dI_inv h3
    obtain ⟨x33, ds, rfl, h5⟩ := dI_inv h4
    obtain ⟨x34, ds, rfl, h6⟩ := dI_inv h5
    obtain ⟨x35, ds, rfl, h7⟩ := dI_inv h6
    obtain ⟨x36, ds, rfl, h8⟩ := dI_inv h7
    obtain ⟨x37, ds, rfl, h9⟩ := dI_inv h8
    obtain ⟨x38, ds, rfl, h10⟩ := dV_inv h9
    obtain ⟨x39, ds, rfl, h11⟩ := dL_inv h10
    obtain ⟨x40, ds, rfl, h12⟩ := dI_inv h11
    obtain ⟨x41, ds, rfl, h13⟩ := dI_inv h12
    obtain ⟨x42, ds, rfl, h14⟩ := dI_inv h13
    obtain ⟨x43, ds, rfl, h15⟩ := dI_inv h14
    obtain ⟨x44, ds, rfl, h16⟩ := dI_inv h15
    obtain ⟨x45, ds, rfl, h17⟩ := dL_inv h16
    obtain ⟨x46, ds, rfl, h18⟩ := dL_inv h17
    obtain ⟨x47, ds, rfl, h19⟩ := dL_inv h18
    obtain ⟨x48, ds, rfl, h20⟩ := dL_inv h19
    obtain ⟨x49, ds, rfl, h21⟩ := dL_inv h20
    obtain ⟨x50, ds, rfl, h22⟩ := dL_inv h21
    obtain ⟨x51, ds, rfl, h23⟩ := dI_inv h22
    obtain ⟨x52, ds, rfl, h24⟩ := dB_inv h23
    obtain ⟨x53, ds, rfl, h25⟩ := dI_inv h24
    obtain ⟨x54, ds, rfl, h26⟩ := dI_inv h25
    obtain ⟨x55, ds, rfl, h27⟩ := dI_inv h26
    obtain ⟨x56, ds, rfl, h28⟩ := dI_inv h27
    obtain ⟨rfl, hE⟩ := dE_inv h28
    have e : fillS (St.mk (none :: some (SV.fn (nat_lit 36) [] []) :: some (SV.ptr (nat_lit 12) (nat_lit 0)) :: none :: none :: some (SV.int .i64 (0 : Int)) :: some (SV.int .i64 (0 : Int)) :: nn 15 (some (SV.sl (nat_lit 3)) :: some (SV.int .i64 (0 : Int)) :: some (SV.int .i64 (0 : Int)) :: nn 22 ([])))
  [.cells [SV.int .i64 (0 : Int), SV.int .i64 (0 : Int), SV.int .i64 (0 : Int), SV.int .i64 (0 : Int), SV.int .i64 (0 : Int), SV.ros undef kP []] (nat_lit 26), .cells [SV.int .i64 (0 : Int)] (nat_lit 3), .cells [SV.int .i64 (0 : Int), SV.int .i64 (0 : Int), SV.int .i64 (0 : Int), SV.int .i64 (0 : Int)] (nat_lit 36),
    .seq kP [] (nat_lit 23), .seq kP [] (nat_lit 23), .seq kP [] (nat_lit 23), .seq kP [] (nat_lit 23), .seq kP [] (nat_lit 23),
    .seq kP [] (nat_lit 23), .cells [SV.sl (nat_lit 3), SV.sl (nat_lit 4), SV.sl (nat_lit 5), SV.int .i64 (0 : Int)] (nat_lit 31), .cells [SV.bool false] (nat_lit 62), .cells [SV.int .i64 (0 : Int), SV.int .i64 (0 : Int), SV.int .i64 (0 : Int)] (nat_lit 34), .cells [SV.sl (nat_lit 3), SV.sl (nat_lit 4), SV.sl (nat_lit 5), SV.int .i64 (0 : Int)] (nat_lit 31)]) [.i x29, .i x30, .i x31, .i x32, .i x33, .i x34, .i x35, .i x36, .i x37, .v x38, .l kP x39, .i x40, .i x41, .i x42, .i x43, .i x44, .l kP x45, .l kP x46, .l kP x47, .l kP x48, .l kP x49, .l kP x50, .i x51, .b x52, .i x53, .i x54, .i x55, .i x56] = some (St.mk (none :: some (SV.fn (nat_lit 36) [] []) :: some (SV.ptr (nat_lit 12) (nat_lit 0)) :: none :: none :: some (SV.int .i64 x29) :: some (SV.int .i64 x30) :: nn 15 (some (SV.sl (nat_lit 3)) :: some (SV.int .i64 x31) :: some (SV.int .i64 x32) :: nn 22 ([])))
  [.cells [SV.int .i64 x33, SV.int .i64 x34, SV.int .i64 x35, SV.int .i64 x36, SV.int .i64 x37, SV.ros x38 kP x39] (nat_lit 26), .cells [SV.int .i64 x40] (nat_lit 3), .cells [SV.int .i64 x41, SV.int .i64 x42, SV.int .i64 x43, SV.int .i64 x44] (nat_lit 36), .seq kP x45 (nat_lit 23),
    .seq kP x46 (nat_lit 23), .seq kP x47 (nat_lit 23), .seq kP x48 (nat_lit 23), .seq kP x49 (nat_lit 23), .seq kP x50 (nat_lit 23),
    .cells [SV.sl (nat_lit 3), SV.sl (nat_lit 4), SV.sl (nat_lit 5), SV.int .i64 x51] (nat_lit 31), .cells [SV.bool x52] (nat_lit 62), .cells [SV.int .i64 x53, SV.int .i64 x54, SV.int .i64 x55] (nat_lit 34), .cells [SV.sl (nat_lit 3), SV.sl (nat_lit 4), SV.sl (nat_lit 5), SV.int .i64 x56] (nat_lit 31)]) := by kernel_rfl
    rw [e] at hS
    cases hS
    exact ⟨_, (mass_l0_iter x31 x33 x34 x35 x36 x37 x38 x39 x40 x41 x42 x43 x44 x45 x46 x47 x48 x49 x50 x51 x52 x53 x54 x55 x56 Q _ x29 x30 x32).trans hE⟩
noncomputable def mass_l0_lps {α : Type} : LookL α := addLp 35 [false, true, false, true, true] 12 (lEnt (St.mk (none :: some (SV.fn (nat_lit 36) [] []) :: some (SV.ptr (nat_lit 12) (nat_lit 0)) :: none :: none :: some (SV.int .i64 (0 : Int)) :: some (SV.int .i64 (0 : Int)) :: nn 15 (some (SV.sl (nat_lit 3)) :: some (SV.int .i64 (0 : Int)) :: some (SV.int .i64 (0 : Int)) :: nn 22 ([])))
  [.cells [SV.int .i64 (0 : Int), SV.int .i64 (0 : Int), SV.int .i64 (0 : Int), SV.int .i64 (0 : Int), SV.int .i64 (0 : Int), SV.ros undef kP []] (nat_lit 26), .cells [SV.int .i64 (0 : Int)] (nat_lit 3), .cells [SV.int .i64 (0 : Int), SV.int .i64 (0 : Int), SV.int .i64 (0 : Int), SV.int .i64 (0 : Int)] (nat_lit 36),
    .seq kP [] (nat_lit 23), .seq kP [] (nat_lit 23), .seq kP [] (nat_lit 23), .seq kP [] (nat_lit 23), .seq kP [] (nat_lit 23),
    .seq kP [] (nat_lit 23), .cells [SV.sl (nat_lit 3), SV.sl (nat_lit 4), SV.sl (nat_lit 5), SV.int .i64 (0 : Int)] (nat_lit 31), .cells [SV.bool false] (nat_lit 62), .cells [SV.int .i64 (0 : Int), SV.int .i64 (0 : Int), SV.int .i64 (0 : Int)] (nat_lit 34), .cells [SV.sl (nat_lit 3), SV.sl (nat_lit 4), SV.sl (nat_lit 5), SV.int .i64 (0 : Int)] (nat_lit 31)]) mass_l0_go) noLps
theorem mass_l0_lps_ok {α : Type} : LoopsOk E.P (mass_l0_lps (α := α)) := addLp_ok mass_l0_ok (noLps_ok _)

noncomputable def _root_.Go.Proofs.Ytkjellhkamfciaa.M.mass_l1_step {α : Type} (x95 : Int) (x109 : L3) (kn : Int → Int → Int → Option α) (k1 : Int → Int → Option α) (x93 : Int) (x94 : Int) (x96 : Int) : Option α :=
  if cLt x96 x95 = true then
  if (0 : Int) ≤ x96 ∧ x96 < (↑(List.length x109) : Int) then
    kn (if Prod.fst (Prod.snd (List.getD x109 (Int.toNat x96) ((0 : Int), (0 : Int), (0 : Int)))) < x93 then Prod.fst (Prod.snd (List.getD x109 (Int.toNat x96) ((0 : Int), (0 : Int), (0 : Int)))) else x93) (if Prod.fst (Prod.snd (List.getD x109 (Int.toNat x96) ((0 : Int), (0 : Int), (0 : Int)))) > x94 then Prod.fst (Prod.snd (List.getD x109 (Int.toNat x96) ((0 : Int), (0 : Int), (0 : Int)))) else x94) (IntKind.wrap .i64 (x96 + (1 : Int)))
  else none
else k1 x93 x94
noncomputable def _root_.Go.Proofs.Ytkjellhkamfciaa.M.mass_l1 {α : Type} (x95 : Int) (x109 : L3) (k1 : Int → Int → Option α) : Nat → Int → Int → Int → Option α
  | 0, _, _, _ => none
  | n + 1, x93, x94, x96 => M.mass_l1_step x95 x109 (M.mass_l1 x95 x109 k1 n) k1 x93 x94 x96
theorem mass_l1_step_eq {α : Type} (x93 : Int) (x94 : Int) (x95 : Int) (x96 : Int) (x97 : Int) (x98 : Int) (x99 : Int) (x100 : Int) (x101 : Int) (x102 : Value) (x103 : L3) (x104 : Int) (x105 : Int) (x106 : Int) (x107 : Int) (x108 : Int) (x109 : L3) (x110 : L3) (x111 : L3) (x112 : L3) (x113 : L3) (x114 : L3) (x115 : Int) (x116 : Bool) (x117 : Int) (x118 : Int) (x119 : Int) (x120 : Int) (Q : Ex → St → Option α) : (loopStep E (exec E look_core mass_l0_lps 400) 35 [false, true, false, true, true] 12 (codeAt E.P 35 [false, true, false, true, true])) (St.mk (none :: some (SV.fn (nat_lit 37) [] []) :: some (SV.ptr (nat_lit 12) (nat_lit 0)) :: none :: none :: some (SV.int .i64 x93) :: some (SV.int .i64 x94) :: nn 15 (some (SV.sl (nat_lit 3)) :: some (SV.int .i64 x95) :: some (SV.int .i64 x96) :: nn 22 ([])))
  [.cells [SV.int .i64 x97, SV.int .i64 x98, SV.int .i64 x99, SV.int .i64 x100, SV.int .i64 x101, SV.ros x102 kP x103] (nat_lit 26), .cells [SV.int .i64 x104] (nat_lit 3), .cells [SV.int .i64 x105, SV.int .i64 x106, SV.int .i64 x107, SV.int .i64 x108] (nat_lit 36), .seq kP x109 (nat_lit 23),
    .seq kP x110 (nat_lit 23), .seq kP x111 (nat_lit 23), .seq kP x112 (nat_lit 23), .seq kP x113 (nat_lit 23), .seq kP x114 (nat_lit 23),
    .cells [SV.sl (nat_lit 3), SV.sl (nat_lit 4), SV.sl (nat_lit 5), SV.int .i64 x115] (nat_lit 31), .cells [SV.bool x116] (nat_lit 62), .cells [SV.int .i64 x117, SV.int .i64 x118, SV.int .i64 x119] (nat_lit 34), .cells [SV.sl (nat_lit 3), SV.sl (nat_lit 4), SV.sl (nat_lit 5), SV.int .i64 x120] (nat_lit 31)]) Q = M.mass_l1_step x95 x109 (fun (x123 : Int) (x124 : Int) (x125 : Int) => Q .normal (St.mk (none :: some (SV.fn (nat_lit 37) [] []) :: some (SV.ptr (nat_lit 12) (nat_lit 0)) :: none :: none :: some (SV.int .i64 x123) :: some (SV.int .i64 x124) :: nn 15 (some (SV.sl (nat_lit 3)) :: some (SV.int .i64 x95) :: some (SV.int .i64 x125) :: nn 22 ([])))
  [.cells [SV.int .i64 x97, SV.int .i64 x98, SV.int .i64 x99, SV.int .i64 x100, SV.int .i64 x101, SV.ros x102 kP x103] (nat_lit 26), .cells [SV.int .i64 x104] (nat_lit 3), .cells [SV.int .i64 x105, SV.int .i64 x106, SV.int .i64 x107, SV.int .i64 x108] (nat_lit 36), .seq kP x109 (nat_lit 23),
    .seq kP x110 (nat_lit 23), .seq kP x111 (nat_lit 23), .seq kP x112 (nat_lit 23), .seq kP x113 (nat_lit 23), .seq kP x114 (nat_lit 23),
    .cells [SV.sl (nat_lit 3), SV.sl (nat_lit 4), SV.sl (nat_lit 5), SV.int .i64 x115] (nat_lit 31), .cells [SV.bool x116] (nat_lit 62), .cells [SV.int .i64 x117, SV.int .i64 x118, SV.int .i64 x119] (nat_lit 34), .cells [SV.sl (nat_lit 3), SV.sl (nat_lit 4), SV.sl (nat_lit 5), SV.int .i64 x120] (nat_lit 31)])) (fun (x121 : Int) (x122 : Int) => Q (.exit 0) (St.mk (none :: none :: some (SV.ptr (nat_lit 12) (nat_lit 0)) :: none :: none :: some (SV.int .i64 x121) :: some (SV.int .i64 x122) :: nn 40 ([]))
  [.cells [SV.int .i64 x97, SV.int .i64 x98, SV.int .i64 x99, SV.int .i64 x100, SV.int .i64 x101, SV.ros x102 kP x103] (nat_lit 26), .cells [SV.int .i64 x104] (nat_lit 3), .cells [SV.int .i64 x105, SV.int .i64 x106, SV.int .i64 x107, SV.int .i64 x108] (nat_lit 36), .seq kP x109 (nat_lit 23),
    .seq kP x110 (nat_lit 23), .seq kP x111 (nat_lit 23), .seq kP x112 (nat_lit 23), .seq kP x113 (nat_lit 23), .seq kP x114 (nat_lit 23),
    .cells [SV.sl (nat_lit 3), SV.sl (nat_lit 4), SV.sl (nat_lit 5), SV.int .i64 x115] (nat_lit 31), .cells [SV.bool x116] (nat_lit 62), .cells [SV.int .i64 x117, SV.int .i64 x118, SV.int .i64 x119] (nat_lit 34), .cells [SV.sl (nat_lit 3), SV.sl (nat_lit 4), SV.sl (nat_lit 5), SV.int .i64 x120] (nat_lit 31)])) x93 x94 x96 := by kernel_rfl
theorem mass_l1_iter {α : Type} (x95 : Int) (x97 : Int) (x98 : Int) (x99 : Int) (x100 : Int) (x101 : Int) (x102 : Value) (x103 : L3) (x104 : Int) (x105 : Int) (x106 : Int) (x107 : Int) (x108 : Int) (x109 : L3) (x110 : L3) (x111 : L3) (x112 : L3) (x113 : L3) (x114 : L3) (x115 : Int) (x116 : Bool) (x117 : Int) (x118 : Int) (x119 : Int) (x120 : Int) (Q : Ex → St → Option α) : ∀ (n : Nat) (x93 : Int) (x94 : Int) (x96 : Int), iter (loopStep E (exec E look_core mass_l0_lps 400) 35 [false, true, false, true, true] 12 (codeAt E.P 35 [false, true, false, true, true])) n (St.mk (none :: some (SV.fn (nat_lit 37) [] []) :: some (SV.ptr (nat_lit 12) (nat_lit 0)) :: none :: none :: some (SV.int .i64 x93) :: some (SV.int .i64 x94) :: nn 15 (some (SV.sl (nat_lit 3)) :: some (SV.int .i64 x95) :: some (SV.int .i64 x96) :: nn 22 ([])))
  [.cells [SV.int .i64 x97, SV.int .i64 x98, SV.int .i64 x99, SV.int .i64 x100, SV.int .i64 x101, SV.ros x102 kP x103] (nat_lit 26), .cells [SV.int .i64 x104] (nat_lit 3), .cells [SV.int .i64 x105, SV.int .i64 x106, SV.int .i64 x107, SV.int .i64 x108] (nat_lit 36), .seq kP x109 (nat_lit 23),
    .seq kP x110 (nat_lit 23), .seq kP x111 (nat_lit 23), .seq kP x112 (nat_lit 23), .seq kP x113 (nat_lit 23), .seq kP x114 (nat_lit 23),
    .cells [SV.sl (nat_lit 3), SV.sl (nat_lit 4), SV.sl (nat_lit 5), SV.int .i64 x115] (nat_lit 31), .cells [SV.bool x116] (nat_lit 62), .cells [SV.int .i64 x117, SV.int .i64 x118, SV.int .i64 x119] (nat_lit 34), .cells [SV.sl (nat_lit 3), SV.sl (nat_lit 4), SV.sl (nat_lit 5), SV.int .i64 x120] (nat_lit 31)]) Q = M.mass_l1 x95 x109 (fun (x121 : Int) (x122 : Int) => Q (.exit 0) (St.mk (none :: none :: some (SV.ptr (nat_lit 12) (nat_lit 0)) :: none :: none :: some (SV.int .i64 x121) :: some (SV.int .i64 x122) :: nn 40 ([]))
  [.cells [SV.int .i64 x97, SV.int .i64 x98, SV.int .i64 x99, SV.int .i64 x100, SV.int .i64 x101, SV.ros x102 kP x103] (nat_lit 26), .cells [SV.int .i64 x104] (nat_lit 3), .cells [SV.int .i64 x105, SV.int .i64 x106, SV.int .i64 x107, SV.int .i64 x108] (nat_lit 36), .seq kP x109 (nat_lit 23),
    .seq kP x110 (nat_lit 23), .seq kP x111 (nat_lit 23), .seq kP x112 (nat_lit 23), .seq kP x113 (nat_lit 23), .seq kP x114 (nat_lit 23),
    .cells [SV.sl (nat_lit 3), SV.sl (nat_lit 4), SV.sl (nat_lit 5), SV.int .i64 x115] (nat_lit 31), .cells [SV.bool x116] (nat_lit 62), .cells [SV.int .i64 x117, SV.int .i64 x118, SV.int .i64 x119] (nat_lit 34), .cells [SV.sl (nat_lit 3), SV.sl (nat_lit 4), SV.sl (nat_lit 5), SV.int .i64 x120] (nat_lit 31)])) n x93 x94 x96
  | 0, _, _, _ => rfl
  | n + 1, x93, x94, x96 => (mass_l1_step_eq x93 x94 x95 x96 x97 x98 x99 x100 x101 x102 x103 x104 x105 x106 x107 x108 x109 x110 x111 x112 x113 x114 x115 x116 x117 x118 x119 x120 (iterK (loopStep E (exec E look_core mass_l0_lps 400) 35 [false, true, false, true, true] 12 (codeAt E.P 35 [false, true, false, true, true])) n Q)).trans (congrArg (fun kn => M.mass_l1_step x95 x109 kn (fun (x121 : Int) (x122 : Int) => Q (.exit 0) (St.mk (none :: none :: some (SV.ptr (nat_lit 12) (nat_lit 0)) :: none :: none :: some (SV.int .i64 x121) :: some (SV.int .i64 x122) :: nn 40 ([]))
  [.cells [SV.int .i64 x97, SV.int .i64 x98, SV.int .i64 x99, SV.int .i64 x100, SV.int .i64 x101, SV.ros x102 kP x103] (nat_lit 26), .cells [SV.int .i64 x104] (nat_lit 3), .cells [SV.int .i64 x105, SV.int .i64 x106, SV.int .i64 x107, SV.int .i64 x108] (nat_lit 36), .seq kP x109 (nat_lit 23),
    .seq kP x110 (nat_lit 23), .seq kP x111 (nat_lit 23), .seq kP x112 (nat_lit 23), .seq kP x113 (nat_lit 23), .seq kP x114 (nat_lit 23),
    .cells [SV.sl (nat_lit 3), SV.sl (nat_lit 4), SV.sl (nat_lit 5), SV.int .i64 x115] (nat_lit 31), .cells [SV.bool x116] (nat_lit 62), .cells [SV.int .i64 x117, SV.int .i64 x118, SV.int .i64 x119] (nat_lit 34), .cells [SV.sl (nat_lit 3), SV.sl (nat_lit 4), SV.sl (nat_lit 5), SV.int .i64 x120] (nat_lit 31)])) x93 x94 x96) (funext fun x93 => funext fun x94 => funext fun x96 => mass_l1_iter x95 x97 x98 x99 x100 x101 x102 x103 x104 x105 x106 x107 x108 x109 x110 x111 x112 x113 x114 x115 x116 x117 x118 x119 x120 Q n x93 x94 x96))
noncomputable def mass_l1_go {α : Type} (ds : List D) (Q : Ex → St → Option α) : Option α :=
  dI ds fun x93 ds => dI ds fun x94 ds => dI ds fun x95 ds => dI ds fun x96 ds => dI ds fun x97 ds => dI ds fun x98 ds => dI ds fun x99 ds => dI ds fun x100 ds => dI ds fun x101 ds => dV ds fun x102 ds => dL kP ds fun x103 ds => dI ds fun x104 ds => dI ds fun x105 ds => dI ds fun x106 ds => dI ds fun x107 ds => dI ds fun x108 ds => dL kP ds fun x109 ds => dL kP ds fun x110 ds => dL kP ds fun x111 ds => dL kP ds fun x112 ds => dL kP ds fun x113 ds => dL kP ds fun x114 ds => dI ds fun x115 ds => dB ds fun x116 ds => dI ds fun x117 ds => dI ds fun x118 ds => dI ds fun x119 ds => dI ds fun x120 ds => dE ds (M.mass_l1 x95 x109 (fun (x121 : Int) (x122 : Int) => Q (.exit 0) (St.mk (none :: none :: some (SV.ptr (nat_lit 12) (nat_lit 0)) :: none :: none :: some (SV.int .i64 x121) :: some (SV.int .i64 x122) :: nn 40 ([]))
  [.cells [SV.int .i64 x97, SV.int .i64 x98, SV.int .i64 x99, SV.int .i64 x100, SV.int .i64 x101, SV.ros x102 kP x103] (nat_lit 26), .cells [SV.int .i64 x104] (nat_lit 3), .cells [SV.int .i64 x105, SV.int .i64 x106, SV.int .i64 x107, SV.int .i64 x108] (nat_lit 36), .seq kP x109 (nat_lit 23),
    .seq kP x110 (nat_lit 23), .seq kP x111 (nat_lit 23), .seq kP x112 (nat_lit 23), .seq kP x113 (nat_lit 23), .seq kP x114 (nat_lit 23),
    .cells [SV.sl (nat_lit 3), SV.sl (nat_lit 4), SV.sl (nat_lit 5), SV.int .i64 x115] (nat_lit 31), .cells [SV.bool x116] (nat_lit 62), .cells [SV.int .i64 x117, SV.int .i64 x118, SV.int .i64 x119] (nat_lit 34), .cells [SV.sl (nat_lit 3), SV.sl (nat_lit 4), SV.sl (nat_lit 5), SV.int .i64 x120] (nat_lit 31)])) (100 + x103.length + x109.length + x110.length + x111.length + x112.length + x113.length + x114.length) x93 x94 x96)
theorem mass_l1_ok {α : Type} : LoopOk E.P 35 [false, true, false, true, true] 12 (lEnt (α := α) (St.mk (none :: some (SV.fn (nat_lit 37) [] []) :: some (SV.ptr (nat_lit 12) (nat_lit 0)) :: none :: none :: some (SV.int .i64 (0 : Int)) :: some (SV.int .i64 (0 : Int)) :: nn 15 (some (SV.sl (nat_lit 3)) :: some (SV.int .i64 (0 : Int)) :: some (SV.int .i64 (0 : Int)) :: nn 22 ([])))
  [.cells [SV.int .i64 (0 : Int), SV.int .i64 (0 : Int), SV.int .i64 (0 : Int), SV.int .i64 (0 : Int), SV.int .i64 (0 : Int), SV.ros undef kP []] (nat_lit 26), .cells [SV.int .i64 (0 : Int)] (nat_lit 3), .cells [SV.int .i64 (0 : Int), SV.int .i64 (0 : Int), SV.int .i64 (0 : Int), SV.int .i64 (0 : Int)] (nat_lit 36),
    .seq kP [] (nat_lit 23), .seq kP [] (nat_lit 23), .seq kP [] (nat_lit 23), .seq kP [] (nat_lit 23), .seq kP [] (nat_lit 23),
    .seq kP [] (nat_lit 23), .cells [SV.sl (nat_lit 3), SV.sl (nat_lit 4), SV.sl (nat_lit 5), SV.int .i64 (0 : Int)] (nat_lit 31), .cells [SV.bool false] (nat_lit 62), .cells [SV.int .i64 (0 : Int), SV.int .i64 (0 : Int), SV.int .i64 (0 : Int)] (nat_lit 34), .cells [SV.sl (nat_lit 3), SV.sl (nat_lit 4), SV.sl (nat_lit 5), SV.int .i64 (0 : Int)] (nat_lit 31)]) mass_l1_go) :=
  lEnt_ok E (exec_sound E E_ok (look_core_ok) (mass_l0_lps_ok) 400) fun ds Q r h S hS => by
    unfold mass_l1_go at h
    obtain ⟨x93, ds, rfl, h1⟩ := dI_inv h
    obtain ⟨x94, ds, rfl, h2⟩ := dI_inv h1
    obtain ⟨x95, ds, rfl, h3⟩ := dI_inv h2
    obtain ⟨x96, ds, rfl, h4⟩ := dI_inv h3
    obtain ⟨x97, ds, rfl, h5⟩ := dI_inv h4
    obtain ⟨x98, ds, rfl, h6⟩ := dI_inv h5
    obtain ⟨x99, ds, rfl, h7⟩ := dI_inv h6
    obtain ⟨x100, ds, rfl, h8⟩ := dI_inv h7
    obtain ⟨x101, ds, rfl, h9⟩ := dI_inv h8
    obtain ⟨x102, ds, rfl, h10⟩ := dV_inv h9
    obtain ⟨x103, ds, rfl, h11⟩ := dL_inv h10
    obtain ⟨x104, ds, rfl, h12⟩ := dI_inv h11
    obtain ⟨x105, ds, rfl, h13⟩ := dI_inv h12
    obtain ⟨x106, ds, rfl, h14⟩ := dI_inv h13
    obtain ⟨x107, ds, rfl, h15⟩ := dI_inv h14
    obtain ⟨x108, ds, rfl, h16⟩ := dI_inv h15
    obtain ⟨x109, ds, rfl, h17⟩ := dL_inv h16
    obtain ⟨x110, ds, rfl, h18⟩ := dL_inv h17
    obtain ⟨x111, ds, rfl, h19⟩ := dL_inv h18
    obtain ⟨x112, ds, rfl, h20⟩ := dL_inv h19
    obtain ⟨x113, ds, rfl, h21⟩ := dL_inv h20
    obtain ⟨x114, ds, rfl, h22⟩ := dL_inv h21
    obtain ⟨x115, ds, rfl, h23⟩ := dI_inv h22
    obtain ⟨x116, ds, rfl, h24⟩ := dB_inv h23
    obtain ⟨x117, ds, rfl, h25⟩ := dI_inv h24
    obtain ⟨x118, ds, rfl, h26⟩ := dI_inv h25
    obtain ⟨x119, ds, rfl, h27⟩ := dI_inv h26
    obtain ⟨x120, ds, rfl, h28⟩ := dI_inv h27
    obtain ⟨rfl, hE⟩ := dE_inv h28
    have e : fillS (St.mk (none :: some (SV.fn (nat_lit 37) [] []) :: some (SV.ptr (nat_lit 12) (nat_lit 0)) :: none :: none :: some (SV.int .i64 (0 : Int)) :: some (SV.int .i64 (0 : Int)) :: nn 15 (some (SV.sl (nat_lit 3)) :: some (SV.int .i64 (0 : Int)) :: some (SV.int .i64 (0 : Int)) :: nn 22 ([])))
  [.cells [SV.int .i64 (0 : Int), SV.int .i64 (0 : Int), SV.int .i64 (0 : Int), SV.int .i64 (0 : Int), SV.int .i64 (0 : Int), SV.ros undef kP []] (nat_lit 26), .cells [SV.int .i64 (0 : Int)] (nat_lit 3), .cells [SV.int .i64 (0 : Int), SV.int .i64 (0 : Int), SV.int .i64 (0 : Int), SV.int .i64 (0 : Int)] (nat_lit 36),
    .seq kP [] (nat_lit 23), .seq kP [] (nat_lit 23), .seq kP [] (nat_lit 23), .seq kP [] (nat_lit 23), .seq kP [] (nat_lit 23),
    .seq kP [] (nat_lit 23), .cells [SV.sl (nat_lit 3), SV.sl (nat_lit 4), SV.sl (nat_lit 5), SV.int .i64 (0 : Int)] (nat_lit 31), .cells [SV.bool false] (nat_lit 62), .cells [SV.int .i64 (0 : Int), SV.int .i64 (0 : Int), SV.int .i64 (0 : Int)] (nat_lit 34), .cells [SV.sl (nat_lit 3), SV.sl (nat_lit 4), SV.sl (nat_lit 5), SV.int .i64 (0 : Int)] (nat_lit 31)]) [.i x93, .i x94, .i x95, .i x96, .i x97, .i x98, .i x99, .i x100, .i x101, .v x102, .l kP x103, .i x104, .i x105, .i x106, .i x107, .i x108, .l kP x109, .l kP x110, .l kP x111, .l kP x112, .l kP x113, .l kP x114, .i x115, .b x116, .i x117, .i x118, .i x119, .i x120] = some (St.mk (none :: some (SV.fn (nat_lit 37) [] []) :: some (SV.ptr (nat_lit 12) (nat_lit 0)) :: none :: none :: some (SV.int .i64 x93) :: some (SV.int .i64 x94) :: nn 15 (some (SV.sl (nat_lit 3)) :: some (SV.int .i64 x95) :: some (SV.int .i64 x96) :: nn 22 ([])))
  [.cells [SV.int .i64 x97, SV.int .i64 x98, SV.int .i64 x99, SV.int .i64 x100, SV.int .i64 x101, SV.ros x102 kP x103] (nat_lit 26), .cells [SV.int .i64 x104] (nat_lit 3), .cells [SV.int .i64 x105, SV.int .i64 x106, SV.int .i64 x107, SV.int .i64 x108] (nat_lit 36), .seq kP x109 (nat_lit 23),
    .seq kP x110 (nat_lit 23), .seq kP x111 (nat_lit 23), .seq kP x112 (nat_lit 23), .seq kP x113 (nat_lit 23), .seq kP x114 (nat_lit 23),
    .cells [SV.sl (nat_lit 3), SV.sl (nat_lit 4), SV.sl (nat_lit 5), SV.int .i64 x115] (nat_lit 31), .cells [SV.bool x116] (nat_lit 62), .cells [SV.int .i64 x117, SV.int .i64 x118, SV.int .i64 x119] (nat_lit 34), .cells [SV.sl (nat_lit 3), SV.sl (nat_lit 4), SV.sl (nat_lit 5), SV.int .i64 x120] (nat_lit 31)]) := by kernel_rfl
    rw [e] at hS
    cases hS
    exact ⟨_, (mass_l1_iter x95 x97 x98 x99 x100 x101 x102 x103 x104 x105 x106 x107 x108 x109 x110 x111 x112 x113 x114 x115 x116 x117 x118 x119 x120 Q _ x93 x94 x96).trans hE⟩
noncomputable def mass_l1_lps {α : Type} : LookL α := addLp 35 [false, true, false, true, true] 12 (lEnt (St.mk (none :: some (SV.fn (nat_lit 37) [] []) :: some (SV.ptr (nat_lit 12) (nat_lit 0)) :: none :: none :: some (SV.int .i64 (0 : Int)) :: some (SV.int .i64 (0 : Int)) :: nn 15 (some (SV.sl (nat_lit 3)) :: some (SV.int .i64 (0 : Int)) :: some (SV.int .i64 (0 : Int)) :: nn 22 ([])))
  [.cells [SV.int .i64 (0 : Int), SV.int .i64 (0 : Int), SV.int .i64 (0 : Int), SV.int .i64 (0 : Int), SV.int .i64 (0 : Int), SV.ros undef kP []] (nat_lit 26), .cells [SV.int .i64 (0 : Int)] (nat_lit 3), .cells [SV.int .i64 (0 : Int), SV.int .i64 (0 : Int), SV.int .i64 (0 : Int), SV.int .i64 (0 : Int)] (nat_lit 36),
    .seq kP [] (nat_lit 23), .seq kP [] (nat_lit 23), .seq kP [] (nat_lit 23), .seq kP [] (nat_lit 23), .seq kP [] (nat_lit 23),
    .seq kP [] (nat_lit 23), .cells [SV.sl (nat_lit 3), SV.sl (nat_lit 4), SV.sl (nat_lit 5), SV.int .i64 (0 : Int)] (nat_lit 31), .cells [SV.bool false] (nat_lit 62), .cells [SV.int .i64 (0 : Int), SV.int .i64 (0 : Int), SV.int .i64 (0 : Int)] (nat_lit 34), .cells [SV.sl (nat_lit 3), SV.sl (nat_lit 4), SV.sl (nat_lit 5), SV.int .i64 (0 : Int)] (nat_lit 31)]) mass_l1_go) mass_l0_lps
theorem mass_l1_lps_ok {α : Type} : LoopsOk E.P (mass_l1_lps (α := α)) := addLp_ok mass_l1_ok (mass_l0_lps_ok)

noncomputable def _root_.Go.Proofs.Ytkjellhkamfciaa.M.mass_l2_step {α : Type} (x161 : Int) (x175 : L3) (kn : Int → Int → Int → Option α) (k1 : Int → Int → Option α) (x159 : Int) (x160 : Int) (x162 : Int) : Option α :=
  if cLt x162 x161 = true then
  if (0 : Int) ≤ x162 ∧ x162 < (↑(List.length x175) : Int) then
    kn (if Prod.snd (Prod.snd (List.getD x175 (Int.toNat x162) ((0 : Int), (0 : Int), (0 : Int)))) < x159 then Prod.snd (Prod.snd (List.getD x175 (Int.toNat x162) ((0 : Int), (0 : Int), (0 : Int)))) else x159) (if Prod.snd (Prod.snd (List.getD x175 (Int.toNat x162) ((0 : Int), (0 : Int), (0 : Int)))) > x160 then Prod.snd (Prod.snd (List.getD x175 (Int.toNat x162) ((0 : Int), (0 : Int), (0 : Int)))) else x160) (IntKind.wrap .i64 (x162 + (1 : Int)))
  else none
else k1 x159 x160
noncomputable def _root_.Go.Proofs.Ytkjellhkamfciaa.M.mass_l2 {α : Type} (x161 : Int) (x175 : L3) (k1 : Int → Int → Option α) : Nat → Int → Int → Int → Option α
  | 0, _, _, _ => none
  | n + 1, x159, x160, x162 => M.mass_l2_step x161 x175 (M.mass_l2 x161 x175 k1 n) k1 x159 x160 x162
theorem mass_l2_step_eq {α : Type} (x159 : Int) (x160 : Int) (x161 : Int) (x162 : Int) (x163 : Int) (x164 : Int) (x165 : Int) (x166 : Int) (x167 : Int) (x168 : Value) (x169 : L3) (x170 : Int) (x171 : Int) (x172 : Int) (x173 : Int) (x174 : Int) (x175 : L3) (x176 : L3) (x177 : L3) (x178 : L3) (x179 : L3) (x180 : L3) (x181 : Int) (x182 : Bool) (x183 : Int) (x184 : Int) (x185 : Int) (x186 : Int) (Q : Ex → St → Option α) : (loopStep E (exec E look_core mass_l1_lps 400) 35 [false, true, false, true, true] 12 (codeAt E.P 35 [false, true, false, true, true])) (St.mk (none :: some (SV.fn (nat_lit 38) [] []) :: some (SV.ptr (nat_lit 12) (nat_lit 0)) :: none :: none :: some (SV.int .i64 x159) :: some (SV.int .i64 x160) :: nn 15 (some (SV.sl (nat_lit 3)) :: some (SV.int .i64 x161) :: some (SV.int .i64 x162) :: nn 22 ([])))
  [.cells [SV.int .i64 x163, SV.int .i64 x164, SV.int .i64 x165, SV.int .i64 x166, SV.int .i64 x167, SV.ros x168 kP x169] (nat_lit 26), .cells [SV.int .i64 x170] (nat_lit 3), .cells [SV.int .i64 x171, SV.int .i64 x172, SV.int .i64 x173, SV.int .i64 x174] (nat_lit 36),
    .seq kP x175 (nat_lit 23), .seq kP x176 (nat_lit 23), .seq kP x177 (nat_lit 23), .seq kP x178 (nat_lit 23), .seq kP x179 (nat_lit 23),
    .seq kP x180 (nat_lit 23), .cells [SV.sl (nat_lit 3), SV.sl (nat_lit 4), SV.sl (nat_lit 5), SV.int .i64 x181] (nat_lit 31), .cells [SV.bool x182] (nat_lit 62), .cells [SV.int .i64 x183, SV.int .i64 x184, SV.int .i64 x185] (nat_lit 34), .cells [SV.sl (nat_lit 3), SV.sl (nat_lit 4), SV.sl (nat_lit 5), SV.int .i64 x186] (nat_lit 31)]) Q = M.mass_l2_step x161 x175 (fun (x189 : Int) (x190 : Int) (x191 : Int) => Q .normal (St.mk (none :: some (SV.fn (nat_lit 38) [] []) :: some (SV.ptr (nat_lit 12) (nat_lit 0)) :: none :: none :: some (SV.int .i64 x189) :: some (SV.int .i64 x190) :: nn 15 (some (SV.sl (nat_lit 3)) :: some (SV.int .i64 x161) :: some (SV.int .i64 x191) :: nn 22 ([])))
  [.cells [SV.int .i64 x163, SV.int .i64 x164, SV.int .i64 x165, SV.int .i64 x166, SV.int .i64 x167, SV.ros x168 kP x169] (nat_lit 26), .cells [SV.int .i64 x170] (nat_lit 3), .cells [SV.int .i64 x171, SV.int .i64 x172, SV.int .i64 x173, SV.int .i64 x174] (nat_lit 36),
    .seq kP x175 (nat_lit 23), .seq kP x176 (nat_lit 23), .seq kP x177 (nat_lit 23), .seq kP x178 (nat_lit 23), .seq kP x179 (nat_lit 23),
    .seq kP x180 (nat_lit 23), .cells [SV.sl (nat_lit 3), SV.sl (nat_lit 4), SV.sl (nat_lit 5), SV.int .i64 x181] (nat_lit 31), .cells [SV.bool x182] (nat_lit 62), .cells [SV.int .i64 x183, SV.int .i64 x184, SV.int .i64 x185] (nat_lit 34), .cells [SV.sl (nat_lit 3), SV.sl (nat_lit 4), SV.sl (nat_lit 5), SV.int .i64 x186] (nat_lit 31)])) (fun (x187 : Int) (x188 : Int) => Q (.exit 0) (St.mk (none :: none :: some (SV.ptr (nat_lit 12) (nat_lit 0)) :: none :: none :: some (SV.int .i64 x187) :: some (SV.int .i64 x188) :: nn 40 ([]))
  [.cells [SV.int .i64 x163, SV.int .i64 x164, SV.int .i64 x165, SV.int .i64 x166, SV.int .i64 x167, SV.ros x168 kP x169] (nat_lit 26), .cells [SV.int .i64 x170] (nat_lit 3), .cells [SV.int .i64 x171, SV.int .i64 x172, SV.int .i64 x173, SV.int .i64 x174] (nat_lit 36),
    .seq kP x175 (nat_lit 23), .seq kP x176 (nat_lit 23), .seq kP x177 (nat_lit 23), .seq kP x178 (nat_lit 23), .seq kP x179 (nat_lit 23),
    .seq kP x180 (nat_lit 23), .cells [SV.sl (nat_lit 3), SV.sl (nat_lit 4), SV.sl (nat_lit 5), SV.int .i64 x181] (nat_lit 31), .cells [SV.bool x182] (nat_lit 62), .cells [SV.int .i64 x183, SV.int .i64 x184, SV.int .i64 x185] (nat_lit 34), .cells [SV.sl (nat_lit 3), SV.sl (nat_lit 4), SV.sl (nat_lit 5), SV.int .i64 x186] (nat_lit 31)])) x159 x160 x162 := by kernel_rfl
theorem mass_l2_iter {α : Type} (x161 : Int) (x163 : Int) (x164 : Int) (x165 : Int) (x166 : Int) (x167 : Int) (x168 : Value) (x169 : L3) (x170 : Int) (x171 : Int) (x172 : Int) (x173 : Int) (x174 : Int) (x175 : L3) (x176 : L3) (x177 : L3) (x178 : L3) (x179 : L3) (x180 : L3) (x181 : Int) (x182 : Bool) (x183 : Int) (x184 : Int) (x185 : Int) (x186 : Int) (Q : Ex → St → Option α) : ∀ (n : Nat) (x159 : Int) (x160 : Int) (x162 : Int), iter (loopStep E (exec E look_core mass_l1_lps 400) 35 [false, true, false, true, true] 12 (codeAt E.P 35 [false, true, false, true, true])) n (St.mk (none :: some (SV.fn (nat_lit 38) [] []) :: some (SV.ptr (nat_lit 12) (nat_lit 0)) :: none :: none :: some (SV.int .i64 x159) :: some (SV.int .i64 x160) :: nn 15 (some (SV.sl (nat_lit 3)) :: some (SV.int .i64 x161) :: some (SV.int .i64 x162) :: nn 22 ([])))
  [.cells [SV.int .i64 x163, SV.int .i64 x164, SV.int .i64 x165, SV.int .i64 x166, SV.int .i64 x167, SV.ros x168 kP x169] (nat_lit 26), .cells [SV.int .i64 x170] (nat_lit 3), .cells [SV.int .i64 x171, SV.int .i64 x172, SV.int .i64 x173, SV.int .i64 x174] (nat_lit 36),
    .seq kP x175 (nat_lit 23), .seq kP x176 (nat_lit 23), .seq kP x177 (nat_lit 23), .seq kP x178 (nat_lit 23), .seq kP x179 (nat_lit 23),
    .seq kP x180 (nat_lit 23), .cells [SV.sl (nat_lit 3), SV.sl (nat_lit 4), SV.sl (nat_lit 5), SV.int .i64 x181] (nat_lit 31), .cells [SV.bool x182] (nat_lit 62), .cells [SV.int .i64 x183, SV.int .i64 x184, SV.int .i64 x185] (nat_lit 34), .cells [SV.sl (nat_lit 3), SV.sl (nat_lit 4), SV.sl (nat_lit 5), SV.int .i64 x186] (nat_lit 31)]) Q = M.mass_l2 x161 x175 (fun (x187 : Int) (x188 : Int) => Q (.exit 0) (St.mk (none :: none :: some (SV.ptr (nat_lit 12) (nat_lit 0)) :: none :: none :: some (SV.int .i64 x187) :: some (SV.int .i64 x188) :: nn 40 ([]))
  [.cells [SV.int .i64 x163, SV.int .i64 x164, SV.int .i64 x165, SV.int .i64 x166, SV.int .i64 x167, SV.ros x168 kP x169] (nat_lit 26), .cells [SV.int .i64 x170] (nat_lit 3), .cells [SV.int .i64 x171, SV.int .i64 x172, SV.int .i64 x173, SV.int .i64 x174] (nat_lit 36),
    .seq kP x175 (nat_lit 23), .seq kP x176 (nat_lit 23), .seq kP x177 (nat_lit 23), .seq kP x178 (nat_lit 23), .seq kP x179 (nat_lit 23),
    .seq kP x180 (nat_lit 23), .cells [SV.sl (nat_lit 3), SV.sl (nat_lit 4), SV.sl (nat_lit 5), SV.int .i64 x181] (nat_lit 31), .cells [SV.bool x182] (nat_lit 62), .cells [SV.int .i64 x183, SV.int .i64 x184, SV.int .i64 x185] (nat_lit 34), .cells [SV.sl (nat_lit 3), SV.sl (nat_lit 4), SV.sl (nat_lit 5), SV.int .i64 x186] (nat_lit 31)])) n x159 x160 x162
  | 0, _, _, _ => rfl
  | n + 1, x159, x160, x162 => (mass_l2_step_eq x159 x160 x161 x162 x163 x164 x165 x166 x167 x168 x169 x170 x171 x172 x173 x174 x175 x176 x177 x178 x179 x180 x181 x182 x183 x184 x185 x186 (iterK (loopStep E (exec E look_core mass_l1_lps 400) 35 [false, true, false, true, true] 12 (codeAt E.P 35 [false, true, false, true, true])) n Q)).trans (congrArg (fun kn => M.mass_l2_step x161 x175 kn (fun (x187 : Int) (x188 : Int) => Q (.exit 0) (St.mk (none :: none :: some (SV.ptr (nat_lit 12) (nat_lit 0)) :: none :: none :: some (SV.int .i64 x187) :: some (SV.int .i64 x188) :: nn 40 ([]))
  [.cells [SV.int .i64 x163, SV.int .i64 x164, SV.int .i64 x165, SV.int .i64 x166, SV.int .i64 x167, SV.ros x168 kP x169] (nat_lit 26), .cells [SV.int .i64 x170] (nat_lit 3), .cells [SV.int .i64 x171, SV.int .i64 x172, SV.int .i64 x173, SV.int .i64 x174] (nat_lit 36),
    .seq kP x175 (nat_lit 23), .seq kP x176 (nat_lit 23), .seq kP x177 (nat_lit 23), .seq kP x178 (nat_lit 23), .seq kP x179 (nat_lit 23),
    .seq kP x180 (nat_lit 23), .cells [SV.sl (nat_lit 3), SV.sl (nat_lit 4), SV.sl (nat_lit 5), SV.int .i64 x181] (nat_lit 31), .cells [SV.bool x182] (nat_lit 62), .cells [SV.int .i64 x183, SV.int .i64 x184, SV.int .i64 x185] (nat_lit 34), .cells [SV.sl (nat_lit 3), SV.sl (nat_lit 4), SV.sl (nat_lit 5), SV.int .i64 x186] (nat_lit 31)])) x159 x160 x162) (funext fun x159 => funext fun x160 => funext fun x162 => mass_l2_iter x161 x163 x164 x165 x166 x167 x168 x169 x170 x171 x172 x173 x174 x175 x176 x177 x178 x179 x180 x181 x182 x183 x184 x185 x186 Q n x159 x160 x162))
noncomputable def mass_l2_go {α : Type} (ds : List D) (Q : Ex → St → Option α) : Option α :=
  dI ds fun x159 ds => dI ds fun x160 ds => dI ds fun x161 ds => dI ds fun x162 ds => dI ds fun x163 ds => dI ds fun x164 ds => dI ds fun x165 ds => dI ds fun x166 ds => dI ds fun x167 ds => dV ds fun x168 ds => dL kP ds fun x169 ds => dI ds fun x170 ds => dI ds fun x171 ds => dI ds fun x172 ds => dI ds fun x173 ds => dI ds fun x174 ds => dL kP ds fun x175 ds => dL kP ds fun x176 ds => dL kP ds fun x177 ds => dL kP ds fun x178 ds => dL kP ds fun x179 ds => dL kP ds fun x180 ds => dI ds fun x181 ds => dB ds fun x182 ds => dI ds fun x183 ds => dI ds fun x184 ds => dI ds fun x185 ds => dI ds fun x186 ds => dE ds (M.mass_l2 x161 x175 (fun (x187 : Int) (x188 : Int) => Q (.exit 0) (St.mk (none :: none :: some (SV.ptr (nat_lit 12) (nat_lit 0)) :: none :: none :: some (SV.int .i64 x187) :: some (SV.int .i64 x188) :: nn 40 ([]))
  [.cells [SV.int .i64 x163, SV.int .i64 x164, SV.int .i64 x165, SV.int .i64 x166, SV.int .i64 x167, SV.ros x168 kP x169] (nat_lit 26), .cells [SV.int .i64 x170] (nat_lit 3), .cells [SV.int .i64 x171, SV.int .i64 x172, SV.int .i64 x173, SV.int .i64 x174] (nat_lit 36),
    .seq kP x175 (nat_lit 23), .seq kP x176 (nat_lit 23), .seq kP x177 (nat_lit 23), .seq kP x178 (nat_lit 23), .seq kP x179 (nat_lit 23),
    .seq kP x180 (nat_lit 23), .cells [SV.sl (nat_lit 3), SV.sl (nat_lit 4), SV.sl (nat_lit 5), SV.int .i64 x181] (nat_lit 31), .cells [SV.bool x182] (nat_lit 62), .cells [SV.int .i64 x183, SV.int .i64 x184, SV.int .i64 x185] (nat_lit 34), .cells [SV.sl (nat_lit 3), SV.sl (nat_lit 4), SV.sl (nat_lit 5), SV.int .i64 x186] (nat_lit 31)])) (100 + x169.length + x175.length + x176.length + x177.length + x178.length + x179.length + x180.length) x159 x160 x162)
theorem mass_l2_ok {α : Type} : LoopOk E.P 35 [false, true, false, true, true] 12 (lEnt (α := α) (St.mk (none :: some (SV.fn (nat_lit 38) [] []) :: some (SV.ptr (nat_lit 12) (nat_lit 0)) :: none :: none :: some (SV.int .i64 (0 : Int)) :: some (SV.int .i64 (0 : Int)) :: nn 15 (some (SV.sl (nat_lit 3)) :: some (SV.int .i64 (0 : Int)) :: some (SV.int .i64 (0 : Int)) :: nn 22 ([])))
  [.cells [SV.int .i64 (0 : Int), SV.int .i64 (0 : Int), SV.int .i64 (0 : Int), SV.int .i64 (0 : Int), SV.int .i64 (0 : Int), SV.ros undef kP []] (nat_lit 26), .cells [SV.int .i64 (0 : Int)] (nat_lit 3), .cells [SV.int .i64 (0 : Int), SV.int .i64 (0 : Int), SV.int .i64 (0 : Int), SV.int .i64 (0 : Int)] (nat_lit 36),
    .seq kP [] (nat_lit 23), .seq kP [] (nat_lit 23), .seq kP [] (nat_lit 23), .seq kP [] (nat_lit 23), .seq kP [] (nat_lit 23),
    .seq kP [] (nat_lit 23), .cells [SV.sl (nat_lit 3), SV.sl (nat_lit 4), SV.sl (nat_lit 5), SV.int .i64 (0 : Int)] (nat_lit 31), .cells [SV.bool false] (nat_lit 62), .cells [SV.int .i64 (0 : Int), SV.int .i64 (0 : Int), SV.int .i64 (0 : Int)] (nat_lit 34), .cells [SV.sl (nat_lit 3), SV.sl (nat_lit 4), SV.sl (nat_lit 5), SV.int .i64 (0 : Int)] (nat_lit 31)]) mass_l2_go) :=
  lEnt_ok E (exec_sound E E_ok (look_core_ok) (mass_l1_lps_ok) 400) fun ds Q r h S hS => by
    unfold mass_l2_go at h
    obtain ⟨x159, ds, rfl, h1⟩ := dI_inv h
    obtain ⟨x160, ds, rfl, h2⟩ := dI_inv h1
    obtain ⟨x161, ds, rfl, h3⟩ := dI_inv h2
    obtain ⟨x162, ds, rfl, h4⟩ := dI_inv h3
    obtain ⟨x163, ds, rfl, h5⟩ := dI_inv h4
    obtain ⟨x164, ds, rfl, h6⟩ := dI_inv h5
    obtain ⟨x165, ds, rfl, h7⟩ := dI_inv h6
    obtain ⟨x166, ds, rfl, h8⟩ := dI_inv h7
    obtain ⟨x167, ds, rfl, h9⟩ := dI_inv h8
    obtain ⟨x168, ds, rfl, h10⟩ := dV_inv h9
    obtain ⟨x169, ds, rfl, h11⟩ := dL_inv h10
    obtain ⟨x170, ds, rfl, h12⟩ := dI_inv h11
    obtain ⟨x171, ds, rfl, h13⟩ := dI_inv h12
    obtain ⟨x172, ds, rfl, h14⟩ := dI_inv h13
    obtain ⟨x173, ds, rfl, h15⟩ := dI_inv h14
    obtain ⟨x174, ds, rfl, h16⟩ := dI_inv h15
    obtain ⟨x175, ds, rfl, h17⟩ := dL_inv h16
    obtain ⟨x176, ds, rfl, h18⟩ := dL_inv h17
    obtain ⟨x177, ds, rfl, h19⟩ := dL_inv h18
    obtain ⟨x178, ds, rfl, h20⟩ := dL_inv h19
    obtain ⟨x179, ds, rfl, h21⟩ := dL_inv h20
    obtain ⟨x180, ds, rfl, h22⟩ := dL_inv h21
    obtain ⟨x181, ds, rfl, h23⟩ := dI_inv h22
    obtain ⟨x182, ds, rfl, h24⟩ := dB_inv h23
    obtain ⟨x183, ds, rfl, h25⟩ := dI_inv h24
    obtain ⟨x184, ds, rfl, h26⟩ := dI_inv h25
    obtain ⟨x185, ds, rfl, h27⟩ := dI_inv h26
    obtain ⟨x186, ds, rfl, h28⟩ := dI_inv h27
    obtain ⟨rfl, hE⟩ := dE_inv h28
    have e : fillS (St.mk (none :: some (SV.fn (nat_lit 38) [] []) :: some (SV.ptr (nat_lit 12) (nat_lit 0)) :: none :: none :: some (SV.int .i64 (0 : Int)) :: some (SV.int .i64 (0 : Int)) :: nn 15 (some (SV.sl (nat_lit 3)) :: some (SV.int .i64 (0 : Int)) :: some (SV.int .i64 (0 : Int)) :: nn 22 ([])))
  [.cells [SV.int .i64 (0 : Int), SV.int .i64 (0 : Int), SV.int .i64 (0 : Int), SV.int .i64 (0 : Int), SV.int .i64 (0 : Int), SV.ros undef kP []] (nat_lit 26), .cells [SV.int .i64 (0 : Int)] (nat_lit 3), .cells [SV.int .i64 (0 : Int), SV.int .i64 (0 : Int), SV.int .i64 (0 : Int), SV.int .i64 (0 : Int)] (nat_lit 36),
    .seq kP [] (nat_lit 23), .seq kP [] (nat_lit 23), .seq kP [] (nat_lit 23), .seq kP [] (nat_lit 23), .seq kP [] (nat_lit 23),
    .seq kP [] (nat_lit 23), .cells [SV.sl (nat_lit 3), SV.sl (nat_lit 4), SV.sl (nat_lit 5), SV.int .i64 (0 : Int)] (nat_lit 31), .cells [SV.bool false] (nat_lit 62), .cells [SV.int .i64 (0 : Int), SV.int .i64 (0 : Int), SV.int .i64 (0 : Int)] (nat_lit 34), .cells [SV.sl (nat_lit 3), SV.sl (nat_lit 4), SV.sl (nat_lit 5), SV.int .i64 (0 : Int)] (nat_lit 31)]) [.i x159, .i x160, .i x161, .i x162, .i x163, .i x164, .i x165, .i x166, .i x167, .v x168, .l kP x169, .i x170, .i x171, .i x172, .i x173, .i x174, .l kP x175, .l kP x176, .l kP x177, .l kP x178, .l kP x179, .l kP x180, .i x181, .b x182, .i x183, .i x184, .i x185, .i x186] = some (St.mk (none :: some (SV.fn (nat_lit 38) [] []) :: some (SV.ptr (nat_lit 12) (nat_lit 0)) :: none :: none :: some (SV.int .i64 x159) :: some (SV.int .i64 x160) :: nn 15 (some (SV.sl (nat_lit 3)) :: some (SV.int .i64 x161) :: some (SV.int .i64 x162) :: nn 22 ([])))
  [.cells [SV.int .i64 x163, SV.int .i64 x164, SV.int .i64 x165, SV.int .i64 x166, SV.int .i64 x167, SV.ros x168 kP x169] (nat_lit 26), .cells [SV.int .i64 x170] (nat_lit 3), .cells [SV.int .i64 x171, SV.int .i64 x172, SV.int .i64 x173, SV.int .i64 x174] (nat_lit 36),
    .seq kP x175 (nat_lit 23), .seq kP x176 (nat_lit 23), .seq kP x177 (nat_lit 23), .seq kP x178 (nat_lit 23), .seq kP x179 (nat_lit 23),
    .seq kP x180 (nat_lit 23), .cells [SV.sl (nat_lit 3), SV.sl (nat_lit 4), SV.sl (nat_lit 5), SV.int .i64 x181] (nat_lit 31), .cells [SV.bool x182] (nat_lit 62), .cells [SV.int .i64 x183, SV.int .i64 x184, SV.int .i64 x185] (nat_lit 34), .cells [SV.sl (nat_lit 3), SV.sl (nat_lit 4), SV.sl (nat_lit 5), SV.int .i64 x186] (nat_lit 31)]) := by kernel_rfl
    rw [e] at hS
    cases hS
    exact ⟨_, (mass_l2_iter x161 x163 x164 x165 x166 x167 x168 x169 x170 x171 x172 x173 x174 x175 x176 x177 x178 x179 x180 x181 x182 x183 x184 x185 x186 Q _ x159 x160 x162).trans hE⟩
noncomputable def mass_l2_lps {α : Type} : LookL α := addLp 35 [false, true, false, true, true] 12 (lEnt (St.mk (none :: some (SV.fn (nat_lit 38) [] []) :: some (SV.ptr (nat_lit 12) (nat_lit 0)) :: none :: none :: some (SV.int .i64 (0 : Int)) :: some (SV.int .i64 (0 : Int)) :: nn 15 (some (SV.sl (nat_lit 3)) :: some (SV.int .i64 (0 : Int)) :: some (SV.int .i64 (0 : Int)) :: nn 22 ([])))
  [.cells [SV.int .i64 (0 : Int), SV.int .i64 (0 : Int), SV.int .i64 (0 : Int), SV.int .i64 (0 : Int), SV.int .i64 (0 : Int), SV.ros undef kP []] (nat_lit 26), .cells [SV.int .i64 (0 : Int)] (nat_lit 3), .cells [SV.int .i64 (0 : Int), SV.int .i64 (0 : Int), SV.int .i64 (0 : Int), SV.int .i64 (0 : Int)] (nat_lit 36),
    .seq kP [] (nat_lit 23), .seq kP [] (nat_lit 23), .seq kP [] (nat_lit 23), .seq kP [] (nat_lit 23), .seq kP [] (nat_lit 23),
    .seq kP [] (nat_lit 23), .cells [SV.sl (nat_lit 3), SV.sl (nat_lit 4), SV.sl (nat_lit 5), SV.int .i64 (0 : Int)] (nat_lit 31), .cells [SV.bool false] (nat_lit 62), .cells [SV.int .i64 (0 : Int), SV.int .i64 (0 : Int), SV.int .i64 (0 : Int)] (nat_lit 34), .cells [SV.sl (nat_lit 3), SV.sl (nat_lit 4), SV.sl (nat_lit 5), SV.int .i64 (0 : Int)] (nat_lit 31)]) mass_l2_go) mass_l1_lps
theorem mass_l2_lps_ok {α : Type} : LoopsOk E.P (mass_l2_lps (α := α)) := addLp_ok mass_l2_ok (mass_l1_lps_ok)

noncomputable def _root_.Go.Proofs.Ytkjellhkamfciaa.M.mass {α : Type} (k : Int) (r : Int) (hx : Int) (hy : Int) (hz : Int) (l : L3) (m : Int) (k0 : Int → Int → Int → Int → Int → Option α) : Option α :=
  if (!cEq (V.chk k r hx hy hz l) (0 : Int)) = true then k0 (0 : Int) (0 : Int) (0 : Int) (0 : Int) (V.chk k r hx hy hz l)
else
  if (!V.shwithin_r0 m (16777216 : Int) (1099511627776 : Int)) = true then k0 (0 : Int) (0 : Int) (0 : Int) (0 : Int) (120 : Int)
  else
    if cEq k (1 : Int) = true then
      if V.gn (V.mRatio (V.gv (V.mMul m (V.gv (V.mMul (IntKind.wrap .i64 (r * (1048576 : Int))) (IntKind.wrap .i64 (r * (1048576 : Int))))))) (2 : Int) (5 : Int)) (V.gn (V.mMul m (V.gv (V.mMul (IntKind.wrap .i64 (r * (1048576 : Int))) (IntKind.wrap .i64 (r * (1048576 : Int)))))) (V.gn (V.mMul (IntKind.wrap .i64 (r * (1048576 : Int))) (IntKind.wrap .i64 (r * (1048576 : Int)))) false)) = true then k0 (0 : Int) (0 : Int) (0 : Int) (0 : Int) (2 : Int)
      else
        k0 m (if (4096 : Int) > V.gv (V.mRatio (V.gv (V.mMul m (V.gv (V.mMul (IntKind.wrap .i64 (r * (1048576 : Int))) (IntKind.wrap .i64 (r * (1048576 : Int))))))) (2 : Int) (5 : Int)) then (4096 : Int) else V.gv (V.mRatio (V.gv (V.mMul m (V.gv (V.mMul (IntKind.wrap .i64 (r * (1048576 : Int))) (IntKind.wrap .i64 (r * (1048576 : Int))))))) (2 : Int) (5 : Int)))
          (if (4096 : Int) > V.gv (V.mRatio (V.gv (V.mMul m (V.gv (V.mMul (IntKind.wrap .i64 (r * (1048576 : Int))) (IntKind.wrap .i64 (r * (1048576 : Int))))))) (2 : Int) (5 : Int)) then (4096 : Int) else V.gv (V.mRatio (V.gv (V.mMul m (V.gv (V.mMul (IntKind.wrap .i64 (r * (1048576 : Int))) (IntKind.wrap .i64 (r * (1048576 : Int))))))) (2 : Int) (5 : Int)))
          (if (4096 : Int) > V.gv (V.mRatio (V.gv (V.mMul m (V.gv (V.mMul (IntKind.wrap .i64 (r * (1048576 : Int))) (IntKind.wrap .i64 (r * (1048576 : Int))))))) (2 : Int) (5 : Int)) then (4096 : Int) else V.gv (V.mRatio (V.gv (V.mMul m (V.gv (V.mMul (IntKind.wrap .i64 (r * (1048576 : Int))) (IntKind.wrap .i64 (r * (1048576 : Int))))))) (2 : Int) (5 : Int))) (0 : Int)
    else
      if (0 : Int) ≤ (0 : Int) ∧ (0 : Int) < (↑(List.length (V.corP k r hx hy hz l)) : Int) then
        if (0 : Int) ≤ (0 : Int) ∧ (0 : Int) < (↑(List.length (V.corP k r hx hy hz l)) : Int) then
          M.mass_l0 (↑(List.length (V.corP k r hx hy hz l)) : Int) (V.corP k r hx hy hz l)
            (fun (x193 x194 : Int) ↦
              if (0 : Int) ≤ (0 : Int) ∧ (0 : Int) < (↑(List.length (V.corP k r hx hy hz l)) : Int) then
                if (0 : Int) ≤ (0 : Int) ∧ (0 : Int) < (↑(List.length (V.corP k r hx hy hz l)) : Int) then
                  M.mass_l1 (↑(List.length (V.corP k r hx hy hz l)) : Int) (V.corP k r hx hy hz l)
                    (fun (x195 x196 : Int) ↦
                      if (0 : Int) ≤ (0 : Int) ∧ (0 : Int) < (↑(List.length (V.corP k r hx hy hz l)) : Int) then
                        if (0 : Int) ≤ (0 : Int) ∧ (0 : Int) < (↑(List.length (V.corP k r hx hy hz l)) : Int) then
                          M.mass_l2 (↑(List.length (V.corP k r hx hy hz l)) : Int) (V.corP k r hx hy hz l)
                            (fun (x197 x198 : Int) ↦
                              if
                                  V.gn
                                      (V.mRatio
                                        (V.gv
                                          (V.mAdd (V.gv (V.mMul m (V.gv (V.mMul (IntKind.wrap .i64 (IntKind.wrap .i64 (IntKind.wrap .i64 (Int.tdiv (IntKind.wrap .i64 (x194 - x193)) (2 : Int)) + V.corR k r hx hy hz l) * (1048576 : Int))) (IntKind.wrap .i64 (IntKind.wrap .i64 (IntKind.wrap .i64 (Int.tdiv (IntKind.wrap .i64 (x194 - x193)) (2 : Int)) + V.corR k r hx hy hz l) * (1048576 : Int)))))))
                                            (V.gv (V.mMul m (V.gv (V.mMul (IntKind.wrap .i64 (IntKind.wrap .i64 (IntKind.wrap .i64 (Int.tdiv (IntKind.wrap .i64 (x196 - x195)) (2 : Int)) + V.corR k r hx hy hz l) * (1048576 : Int))) (IntKind.wrap .i64 (IntKind.wrap .i64 (IntKind.wrap .i64 (Int.tdiv (IntKind.wrap .i64 (x196 - x195)) (2 : Int)) + V.corR k r hx hy hz l) * (1048576 : Int)))))))))
                                        (1 : Int) (3 : Int))
                                      (V.gn
                                        (V.mAdd (V.gv (V.mMul m (V.gv (V.mMul (IntKind.wrap .i64 (IntKind.wrap .i64 (IntKind.wrap .i64 (Int.tdiv (IntKind.wrap .i64 (x194 - x193)) (2 : Int)) + V.corR k r hx hy hz l) * (1048576 : Int))) (IntKind.wrap .i64 (IntKind.wrap .i64 (IntKind.wrap .i64 (Int.tdiv (IntKind.wrap .i64 (x194 - x193)) (2 : Int)) + V.corR k r hx hy hz l) * (1048576 : Int)))))))
                                          (V.gv (V.mMul m (V.gv (V.mMul (IntKind.wrap .i64 (IntKind.wrap .i64 (IntKind.wrap .i64 (Int.tdiv (IntKind.wrap .i64 (x196 - x195)) (2 : Int)) + V.corR k r hx hy hz l) * (1048576 : Int))) (IntKind.wrap .i64 (IntKind.wrap .i64 (IntKind.wrap .i64 (Int.tdiv (IntKind.wrap .i64 (x196 - x195)) (2 : Int)) + V.corR k r hx hy hz l) * (1048576 : Int))))))))
                                        (V.gn
                                          (V.mRatio
                                            (V.gv
                                              (V.mAdd (V.gv (V.mMul m (V.gv (V.mMul (IntKind.wrap .i64 (IntKind.wrap .i64 (IntKind.wrap .i64 (Int.tdiv (IntKind.wrap .i64 (x198 - x197)) (2 : Int)) + V.corR k r hx hy hz l) * (1048576 : Int))) (IntKind.wrap .i64 (IntKind.wrap .i64 (IntKind.wrap .i64 (Int.tdiv (IntKind.wrap .i64 (x198 - x197)) (2 : Int)) + V.corR k r hx hy hz l) * (1048576 : Int)))))))
                                                (V.gv (V.mMul m (V.gv (V.mMul (IntKind.wrap .i64 (IntKind.wrap .i64 (IntKind.wrap .i64 (Int.tdiv (IntKind.wrap .i64 (x194 - x193)) (2 : Int)) + V.corR k r hx hy hz l) * (1048576 : Int))) (IntKind.wrap .i64 (IntKind.wrap .i64 (IntKind.wrap .i64 (Int.tdiv (IntKind.wrap .i64 (x194 - x193)) (2 : Int)) + V.corR k r hx hy hz l) * (1048576 : Int)))))))))
                                            (1 : Int) (3 : Int))
                                          (V.gn
                                            (V.mAdd (V.gv (V.mMul m (V.gv (V.mMul (IntKind.wrap .i64 (IntKind.wrap .i64 (IntKind.wrap .i64 (Int.tdiv (IntKind.wrap .i64 (x198 - x197)) (2 : Int)) + V.corR k r hx hy hz l) * (1048576 : Int))) (IntKind.wrap .i64 (IntKind.wrap .i64 (IntKind.wrap .i64 (Int.tdiv (IntKind.wrap .i64 (x198 - x197)) (2 : Int)) + V.corR k r hx hy hz l) * (1048576 : Int)))))))
                                              (V.gv (V.mMul m (V.gv (V.mMul (IntKind.wrap .i64 (IntKind.wrap .i64 (IntKind.wrap .i64 (Int.tdiv (IntKind.wrap .i64 (x194 - x193)) (2 : Int)) + V.corR k r hx hy hz l) * (1048576 : Int))) (IntKind.wrap .i64 (IntKind.wrap .i64 (IntKind.wrap .i64 (Int.tdiv (IntKind.wrap .i64 (x194 - x193)) (2 : Int)) + V.corR k r hx hy hz l) * (1048576 : Int))))))))
                                            (V.gn
                                              (V.mRatio
                                                (V.gv
                                                  (V.mAdd (V.gv (V.mMul m (V.gv (V.mMul (IntKind.wrap .i64 (IntKind.wrap .i64 (IntKind.wrap .i64 (Int.tdiv (IntKind.wrap .i64 (x196 - x195)) (2 : Int)) + V.corR k r hx hy hz l) * (1048576 : Int))) (IntKind.wrap .i64 (IntKind.wrap .i64 (IntKind.wrap .i64 (Int.tdiv (IntKind.wrap .i64 (x196 - x195)) (2 : Int)) + V.corR k r hx hy hz l) * (1048576 : Int)))))))
                                                    (V.gv (V.mMul m (V.gv (V.mMul (IntKind.wrap .i64 (IntKind.wrap .i64 (IntKind.wrap .i64 (Int.tdiv (IntKind.wrap .i64 (x198 - x197)) (2 : Int)) + V.corR k r hx hy hz l) * (1048576 : Int))) (IntKind.wrap .i64 (IntKind.wrap .i64 (IntKind.wrap .i64 (Int.tdiv (IntKind.wrap .i64 (x198 - x197)) (2 : Int)) + V.corR k r hx hy hz l) * (1048576 : Int)))))))))
                                                (1 : Int) (3 : Int))
                                              (V.gn
                                                (V.mAdd (V.gv (V.mMul m (V.gv (V.mMul (IntKind.wrap .i64 (IntKind.wrap .i64 (IntKind.wrap .i64 (Int.tdiv (IntKind.wrap .i64 (x196 - x195)) (2 : Int)) + V.corR k r hx hy hz l) * (1048576 : Int))) (IntKind.wrap .i64 (IntKind.wrap .i64 (IntKind.wrap .i64 (Int.tdiv (IntKind.wrap .i64 (x196 - x195)) (2 : Int)) + V.corR k r hx hy hz l) * (1048576 : Int)))))))
                                                  (V.gv (V.mMul m (V.gv (V.mMul (IntKind.wrap .i64 (IntKind.wrap .i64 (IntKind.wrap .i64 (Int.tdiv (IntKind.wrap .i64 (x198 - x197)) (2 : Int)) + V.corR k r hx hy hz l) * (1048576 : Int))) (IntKind.wrap .i64 (IntKind.wrap .i64 (IntKind.wrap .i64 (Int.tdiv (IntKind.wrap .i64 (x198 - x197)) (2 : Int)) + V.corR k r hx hy hz l) * (1048576 : Int))))))))
                                                (V.gn (V.mMul m (V.gv (V.mMul (IntKind.wrap .i64 (IntKind.wrap .i64 (IntKind.wrap .i64 (Int.tdiv (IntKind.wrap .i64 (x198 - x197)) (2 : Int)) + V.corR k r hx hy hz l) * (1048576 : Int))) (IntKind.wrap .i64 (IntKind.wrap .i64 (IntKind.wrap .i64 (Int.tdiv (IntKind.wrap .i64 (x198 - x197)) (2 : Int)) + V.corR k r hx hy hz l) * (1048576 : Int))))))
                                                  (V.gn (V.mMul (IntKind.wrap .i64 (IntKind.wrap .i64 (IntKind.wrap .i64 (Int.tdiv (IntKind.wrap .i64 (x198 - x197)) (2 : Int)) + V.corR k r hx hy hz l) * (1048576 : Int))) (IntKind.wrap .i64 (IntKind.wrap .i64 (IntKind.wrap .i64 (Int.tdiv (IntKind.wrap .i64 (x198 - x197)) (2 : Int)) + V.corR k r hx hy hz l) * (1048576 : Int))))
                                                    (V.gn (V.mMul m (V.gv (V.mMul (IntKind.wrap .i64 (IntKind.wrap .i64 (IntKind.wrap .i64 (Int.tdiv (IntKind.wrap .i64 (x196 - x195)) (2 : Int)) + V.corR k r hx hy hz l) * (1048576 : Int))) (IntKind.wrap .i64 (IntKind.wrap .i64 (IntKind.wrap .i64 (Int.tdiv (IntKind.wrap .i64 (x196 - x195)) (2 : Int)) + V.corR k r hx hy hz l) * (1048576 : Int))))))
                                                      (V.gn (V.mMul (IntKind.wrap .i64 (IntKind.wrap .i64 (IntKind.wrap .i64 (Int.tdiv (IntKind.wrap .i64 (x196 - x195)) (2 : Int)) + V.corR k r hx hy hz l) * (1048576 : Int))) (IntKind.wrap .i64 (IntKind.wrap .i64 (IntKind.wrap .i64 (Int.tdiv (IntKind.wrap .i64 (x196 - x195)) (2 : Int)) + V.corR k r hx hy hz l) * (1048576 : Int))))
                                                        (V.gn (V.mMul m (V.gv (V.mMul (IntKind.wrap .i64 (IntKind.wrap .i64 (IntKind.wrap .i64 (Int.tdiv (IntKind.wrap .i64 (x194 - x193)) (2 : Int)) + V.corR k r hx hy hz l) * (1048576 : Int))) (IntKind.wrap .i64 (IntKind.wrap .i64 (IntKind.wrap .i64 (Int.tdiv (IntKind.wrap .i64 (x194 - x193)) (2 : Int)) + V.corR k r hx hy hz l) * (1048576 : Int))))))
                                                          (V.gn (V.mMul (IntKind.wrap .i64 (IntKind.wrap .i64 (IntKind.wrap .i64 (Int.tdiv (IntKind.wrap .i64 (x194 - x193)) (2 : Int)) + V.corR k r hx hy hz l) * (1048576 : Int))) (IntKind.wrap .i64 (IntKind.wrap .i64 (IntKind.wrap .i64 (Int.tdiv (IntKind.wrap .i64 (x194 - x193)) (2 : Int)) + V.corR k r hx hy hz l) * (1048576 : Int)))) false))))))))))) =
                                    true then
                                k0 (0 : Int) (0 : Int) (0 : Int) (0 : Int) (2 : Int)
                              else
                                k0 m
                                  (if
                                      (4096 : Int) >
                                        V.gv
                                          (V.mRatio
                                            (V.gv
                                              (V.mAdd (V.gv (V.mMul m (V.gv (V.mMul (IntKind.wrap .i64 (IntKind.wrap .i64 (IntKind.wrap .i64 (Int.tdiv (IntKind.wrap .i64 (x196 - x195)) (2 : Int)) + V.corR k r hx hy hz l) * (1048576 : Int))) (IntKind.wrap .i64 (IntKind.wrap .i64 (IntKind.wrap .i64 (Int.tdiv (IntKind.wrap .i64 (x196 - x195)) (2 : Int)) + V.corR k r hx hy hz l) * (1048576 : Int)))))))
                                                (V.gv (V.mMul m (V.gv (V.mMul (IntKind.wrap .i64 (IntKind.wrap .i64 (IntKind.wrap .i64 (Int.tdiv (IntKind.wrap .i64 (x198 - x197)) (2 : Int)) + V.corR k r hx hy hz l) * (1048576 : Int))) (IntKind.wrap .i64 (IntKind.wrap .i64 (IntKind.wrap .i64 (Int.tdiv (IntKind.wrap .i64 (x198 - x197)) (2 : Int)) + V.corR k r hx hy hz l) * (1048576 : Int)))))))))
                                            (1 : Int) (3 : Int)) then
                                    (4096 : Int)
                                  else
                                    V.gv
                                      (V.mRatio
                                        (V.gv
                                          (V.mAdd (V.gv (V.mMul m (V.gv (V.mMul (IntKind.wrap .i64 (IntKind.wrap .i64 (IntKind.wrap .i64 (Int.tdiv (IntKind.wrap .i64 (x196 - x195)) (2 : Int)) + V.corR k r hx hy hz l) * (1048576 : Int))) (IntKind.wrap .i64 (IntKind.wrap .i64 (IntKind.wrap .i64 (Int.tdiv (IntKind.wrap .i64 (x196 - x195)) (2 : Int)) + V.corR k r hx hy hz l) * (1048576 : Int)))))))
                                            (V.gv (V.mMul m (V.gv (V.mMul (IntKind.wrap .i64 (IntKind.wrap .i64 (IntKind.wrap .i64 (Int.tdiv (IntKind.wrap .i64 (x198 - x197)) (2 : Int)) + V.corR k r hx hy hz l) * (1048576 : Int))) (IntKind.wrap .i64 (IntKind.wrap .i64 (IntKind.wrap .i64 (Int.tdiv (IntKind.wrap .i64 (x198 - x197)) (2 : Int)) + V.corR k r hx hy hz l) * (1048576 : Int)))))))))
                                        (1 : Int) (3 : Int)))
                                  (if
                                      (4096 : Int) >
                                        V.gv
                                          (V.mRatio
                                            (V.gv
                                              (V.mAdd (V.gv (V.mMul m (V.gv (V.mMul (IntKind.wrap .i64 (IntKind.wrap .i64 (IntKind.wrap .i64 (Int.tdiv (IntKind.wrap .i64 (x198 - x197)) (2 : Int)) + V.corR k r hx hy hz l) * (1048576 : Int))) (IntKind.wrap .i64 (IntKind.wrap .i64 (IntKind.wrap .i64 (Int.tdiv (IntKind.wrap .i64 (x198 - x197)) (2 : Int)) + V.corR k r hx hy hz l) * (1048576 : Int)))))))
                                                (V.gv (V.mMul m (V.gv (V.mMul (IntKind.wrap .i64 (IntKind.wrap .i64 (IntKind.wrap .i64 (Int.tdiv (IntKind.wrap .i64 (x194 - x193)) (2 : Int)) + V.corR k r hx hy hz l) * (1048576 : Int))) (IntKind.wrap .i64 (IntKind.wrap .i64 (IntKind.wrap .i64 (Int.tdiv (IntKind.wrap .i64 (x194 - x193)) (2 : Int)) + V.corR k r hx hy hz l) * (1048576 : Int)))))))))
                                            (1 : Int) (3 : Int)) then
                                    (4096 : Int)
                                  else
                                    V.gv
                                      (V.mRatio
                                        (V.gv
                                          (V.mAdd (V.gv (V.mMul m (V.gv (V.mMul (IntKind.wrap .i64 (IntKind.wrap .i64 (IntKind.wrap .i64 (Int.tdiv (IntKind.wrap .i64 (x198 - x197)) (2 : Int)) + V.corR k r hx hy hz l) * (1048576 : Int))) (IntKind.wrap .i64 (IntKind.wrap .i64 (IntKind.wrap .i64 (Int.tdiv (IntKind.wrap .i64 (x198 - x197)) (2 : Int)) + V.corR k r hx hy hz l) * (1048576 : Int)))))))
                                            (V.gv (V.mMul m (V.gv (V.mMul (IntKind.wrap .i64 (IntKind.wrap .i64 (IntKind.wrap .i64 (Int.tdiv (IntKind.wrap .i64 (x194 - x193)) (2 : Int)) + V.corR k r hx hy hz l) * (1048576 : Int))) (IntKind.wrap .i64 (IntKind.wrap .i64 (IntKind.wrap .i64 (Int.tdiv (IntKind.wrap .i64 (x194 - x193)) (2 : Int)) + V.corR k r hx hy hz l) * (1048576 : Int)))))))))
                                        (1 : Int) (3 : Int)))
                                  (if
                                      (4096 : Int) >
                                        V.gv
                                          (V.mRatio
                                            (V.gv
                                              (V.mAdd (V.gv (V.mMul m (V.gv (V.mMul (IntKind.wrap .i64 (IntKind.wrap .i64 (IntKind.wrap .i64 (Int.tdiv (IntKind.wrap .i64 (x194 - x193)) (2 : Int)) + V.corR k r hx hy hz l) * (1048576 : Int))) (IntKind.wrap .i64 (IntKind.wrap .i64 (IntKind.wrap .i64 (Int.tdiv (IntKind.wrap .i64 (x194 - x193)) (2 : Int)) + V.corR k r hx hy hz l) * (1048576 : Int)))))))
                                                (V.gv (V.mMul m (V.gv (V.mMul (IntKind.wrap .i64 (IntKind.wrap .i64 (IntKind.wrap .i64 (Int.tdiv (IntKind.wrap .i64 (x196 - x195)) (2 : Int)) + V.corR k r hx hy hz l) * (1048576 : Int))) (IntKind.wrap .i64 (IntKind.wrap .i64 (IntKind.wrap .i64 (Int.tdiv (IntKind.wrap .i64 (x196 - x195)) (2 : Int)) + V.corR k r hx hy hz l) * (1048576 : Int)))))))))
                                            (1 : Int) (3 : Int)) then
                                    (4096 : Int)
                                  else
                                    V.gv
                                      (V.mRatio
                                        (V.gv
                                          (V.mAdd (V.gv (V.mMul m (V.gv (V.mMul (IntKind.wrap .i64 (IntKind.wrap .i64 (IntKind.wrap .i64 (Int.tdiv (IntKind.wrap .i64 (x194 - x193)) (2 : Int)) + V.corR k r hx hy hz l) * (1048576 : Int))) (IntKind.wrap .i64 (IntKind.wrap .i64 (IntKind.wrap .i64 (Int.tdiv (IntKind.wrap .i64 (x194 - x193)) (2 : Int)) + V.corR k r hx hy hz l) * (1048576 : Int)))))))
                                            (V.gv (V.mMul m (V.gv (V.mMul (IntKind.wrap .i64 (IntKind.wrap .i64 (IntKind.wrap .i64 (Int.tdiv (IntKind.wrap .i64 (x196 - x195)) (2 : Int)) + V.corR k r hx hy hz l) * (1048576 : Int))) (IntKind.wrap .i64 (IntKind.wrap .i64 (IntKind.wrap .i64 (Int.tdiv (IntKind.wrap .i64 (x196 - x195)) (2 : Int)) + V.corR k r hx hy hz l) * (1048576 : Int)))))))))
                                        (1 : Int) (3 : Int)))
                                  (0 : Int))
                            ((100 : Nat) + List.length l + List.length (V.corP k r hx hy hz l) + List.length (V.corA k r hx hy hz l) + List.length (V.corE k r hx hy hz l) + (0 : Nat) + (0 : Nat) + (0 : Nat)) (Prod.snd (Prod.snd (List.getD (V.corP k r hx hy hz l) (0 : Nat) ((0 : Int), (0 : Int), (0 : Int))))) (Prod.snd (Prod.snd (List.getD (V.corP k r hx hy hz l) (0 : Nat) ((0 : Int), (0 : Int), (0 : Int))))) (0 : Int)
                        else none
                      else none)
                    ((100 : Nat) + List.length l + List.length (V.corP k r hx hy hz l) + List.length (V.corA k r hx hy hz l) + List.length (V.corE k r hx hy hz l) + (0 : Nat) + (0 : Nat) + (0 : Nat)) (Prod.fst (Prod.snd (List.getD (V.corP k r hx hy hz l) (0 : Nat) ((0 : Int), (0 : Int), (0 : Int))))) (Prod.fst (Prod.snd (List.getD (V.corP k r hx hy hz l) (0 : Nat) ((0 : Int), (0 : Int), (0 : Int))))) (0 : Int)
                else none
              else none)
            ((100 : Nat) + List.length l + List.length (V.corP k r hx hy hz l) + List.length (V.corA k r hx hy hz l) + List.length (V.corE k r hx hy hz l) + (0 : Nat) + (0 : Nat) + (0 : Nat)) (Prod.fst (List.getD (V.corP k r hx hy hz l) (0 : Nat) ((0 : Int), (0 : Int), (0 : Int)))) (Prod.fst (List.getD (V.corP k r hx hy hz l) (0 : Nat) ((0 : Int), (0 : Int), (0 : Int)))) (0 : Int)
        else none
      else none
theorem mass_eq {α : Type} (k : Int) (r : Int) (hx : Int) (hy : Int) (hz : Int) (l : L3) (m : Int) (v192 : Value) (Q : SV → Hp → Option α) : callI E look_core (exec E look_core mass_l2_lps 400) 15 ([SV.agg [SV.int .i64 k, SV.int .i64 r, SV.int .i64 hx, SV.int .i64 hy, SV.int .i64 hz, SV.ros v192 kP l], SV.int .i64 m]) ([]) Q = M.mass k r hx hy hz l m (fun (x199 : Int) (x200 : Int) (x201 : Int) (x202 : Int) (x203 : Int) => Q (SV.tup [SV.agg [SV.int .i64 x199, SV.int .i64 x200, SV.int .i64 x201, SV.int .i64 x202], SV.int .i64 x203]) ([])) := by kernel_rfl
def mass_sp : List AS := [.st [.leaf (.int .i64 0), .leaf (.int .i64 0), .leaf (.int .i64 0), .leaf (.int .i64 0), .leaf (.int .i64 0), .ro (.st (.i .i64) [.i .i64, .i .i64])], .val (.int .i64 0)]
/-! Plain words: half widths, and masses. -/
def loF (f : P3 → Int) (l : List P3) (m : Int) : Int := l.foldl (fun m p => if f p < m then f p else m) m
def hiF (f : P3 → Int) (l : List P3) (m : Int) : Int := l.foldl (fun m p => if f p > m then f p else m) m
theorem loF_spec (f : P3 → Int) : ∀ (l : List P3) (m : Int), loF f l m ≤ m ∧ (∀ p ∈ l, loF f l m ≤ f p) ∧ (loF f l m = m ∨ ∃ p ∈ l, loF f l m = f p)
  | [], m => by simp [loF]
  | p :: l, m => by
    obtain ⟨h1, h2, h3⟩ := loF_spec f l (if f p < m then f p else m)
    have e : loF f (p :: l) m = loF f l (if f p < m then f p else m) := rfl
    rw [e]
    by_cases hc : f p < m
    · rw [if_pos hc] at h1 h2 h3 ⊢
      refine ⟨by omega, ?_, ?_⟩
      · intro q hq
        rcases List.mem_cons.1 hq with rfl | hq
        · omega
        · exact h2 q hq
      · rcases h3 with h3 | ⟨q, hq, h3⟩
        · exact .inr ⟨p, by simp, h3⟩
        · exact .inr ⟨q, by simp [hq], h3⟩
    · rw [if_neg hc] at h1 h2 h3 ⊢
      refine ⟨h1, ?_, ?_⟩
      · intro q hq
        rcases List.mem_cons.1 hq with rfl | hq
        · omega
        · exact h2 q hq
      · rcases h3 with h3 | ⟨q, hq, h3⟩
        · exact .inl h3
        · exact .inr ⟨q, by simp [hq], h3⟩
theorem hiF_spec (f : P3 → Int) : ∀ (l : List P3) (m : Int), m ≤ hiF f l m ∧ (∀ p ∈ l, f p ≤ hiF f l m) ∧ (hiF f l m = m ∨ ∃ p ∈ l, hiF f l m = f p)
  | [], m => by simp [hiF]
  | p :: l, m => by
    obtain ⟨h1, h2, h3⟩ := hiF_spec f l (if f p > m then f p else m)
    have e : hiF f (p :: l) m = hiF f l (if f p > m then f p else m) := rfl
    rw [e]
    by_cases hc : f p > m
    · rw [if_pos hc] at h1 h2 h3 ⊢
      refine ⟨by omega, ?_, ?_⟩
      · intro q hq
        rcases List.mem_cons.1 hq with rfl | hq
        · omega
        · exact h2 q hq
      · rcases h3 with h3 | ⟨q, hq, h3⟩
        · exact .inr ⟨p, by simp, h3⟩
        · exact .inr ⟨q, by simp [hq], h3⟩
    · rw [if_neg hc] at h1 h2 h3 ⊢
      refine ⟨h1, ?_, ?_⟩
      · intro q hq
        rcases List.mem_cons.1 hq with rfl | hq
        · omega
        · exact h2 q hq
      · rcases h3 with h3 | ⟨q, hq, h3⟩
        · exact .inl h3
        · exact .inr ⟨q, by simp [hq], h3⟩
def wid (f : P3 → Int) (l : List P3) : Int := hiF f l (f (pt l 0)) - loF f l (f (pt l 0))
def halfP (f : P3 → Int) (l : List P3) (r : Int) : Int := (wid f l / 2 + r) * 1048576
def sqP (m n : Int) : Int := m * (n * n / 4294967296) / 4294967296
def atl (n : Int) : Int := if 4096 > n then 4096 else n
def massQ (m x y z : Int) : P3 := (atl ((sqP m y + sqP m z) / 3), atl ((sqP m z + sqP m x) / 3), atl ((sqP m x + sqP m y) / 3))
noncomputable def massP (k r hx hy hz : Int) (l : List P3) (m : Int) : P3 :=
  if k = 1 then (atl (sqP m (r * 1048576) * 2 / 5), atl (sqP m (r * 1048576) * 2 / 5), atl (sqP m (r * 1048576) * 2 / 5))
  else massQ m (halfP (fun p => p.1) (corPP k hx hy hz l) r) (halfP (fun p => p.2.1) (corPP k hx hy hz l) r) (halfP (fun p => p.2.2) (corPP k hx hy hz l) r)
noncomputable def masEP (k r hx hy hz : Int) (l : List P3) (m : Int) : Int := if chkP k r hx hy hz l = 0 then (if inZ m 16777216 1099511627776 then 0 else 120) else chkP k r hx hy hz l
noncomputable def _root_.Go.Proofs.Ytkjellhkamfciaa.V.masE (k r hx hy hz : Int) (l : List P3) (m : Int) : Int := hid (masEP k r hx hy hz l m)
noncomputable def _root_.Go.Proofs.Ytkjellhkamfciaa.V.masM (k r hx hy hz : Int) (l : List P3) (m : Int) : Int := hid (if masEP k r hx hy hz l m = 0 then m else 0)
noncomputable def _root_.Go.Proofs.Ytkjellhkamfciaa.V.masI (k r hx hy hz : Int) (l : List P3) (m : Int) : P3 := hid (if masEP k r hx hy hz l m = 0 then massP k r hx hy hz l m else (0, 0, 0))
theorem gd_of {n : Int} (h : -4611686018427387903 ≤ n ∧ n ≤ 4611686018427387903) : Gd n := by unfold Gd; exact h
theorem sq_some {m n : Int} (hm : 0 ≤ m ∧ m ≤ 1099511627776) (hn : 0 ≤ n ∧ n ≤ 137438953472) :
    V.mMul n n = some (n * n / 4294967296) ∧ V.mMul m (n * n / 4294967296) = some (sqP m n) ∧ 0 ≤ sqP m n ∧ sqP m n ≤ 1125899906842624 := by
  have h1 : n * n ≤ 137438953472 * 137438953472 := Int.mul_le_mul hn.2 hn.2 hn.1 (by omega)
  have h2 : 0 ≤ n * n := Int.mul_nonneg hn.1 hn.1
  have h3 : 0 ≤ n * n / 4294967296 ∧ n * n / 4294967296 ≤ 4398046511104 := by omega
  unfold sqP
  generalize hq : n * n / 4294967296 = q at *
  have h4 : m * q ≤ 1099511627776 * 4398046511104 := Int.mul_le_mul hm.2 h3.2 h3.1 (by omega)
  have h5 : 0 ≤ m * q := Int.mul_nonneg hm.1 h3.1
  generalize hp : m * q = p at *
  refine ⟨mMul_some.2 ⟨gd_of (by omega), gd_of (by omega), gd_of (by omega), hq.symm⟩, mMul_some.2 ⟨gd_of (by omega), gd_of (by omega), gd_of (by omega), by rw [hp]⟩, by omega, by omega⟩
theorem add_some' {a b : Int} (ha : 0 ≤ a ∧ a ≤ 1125899906842624) (hb : 0 ≤ b ∧ b ≤ 1125899906842624) : V.mAdd a b = some (a + b) :=
  mAdd_some.2 ⟨gd_of (by omega), gd_of (by omega), gd_of (by omega), rfl⟩
theorem ratio_some {a b c : Int} (ha : 0 ≤ a ∧ a ≤ 4503599627370496) (hb : 0 ≤ b ∧ b ≤ 10) (hc : 0 < c ∧ c ≤ 10) : V.mRatio a b c = some (a * b / c) := by
  have h1 : a * b ≤ 4503599627370496 * 10 := Int.mul_le_mul ha.2 hb.2 hb.1 (by omega)
  have h2 : 0 ≤ a * b := Int.mul_nonneg ha.1 hb.1
  unfold V.mRatio V.qF V.tl isG
  generalize a * b = p at *
  have h3 : 0 ≤ p / c := Int.ediv_nonneg h2 (by omega)
  have h4 : p / c ≤ p := Int.ediv_le_self _ h2
  have c1 : (c == 0) = false := by simp; omega
  have c2 : ¬ (c < 0) := by omega
  have c3 : (p / c == -18446744073709551616) = false := by simp; omega
  simp only [c1, c3, Bool.false_or, Bool.false_and, Bool.false_eq_true, if_false, if_neg c2]
  rw [if_neg (by simp; omega), if_neg (by simp; omega)]
theorem wid_nonneg (f : P3 → Int) (l : List P3) : 0 ≤ wid f l := by
  have h1 := (loF_spec f l (f (pt l 0))).1
  have h2 := (hiF_spec f l (f (pt l 0))).1
  unfold wid; omega
theorem wid_le (f : P3 → Int) (l : List P3) (hl : 0 < l.length) (hs : ∀ p ∈ l, -65536 ≤ f p ∧ f p ≤ 65536) : (-65536 ≤ loF f l (f (pt l 0)) ∧ loF f l (f (pt l 0)) ≤ 65536) ∧ (-65536 ≤ hiF f l (f (pt l 0)) ∧ hiF f l (f (pt l 0)) ≤ 65536) := by
  have h0 := hs _ (pt_mem l 0 hl)
  have h1 := (loF_spec f l (f (pt l 0))).2.2
  have h2 := (hiF_spec f l (f (pt l 0))).2.2
  refine ⟨?_, ?_⟩
  · rcases h1 with h | ⟨p, hp, h⟩
    · rw [h]; exact h0
    · rw [h]; exact hs p hp
  · rcases h2 with h | ⟨p, hp, h⟩
    · rw [h]; exact h0
    · rw [h]; exact hs p hp
theorem half_w (f : P3 → Int) (l : List P3) (hl : 0 < l.length) (hs : ∀ p ∈ l, -65536 ≤ f p ∧ f p ≤ 65536) (r : Int) (hr : 0 ≤ r ∧ r ≤ 16384) :
    IntKind.wrap .i64 (IntKind.wrap .i64 (IntKind.wrap .i64 (Int.tdiv (IntKind.wrap .i64 (hiF f l (f (pt l 0)) - loF f l (f (pt l 0)))) 2) + r) * 1048576) = halfP f l r ∧ 0 ≤ halfP f l r ∧ halfP f l r ≤ 137438953472 := by
  obtain ⟨h1, h2⟩ := wid_le f l hl hs
  have h3 := wid_nonneg f l
  unfold halfP
  unfold wid at h3 ⊢
  generalize hiF f l (f (pt l 0)) = a at *
  generalize loF f l (f (pt l 0)) = b at *
  rw [IntWalk.i64_in (a - b) (by omega), Int.tdiv_eq_ediv_of_nonneg h3]
  rw [IntWalk.i64_in ((a - b) / 2) (by omega), IntWalk.i64_in ((a - b) / 2 + r) (by omega), IntWalk.i64_in _ (by omega)]
  exact ⟨rfl, by omega, by omega⟩
theorem corPP_pos {k r hx hy hz : Int} {l : List P3} (h : chkP k r hx hy hz l = 0) : 0 < (corPP k hx hy hz l).length ∧ (corPP k hx hy hz l).length ≤ 12 ∧ (∀ p ∈ corPP k hx hy hz l, Sm p 65536) := by
  unfold corPP
  rcases chk_range h with ⟨rfl, h1⟩ | ⟨rfl, h1, h2⟩ | ⟨rfl, h1, h2, h3, h4⟩ | ⟨rfl, h1, h2, h3, h4⟩
  · simp only [if_true]; exact ⟨by decide, by decide, by simp [Sm]⟩
  · simp only [Int.reduceEq, if_false, if_true]
    refine ⟨by simp, by simp, ?_⟩
    intro p hp
    simp only [List.mem_cons, List.not_mem_nil, or_false] at hp
    rcases hp with rfl | rfl <;> (unfold Sm; simp only; omega)
  · simp only [Int.reduceEq, if_false, if_true]
    refine ⟨by simp [brickP], by simp [brickP], ?_⟩
    intro p hp
    simp only [brickP, List.mem_cons, List.not_mem_nil, or_false] at hp
    rcases hp with rfl | rfl | rfl | rfl | rfl | rfl | rfl | rfl <;> (unfold Sm; simp only; omega)
  · simp only [Int.reduceEq, if_false]
    refine ⟨by omega, h2.2, ?_⟩
    intro p hp
    simp only [V.apartP, decide_eq_true_eq] at h3
    exact sm_of (h3.1 p hp)
theorem half_l0 {α : Type} (l : List P3) (hl : l.length < 1099511627776) (k1 : Int → Int → Option α) : ∀ (fuel i : Nat) (lo hi : Int), i ≤ l.length → l.length - i < fuel →
    M.mass_l0 (l.length : Int) l k1 fuel lo hi (i : Int) = k1 (loF (fun p => p.1) (l.drop i) lo) (hiF (fun p => p.1) (l.drop i) hi)
  | 0, i, lo, hi, h1, h2 => by omega
  | f + 1, i, lo, hi, h1, h2 => by
    unfold M.mass_l0 M.mass_l0_step
    rw [cLt_nat]
    by_cases hx : i < l.length
    · rw [w_next (by omega), half_l0 l hl k1 f (i + 1) _ _ (by omega) (by omega)]
      simp only [hx, decide_true, if_true, inB hx, toNat_nat]
      rw [drop_pt l i hx]
      rfl
    · have : i = l.length := by omega
      subst this
      simp [loF, hiF]
theorem half_l1 {α : Type} (l : List P3) (hl : l.length < 1099511627776) (k1 : Int → Int → Option α) : ∀ (fuel i : Nat) (lo hi : Int), i ≤ l.length → l.length - i < fuel →
    M.mass_l1 (l.length : Int) l k1 fuel lo hi (i : Int) = k1 (loF (fun p => p.2.1) (l.drop i) lo) (hiF (fun p => p.2.1) (l.drop i) hi)
  | 0, i, lo, hi, h1, h2 => by omega
  | f + 1, i, lo, hi, h1, h2 => by
    unfold M.mass_l1 M.mass_l1_step
    rw [cLt_nat]
    by_cases hx : i < l.length
    · rw [w_next (by omega), half_l1 l hl k1 f (i + 1) _ _ (by omega) (by omega)]
      simp only [hx, decide_true, if_true, inB hx, toNat_nat]
      rw [drop_pt l i hx]
      rfl
    · have : i = l.length := by omega
      subst this
      simp [loF, hiF]
theorem half_l2 {α : Type} (l : List P3) (hl : l.length < 1099511627776) (k1 : Int → Int → Option α) : ∀ (fuel i : Nat) (lo hi : Int), i ≤ l.length → l.length - i < fuel →
    M.mass_l2 (l.length : Int) l k1 fuel lo hi (i : Int) = k1 (loF (fun p => p.2.2) (l.drop i) lo) (hiF (fun p => p.2.2) (l.drop i) hi)
  | 0, i, lo, hi, h1, h2 => by omega
  | f + 1, i, lo, hi, h1, h2 => by
    unfold M.mass_l2 M.mass_l2_step
    rw [cLt_nat]
    by_cases hx : i < l.length
    · rw [w_next (by omega), half_l2 l hl k1 f (i + 1) _ _ (by omega) (by omega)]
      simp only [hx, decide_true, if_true, inB hx, toNat_nat]
      rw [drop_pt l i hx]
      rfl
    · have : i = l.length := by omega
      subst this
      simp [loF, hiF]
theorem mass_v {α : Type} (k r hx hy hz : Int) (l : List P3) (m : Int) (k0 : Int → Int → Int → Int → Int → Option α) :
    M.mass k r hx hy hz l m k0 = k0 (V.masM k r hx hy hz l m) (V.masI k r hx hy hz l m).1 (V.masI k r hx hy hz l m).2.1 (V.masI k r hx hy hz l m).2.2 (V.masE k r hx hy hz l m) := by
  unfold M.mass V.masM V.masI V.masE V.chk V.corP V.corR
  simp only [hid_eq, cEq_eq, within_eq]
  by_cases hc : chkP k r hx hy hz l = 0
  · by_cases hm : inZ m 16777216 1099511627776 = true
    · have he : masEP k r hx hy hz l m = 0 := by unfold masEP; rw [if_pos hc, if_pos hm]
      simp only [he, hc, hm, beq_self_eq_true, Bool.not_true, Bool.false_eq_true, if_false, if_true, beq_iff_eq]
      have hm' : 0 ≤ m ∧ m ≤ 1099511627776 := by simp [inZ] at hm; omega
      by_cases h1 : k = 1
      · subst h1
        have hr : 0 ≤ r * 1048576 ∧ r * 1048576 ≤ 137438953472 := by rcases chk_range hc with ⟨_, h⟩ | ⟨h, _⟩ | ⟨h, _⟩ | ⟨h, _⟩ <;> omega
        obtain ⟨s1, s2, s3, s4⟩ := sq_some hm' hr
        rw [IntWalk.i64_in (r * 1048576) (by omega)]
        have s5 := ratio_some (a := sqP m (r * 1048576)) (b := 2) (c := 5) (by omega) (by omega) (by omega)
        simp only [s1, s2, s5, V.gv, V.gn, Option.getD_some, Option.isNone_some, Bool.or_false, Bool.false_eq_true, if_false, if_true]
        simp only [massP, if_true, atl]
      · obtain ⟨p1, p2, p3⟩ := corPP_pos hc
        have hr : 0 ≤ r ∧ r ≤ 16384 := by rcases chk_range hc with ⟨_, h⟩ | ⟨_, h, _⟩ | ⟨_, h, _⟩ | ⟨_, h, _⟩ <;> omega
        have hmp : massP k r hx hy hz l m = massQ m (halfP (fun p => p.1) (corPP k hx hy hz l) r) (halfP (fun p => p.2.1) (corPP k hx hy hz l) r) (halfP (fun p => p.2.2) (corPP k hx hy hz l) r) := by unfold massP; rw [if_neg h1]
        rw [hmp, if_neg h1]
        generalize corPP k hx hy hz l = C at *
        have c0 : (0 : Int) ≤ 0 ∧ (0 : Int) < (C.length : Int) := by omega
        obtain ⟨x1, x2, x3⟩ := half_w (fun p => p.1) C p1 (fun p hp => (p3 p hp).1) r hr
        obtain ⟨y1, y2, y3⟩ := half_w (fun p => p.2.1) C p1 (fun p hp => (p3 p hp).2.1) r hr
        obtain ⟨z1, z2, z3⟩ := half_w (fun p => p.2.2) C p1 (fun p hp => (p3 p hp).2.2) r hr
        simp only [if_pos c0]
        refine Eq.trans (half_l0 C (by omega) _ _ 0 _ _ (by omega) (by omega)) ?_
        refine Eq.trans (half_l1 C (by omega) _ _ 0 _ _ (by omega) (by omega)) ?_
        refine Eq.trans (half_l2 C (by omega) _ _ 0 _ _ (by omega) (by omega)) ?_
        simp only [List.drop_zero]
        simp only [pt] at x1 y1 z1
        rw [x1, y1, z1]
        generalize halfP (fun p => p.1) C r = X at *
        generalize halfP (fun p => p.2.1) C r = Y at *
        generalize halfP (fun p => p.2.2) C r = Z at *
        obtain ⟨a1, a2, a3, a4⟩ := sq_some hm' ⟨x2, x3⟩
        obtain ⟨b1, b2, b3, b4⟩ := sq_some hm' ⟨y2, y3⟩
        obtain ⟨c1, c2, c3, c4⟩ := sq_some hm' ⟨z2, z3⟩
        have d1 := add_some' ⟨b3, b4⟩ ⟨c3, c4⟩
        have d2 := add_some' ⟨c3, c4⟩ ⟨a3, a4⟩
        have d3 := add_some' ⟨a3, a4⟩ ⟨b3, b4⟩
        have e1 := ratio_some (a := sqP m Y + sqP m Z) (b := 1) (c := 3) (by omega) (by omega) (by omega)
        have e2 := ratio_some (a := sqP m Z + sqP m X) (b := 1) (c := 3) (by omega) (by omega) (by omega)
        have e3 := ratio_some (a := sqP m X + sqP m Y) (b := 1) (c := 3) (by omega) (by omega) (by omega)
        simp only [a1, a2, b1, b2, c1, c2, d1, d2, d3, e1, e2, e3, V.gv, V.gn, Option.getD_some, Option.isNone_some, Bool.or_false, Bool.false_eq_true, if_false, Int.mul_one]
        simp only [massQ, atl]
    · have he : masEP k r hx hy hz l m = 120 := by unfold masEP; rw [if_pos hc, if_neg hm]
      simp [he, hc, hm]
  · have he : masEP k r hx hy hz l m = chkP k r hx hy hz l := by unfold masEP; rw [if_neg hc]
    simp [he, hc]
noncomputable def mass_h {α : Type} (ds : List D) (Q : SV → Hp → Option α) : Option α :=
  dI ds fun k ds => dI ds fun r ds => dI ds fun hx ds => dI ds fun hy ds => dI ds fun hz ds => dL kP ds fun l ds => dI ds fun m ds => dE ds (Q (.tup [.agg [.int .i64 (V.masM k r hx hy hz l m), .int .i64 (V.masI k r hx hy hz l m).1, .int .i64 (V.masI k r hx hy hz l m).2.1, .int .i64 (V.masI k r hx hy hz l m).2.2], .int .i64 (V.masE k r hx hy hz l m)]) ([]))
theorem mass_h_ok {α : Type} : FnOk E.P 15 (fEnt (α := α) mass_sp mass_h) :=
  fEntR_ok E (look_core_ok) (exec_sound E E_ok (look_core_ok) (mass_l2_lps_ok) 400) fun ds Q r h => by
    unfold mass_h at h
    obtain ⟨k, ds, rfl, h1⟩ := dI_inv h
    obtain ⟨r, ds, rfl, h2⟩ := dI_inv h1
    obtain ⟨hx, ds, rfl, h3⟩ := dI_inv h2
    obtain ⟨hy, ds, rfl, h4⟩ := dI_inv h3
    obtain ⟨hz, ds, rfl, h5⟩ := dI_inv h4
    obtain ⟨l, ds, rfl, h6⟩ := dL_inv h5
    obtain ⟨m, ds, rfl, h7⟩ := dI_inv h6
    obtain ⟨rfl, hE⟩ := dE_inv h7
    exact ⟨_, _, hE, fun vs => ⟨_, _, by kernel_rfl, (mass_eq k r hx hy hz l m ((cellsV (vs.headD undef)).tail.tail.tail.tail.tail.headD undef) _).trans (mass_v k r hx hy hz l m _)⟩⟩
noncomputable def look_mass {α : Type} : LookF α := addFn 15 (fEnt mass_sp mass_h) look_core
theorem look_mass_ok {α : Type} : LookOk E.P (look_mass (α := α)) := addFn_ok mass_h_ok (look_core_ok)
end Go.Proofs.Ytkjellhkamfciaa.Sx
