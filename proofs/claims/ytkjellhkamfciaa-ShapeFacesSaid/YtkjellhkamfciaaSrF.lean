/- ShapeFaces: its run tells true. -/
import Derived.Test.YtkjellhkamfciaaSrD
namespace Go.Proofs.Ytkjellhkamfciaa.Sx
open Go
set_option maxRecDepth 20000
set_option linter.unusedVariables false
set_option linter.unusedSimpArgs false
noncomputable def _root_.Go.Proofs.Ytkjellhkamfciaa.M.lfaces_l0_step {α : Type} (x17 : List Int) (kn : Int → L3 → L3 → Option α) (k1 : L3 → Option α) (x18 : Int) (x28 : L3) (x29 : L3) : Option α :=
  if cLt (0 : Int) (↑(List.length x29) : Int) = true then
  if cLt (0 : Int) (↑(List.length x17) : Int) = true then
    if (↑(List.length x17) : Int) = (0 : Int) then none
    else
      if (0 : Int) ≤ Int.tmod x18 (↑(List.length x17) : Int) ∧ Int.tmod x18 (↑(List.length x17) : Int) < (↑(List.length x17) : Int) then
        if V.lpick_g (List.getD x17 (Int.toNat (Int.tmod x18 (↑(List.length x17) : Int))) (0 : Int)) (↑(List.length x29) : Int) = true then
          if (0 : Int) ≤ V.lpick_r0 (List.getD x17 (Int.toNat (Int.tmod x18 (↑(List.length x17) : Int))) (0 : Int)) (↑(List.length x29) : Int) ∧ V.lpick_r0 (List.getD x17 (Int.toNat (Int.tmod x18 (↑(List.length x17) : Int))) (0 : Int)) (↑(List.length x29) : Int) < (↑(List.length x29) : Int) then
            if (List.length x28 + ((0 : Nat) + (1 : Nat))) * (24 : Nat) ≤ (140737488355328 : Nat) then
              if (0 : Int) ≤ (0 : Int) ∧ (0 : Int) ≤ V.lpick_r0 (List.getD x17 (Int.toNat (Int.tmod x18 (↑(List.length x17) : Int))) (0 : Int)) (↑(List.length x29) : Int) ∧ V.lpick_r0 (List.getD x17 (Int.toNat (Int.tmod x18 (↑(List.length x17) : Int))) (0 : Int)) (↑(List.length x29) : Int) ≤ (↑(List.length x29) : Int) then
                if ((0 : Nat) + List.length (List.take (Int.toNat (V.lpick_r0 (List.getD x17 (Int.toNat (Int.tmod x18 (↑(List.length x17) : Int))) (0 : Int)) (↑(List.length x29) : Int) - (0 : Int))) (List.drop (0 : Nat) x29))) * (24 : Nat) ≤ (140737488355328 : Nat) then
                  if (0 : Int) ≤ IntKind.wrap .i64 (V.lpick_r0 (List.getD x17 (Int.toNat (Int.tmod x18 (↑(List.length x17) : Int))) (0 : Int)) (↑(List.length x29) : Int) + (1 : Int)) ∧ IntKind.wrap .i64 (V.lpick_r0 (List.getD x17 (Int.toNat (Int.tmod x18 (↑(List.length x17) : Int))) (0 : Int)) (↑(List.length x29) : Int) + (1 : Int)) ≤ (↑(List.length x29) : Int) ∧ (↑(List.length x29) : Int) ≤ (↑(List.length x29) : Int) then
                    if
                        (List.length ([] ++ List.take (Int.toNat (V.lpick_r0 (List.getD x17 (Int.toNat (Int.tmod x18 (↑(List.length x17) : Int))) (0 : Int)) (↑(List.length x29) : Int) - (0 : Int))) (List.drop (0 : Nat) x29)) +
                              List.length (List.take (Int.toNat ((↑(List.length x29) : Int) - IntKind.wrap .i64 (V.lpick_r0 (List.getD x17 (Int.toNat (Int.tmod x18 (↑(List.length x17) : Int))) (0 : Int)) (↑(List.length x29) : Int) + (1 : Int)))) (List.drop (Int.toNat (IntKind.wrap .i64 (V.lpick_r0 (List.getD x17 (Int.toNat (Int.tmod x18 (↑(List.length x17) : Int))) (0 : Int)) (↑(List.length x29) : Int) + (1 : Int)))) x29))) *
                            (24 : Nat) ≤
                          (140737488355328 : Nat) then
                      kn (IntKind.wrap .i64 (x18 + (1 : Int))) (x28 ++ [List.getD x29 (Int.toNat (V.lpick_r0 (List.getD x17 (Int.toNat (Int.tmod x18 (↑(List.length x17) : Int))) (0 : Int)) (↑(List.length x29) : Int))) ((0 : Int), (0 : Int), (0 : Int))])
                        ([] ++ List.take (Int.toNat (V.lpick_r0 (List.getD x17 (Int.toNat (Int.tmod x18 (↑(List.length x17) : Int))) (0 : Int)) (↑(List.length x29) : Int) - (0 : Int))) (List.drop (0 : Nat) x29) ++
                          List.take (Int.toNat ((↑(List.length x29) : Int) - IntKind.wrap .i64 (V.lpick_r0 (List.getD x17 (Int.toNat (Int.tmod x18 (↑(List.length x17) : Int))) (0 : Int)) (↑(List.length x29) : Int) + (1 : Int)))) (List.drop (Int.toNat (IntKind.wrap .i64 (V.lpick_r0 (List.getD x17 (Int.toNat (Int.tmod x18 (↑(List.length x17) : Int))) (0 : Int)) (↑(List.length x29) : Int) + (1 : Int)))) x29))
                    else none
                  else none
                else none
              else none
            else none
          else none
        else none
      else none
  else
    if (0 : Int) ≤ (0 : Int) ∧ (0 : Int) < (↑(List.length x29) : Int) then
      if (List.length x28 + ((0 : Nat) + (1 : Nat))) * (24 : Nat) ≤ (140737488355328 : Nat) then
        if (0 : Int) ≤ (1 : Int) ∧ (1 : Int) ≤ (↑(List.length x29) : Int) ∧ (↑(List.length x29) : Int) ≤ (↑(List.length x29) : Int) then
          if (List.length ([] ++ List.take (Int.toNat ((0 : Int) - (0 : Int))) (List.drop (0 : Nat) x29)) + List.length (List.take (Int.toNat ((↑(List.length x29) : Int) - (1 : Int))) (List.drop (1 : Nat) x29))) * (24 : Nat) ≤ (140737488355328 : Nat) then
            kn (IntKind.wrap .i64 (x18 + (1 : Int))) (x28 ++ [List.getD x29 (0 : Nat) ((0 : Int), (0 : Int), (0 : Int))]) ([] ++ List.take (Int.toNat ((0 : Int) - (0 : Int))) (List.drop (0 : Nat) x29) ++ List.take (Int.toNat ((↑(List.length x29) : Int) - (1 : Int))) (List.drop (1 : Nat) x29))
          else none
        else none
      else none
    else none
else k1 x28
noncomputable def _root_.Go.Proofs.Ytkjellhkamfciaa.M.lfaces_l0 {α : Type} (x17 : List Int) (k1 : L3 → Option α) : Nat → Int → L3 → L3 → Option α
  | 0, _, _, _ => none
  | n + 1, x18, x28, x29 => M.lfaces_l0_step x17 (M.lfaces_l0 x17 k1 n) k1 x18 x28 x29
theorem lfaces_l0_step_eq {α : Type} (x16 : Value) (x17 : List Int) (x18 : Int) (x19 : Int) (x20 : L3) (x21 : L3) (x22 : L3) (x23 : Int) (x24 : Int) (x25 : Int) (x26 : Int) (x27 : Int) (x28 : L3) (x29 : L3) (Q : Ex → St → Option α) : (loopStep E (exec E look_right noLps 400) 6 [false, true, false, true, true, true, true, true, true, true, true, true, true] 0 (codeAt E.P 6 [false, true, false, true, true, true, true, true, true, true, true, true, true])) (St.mk (none :: some (SV.ros x16 (K.int IntKind.i64) x17) :: nn 5 (some (SV.ptr (nat_lit 0) (nat_lit 0)) :: none :: some (SV.ptr (nat_lit 4) (nat_lit 0)) :: some (SV.sl (nat_lit 6)) :: some (SV.int .i64 x18) :: nn 121 ([])))
  [.cells [SV.sl (nat_lit 1), SV.sl (nat_lit 2), SV.sl (nat_lit 3), SV.int .i64 x19] (nat_lit 31), .seq kP x20 (nat_lit 23), .seq kP x21 (nat_lit 23), .seq kP x22 (nat_lit 23),
    .cells [SV.int .i64 x23, SV.int .i64 x24, SV.int .i64 x25, SV.int .i64 x26, SV.int .i64 x27, SV.sl (nat_lit 5)] (nat_lit 26), .seq kP x28 (nat_lit 23), .seq kP x29 (nat_lit 23)]) Q = M.lfaces_l0_step x17 (fun (x31 : Int) (x32 : L3) (x33 : L3) => Q .normal (St.mk (none :: some (SV.ros x16 (K.int IntKind.i64) x17) :: nn 5 (some (SV.ptr (nat_lit 0) (nat_lit 0)) :: none :: some (SV.ptr (nat_lit 4) (nat_lit 0)) :: some (SV.sl (nat_lit 6)) :: some (SV.int .i64 x31) :: nn 121 ([])))
  [.cells [SV.sl (nat_lit 1), SV.sl (nat_lit 2), SV.sl (nat_lit 3), SV.int .i64 x19] (nat_lit 31), .seq kP x20 (nat_lit 23), .seq kP x21 (nat_lit 23), .seq kP x22 (nat_lit 23),
    .cells [SV.int .i64 x23, SV.int .i64 x24, SV.int .i64 x25, SV.int .i64 x26, SV.int .i64 x27, SV.sl (nat_lit 5)] (nat_lit 26), .seq kP x32 (nat_lit 23), .seq kP x33 (nat_lit 23)])) (fun (x30 : L3) => Q (.exit 0) (St.mk (nn 7 (some (SV.ptr (nat_lit 0) (nat_lit 0)) :: none :: some (SV.ptr (nat_lit 4) (nat_lit 0)) :: nn 123 ([])))
  [.cells [SV.sl (nat_lit 1), SV.sl (nat_lit 2), SV.sl (nat_lit 3), SV.int .i64 x19] (nat_lit 31), .seq kP x20 (nat_lit 23), .seq kP x21 (nat_lit 23), .seq kP x22 (nat_lit 23),
    .cells [SV.int .i64 x23, SV.int .i64 x24, SV.int .i64 x25, SV.int .i64 x26, SV.int .i64 x27, SV.sl (nat_lit 5)] (nat_lit 26), .seq kP x30 (nat_lit 23)])) x18 x28 x29 := by kernel_rfl
theorem lfaces_l0_iter {α : Type} (x16 : Value) (x17 : List Int) (x19 : Int) (x20 : L3) (x21 : L3) (x22 : L3) (x23 : Int) (x24 : Int) (x25 : Int) (x26 : Int) (x27 : Int) (Q : Ex → St → Option α) : ∀ (n : Nat) (x18 : Int) (x28 : L3) (x29 : L3), iter (loopStep E (exec E look_right noLps 400) 6 [false, true, false, true, true, true, true, true, true, true, true, true, true] 0 (codeAt E.P 6 [false, true, false, true, true, true, true, true, true, true, true, true, true])) n (St.mk (none :: some (SV.ros x16 (K.int IntKind.i64) x17) :: nn 5 (some (SV.ptr (nat_lit 0) (nat_lit 0)) :: none :: some (SV.ptr (nat_lit 4) (nat_lit 0)) :: some (SV.sl (nat_lit 6)) :: some (SV.int .i64 x18) :: nn 121 ([])))
  [.cells [SV.sl (nat_lit 1), SV.sl (nat_lit 2), SV.sl (nat_lit 3), SV.int .i64 x19] (nat_lit 31), .seq kP x20 (nat_lit 23), .seq kP x21 (nat_lit 23), .seq kP x22 (nat_lit 23),
    .cells [SV.int .i64 x23, SV.int .i64 x24, SV.int .i64 x25, SV.int .i64 x26, SV.int .i64 x27, SV.sl (nat_lit 5)] (nat_lit 26), .seq kP x28 (nat_lit 23), .seq kP x29 (nat_lit 23)]) Q = M.lfaces_l0 x17 (fun (x30 : L3) => Q (.exit 0) (St.mk (nn 7 (some (SV.ptr (nat_lit 0) (nat_lit 0)) :: none :: some (SV.ptr (nat_lit 4) (nat_lit 0)) :: nn 123 ([])))
  [.cells [SV.sl (nat_lit 1), SV.sl (nat_lit 2), SV.sl (nat_lit 3), SV.int .i64 x19] (nat_lit 31), .seq kP x20 (nat_lit 23), .seq kP x21 (nat_lit 23), .seq kP x22 (nat_lit 23),
    .cells [SV.int .i64 x23, SV.int .i64 x24, SV.int .i64 x25, SV.int .i64 x26, SV.int .i64 x27, SV.sl (nat_lit 5)] (nat_lit 26), .seq kP x30 (nat_lit 23)])) n x18 x28 x29
  | 0, _, _, _ => rfl
  | n + 1, x18, x28, x29 => (lfaces_l0_step_eq x16 x17 x18 x19 x20 x21 x22 x23 x24 x25 x26 x27 x28 x29 (iterK (loopStep E (exec E look_right noLps 400) 6 [false, true, false, true, true, true, true, true, true, true, true, true, true] 0 (codeAt E.P 6 [false, true, false, true, true, true, true, true, true, true, true, true, true])) n Q)).trans (congrArg (fun kn => M.lfaces_l0_step x17 kn (fun (x30 : L3) => Q (.exit 0) (St.mk (nn 7 (some (SV.ptr (nat_lit 0) (nat_lit 0)) :: none :: some (SV.ptr (nat_lit 4) (nat_lit 0)) :: nn 123 ([])))
  [.cells [SV.sl (nat_lit 1), SV.sl (nat_lit 2), SV.sl (nat_lit 3), SV.int .i64 x19] (nat_lit 31), .seq kP x20 (nat_lit 23), .seq kP x21 (nat_lit 23), .seq kP x22 (nat_lit 23),
    .cells [SV.int .i64 x23, SV.int .i64 x24, SV.int .i64 x25, SV.int .i64 x26, SV.int .i64 x27, SV.sl (nat_lit 5)] (nat_lit 26), .seq kP x30 (nat_lit 23)])) x18 x28 x29) (funext fun x18 => funext fun x28 => funext fun x29 => lfaces_l0_iter x16 x17 x19 x20 x21 x22 x23 x24 x25 x26 x27 Q n x18 x28 x29))
noncomputable def lfaces_l0_go {α : Type} (ds : List D) (Q : Ex → St → Option α) : Option α :=
  dV ds fun x16 ds => dL (K.int IntKind.i64) ds fun x17 ds => dI ds fun x18 ds => dI ds fun x19 ds => dL kP ds fun x20 ds => dL kP ds fun x21 ds => dL kP ds fun x22 ds => dI ds fun x23 ds => dI ds fun x24 ds => dI ds fun x25 ds => dI ds fun x26 ds => dI ds fun x27 ds => dL kP ds fun x28 ds => dL kP ds fun x29 ds => dE ds (M.lfaces_l0 x17 (fun (x30 : L3) => Q (.exit 0) (St.mk (nn 7 (some (SV.ptr (nat_lit 0) (nat_lit 0)) :: none :: some (SV.ptr (nat_lit 4) (nat_lit 0)) :: nn 123 ([])))
  [.cells [SV.sl (nat_lit 1), SV.sl (nat_lit 2), SV.sl (nat_lit 3), SV.int .i64 x19] (nat_lit 31), .seq kP x20 (nat_lit 23), .seq kP x21 (nat_lit 23), .seq kP x22 (nat_lit 23),
    .cells [SV.int .i64 x23, SV.int .i64 x24, SV.int .i64 x25, SV.int .i64 x26, SV.int .i64 x27, SV.sl (nat_lit 5)] (nat_lit 26), .seq kP x30 (nat_lit 23)])) (100 + x17.length + x20.length + x21.length + x22.length + x28.length + x29.length) x18 x28 x29)
theorem lfaces_l0_ok {α : Type} : LoopOk E.P 6 [false, true, false, true, true, true, true, true, true, true, true, true, true] 0 (lEnt (α := α) (St.mk (none :: some (SV.ros undef (K.int IntKind.i64) []) :: nn 5 (some (SV.ptr (nat_lit 0) (nat_lit 0)) :: none :: some (SV.ptr (nat_lit 4) (nat_lit 0)) :: some (SV.sl (nat_lit 6)) :: some (SV.int .i64 (0 : Int)) :: nn 121 ([])))
  [.cells [SV.sl (nat_lit 1), SV.sl (nat_lit 2), SV.sl (nat_lit 3), SV.int .i64 (0 : Int)] (nat_lit 31), .seq kP [] (nat_lit 23), .seq kP [] (nat_lit 23), .seq kP [] (nat_lit 23),
    .cells [SV.int .i64 (0 : Int), SV.int .i64 (0 : Int), SV.int .i64 (0 : Int), SV.int .i64 (0 : Int), SV.int .i64 (0 : Int), SV.sl (nat_lit 5)] (nat_lit 26), .seq kP [] (nat_lit 23), .seq kP [] (nat_lit 23)]) lfaces_l0_go) :=
  lEnt_ok E (exec_sound E E_ok (look_right_ok) (noLps_ok _) 400) fun ds Q r h S hS => by
    unfold lfaces_l0_go at h
    obtain ⟨x16, ds, rfl, h1⟩ := dV_inv h
    obtain ⟨x17, ds, rfl, h2⟩ := dL_inv h1
    obtain ⟨x18, ds, rfl, h3⟩ := dI_inv h2
    obtain ⟨x19, ds, rfl, h4⟩ := dI_inv h3
    obtain ⟨x20, ds, rfl, h5⟩ := dL_inv h4
    obtain ⟨x21, ds, rfl, h6⟩ := dL_inv h5
    obtain ⟨x22, ds, rfl, h7⟩ := dL_inv h6
    obtain ⟨x23, ds, rfl, h8⟩ := dI_inv h7
    obtain ⟨x24, ds, rfl, h9⟩ := dI_inv h8
    obtain ⟨x25, ds, rfl, h10⟩ := dI_inv h9
    obtain ⟨x26, ds, rfl, h11⟩ := dI_inv h10
    obtain ⟨x27, ds, rfl, h12⟩ := dI_inv h11
    obtain ⟨x28, ds, rfl, h13⟩ := dL_inv h12
    obtain ⟨x29, ds, rfl, h14⟩ := dL_inv h13
    obtain ⟨rfl, hE⟩ := dE_inv h14
    have e : fillS (St.mk (none :: some (SV.ros undef (K.int IntKind.i64) []) :: nn 5 (some (SV.ptr (nat_lit 0) (nat_lit 0)) :: none :: some (SV.ptr (nat_lit 4) (nat_lit 0)) :: some (SV.sl (nat_lit 6)) :: some (SV.int .i64 (0 : Int)) :: nn 121 ([])))
  [.cells [SV.sl (nat_lit 1), SV.sl (nat_lit 2), SV.sl (nat_lit 3), SV.int .i64 (0 : Int)] (nat_lit 31), .seq kP [] (nat_lit 23), .seq kP [] (nat_lit 23), .seq kP [] (nat_lit 23),
    .cells [SV.int .i64 (0 : Int), SV.int .i64 (0 : Int), SV.int .i64 (0 : Int), SV.int .i64 (0 : Int), SV.int .i64 (0 : Int), SV.sl (nat_lit 5)] (nat_lit 26), .seq kP [] (nat_lit 23), .seq kP [] (nat_lit 23)]) [.v x16, .l (K.int IntKind.i64) x17, .i x18, .i x19, .l kP x20, .l kP x21, .l kP x22, .i x23, .i x24, .i x25, .i x26, .i x27, .l kP x28, .l kP x29] = some (St.mk (none :: some (SV.ros x16 (K.int IntKind.i64) x17) :: nn 5 (some (SV.ptr (nat_lit 0) (nat_lit 0)) :: none :: some (SV.ptr (nat_lit 4) (nat_lit 0)) :: some (SV.sl (nat_lit 6)) :: some (SV.int .i64 x18) :: nn 121 ([])))
  [.cells [SV.sl (nat_lit 1), SV.sl (nat_lit 2), SV.sl (nat_lit 3), SV.int .i64 x19] (nat_lit 31), .seq kP x20 (nat_lit 23), .seq kP x21 (nat_lit 23), .seq kP x22 (nat_lit 23),
    .cells [SV.int .i64 x23, SV.int .i64 x24, SV.int .i64 x25, SV.int .i64 x26, SV.int .i64 x27, SV.sl (nat_lit 5)] (nat_lit 26), .seq kP x28 (nat_lit 23), .seq kP x29 (nat_lit 23)]) := by kernel_rfl
    rw [e] at hS
    cases hS
    exact ⟨_, (lfaces_l0_iter x16 x17 x19 x20 x21 x22 x23 x24 x25 x26 x27 Q _ x18 x28 x29).trans hE⟩
noncomputable def lfaces_l0_lps {α : Type} : LookL α := addLp 6 [false, true, false, true, true, true, true, true, true, true, true, true, true] 0 (lEnt (St.mk (none :: some (SV.ros undef (K.int IntKind.i64) []) :: nn 5 (some (SV.ptr (nat_lit 0) (nat_lit 0)) :: none :: some (SV.ptr (nat_lit 4) (nat_lit 0)) :: some (SV.sl (nat_lit 6)) :: some (SV.int .i64 (0 : Int)) :: nn 121 ([])))
  [.cells [SV.sl (nat_lit 1), SV.sl (nat_lit 2), SV.sl (nat_lit 3), SV.int .i64 (0 : Int)] (nat_lit 31), .seq kP [] (nat_lit 23), .seq kP [] (nat_lit 23), .seq kP [] (nat_lit 23),
    .cells [SV.int .i64 (0 : Int), SV.int .i64 (0 : Int), SV.int .i64 (0 : Int), SV.int .i64 (0 : Int), SV.int .i64 (0 : Int), SV.sl (nat_lit 5)] (nat_lit 26), .seq kP [] (nat_lit 23), .seq kP [] (nat_lit 23)]) lfaces_l0_go) noLps
theorem lfaces_l0_lps_ok {α : Type} : LoopsOk E.P (lfaces_l0_lps (α := α)) := addLp_ok lfaces_l0_ok (noLps_ok _)

noncomputable def _root_.Go.Proofs.Ytkjellhkamfciaa.M.lfaces_l1_step {α : Type} (x66 : Int) (x71 : L3) (x75 : L3) (kn : Bool → Int → Option α) (k1 : Bool → Option α) (x67 : Bool) (x68 : Int) : Option α :=
  if cLt x68 (↑(List.length x75) : Int) = true then
  if x67 = true then kn true (IntKind.wrap .i64 (x68 + (1 : Int)))
  else
    if (0 : Int) ≤ x68 ∧ x68 < (↑(List.length x75) : Int) then
      if (0 : Int) ≤ x66 ∧ x66 < (↑(List.length x71) : Int) then
        kn
          (cEq (Prod.fst (List.getD x75 (Int.toNat x68) ((0 : Int), (0 : Int), (0 : Int)))) (Prod.fst (List.getD x71 (Int.toNat x66) ((0 : Int), (0 : Int), (0 : Int)))) &&
            (cEq (Prod.fst (Prod.snd (List.getD x75 (Int.toNat x68) ((0 : Int), (0 : Int), (0 : Int))))) (Prod.fst (Prod.snd (List.getD x71 (Int.toNat x66) ((0 : Int), (0 : Int), (0 : Int))))) && (cEq (Prod.snd (Prod.snd (List.getD x75 (Int.toNat x68) ((0 : Int), (0 : Int), (0 : Int))))) (Prod.snd (Prod.snd (List.getD x71 (Int.toNat x66) ((0 : Int), (0 : Int), (0 : Int))))) && true)))
          (IntKind.wrap .i64 (x68 + (1 : Int)))
      else none
    else none
else k1 x67
noncomputable def _root_.Go.Proofs.Ytkjellhkamfciaa.M.lfaces_l1 {α : Type} (x66 : Int) (x71 : L3) (x75 : L3) (k1 : Bool → Option α) : Nat → Bool → Int → Option α
  | 0, _, _ => none
  | n + 1, x67, x68 => M.lfaces_l1_step x66 x71 x75 (M.lfaces_l1 x66 x71 x75 k1 n) k1 x67 x68
theorem lfaces_l1_step_eq {α : Type} (x66 : Int) (x67 : Bool) (x68 : Int) (x69 : Int) (x70 : L3) (x71 : L3) (x72 : L3) (x73 : Int) (x74 : L3) (x75 : L3) (x76 : L3) (Q : Ex → St → Option α) : (loopStep E (exec E look_right lfaces_l0_lps 400) 6 [false, true, false, true, false, false, true, false, false, true, false, true, true, true, true, true, true, true, true, true, true, true, true, true] 0 (codeAt E.P 6 [false, true, false, true, false, false, true, false, false, true, false, true, true, true, true, true, true, true, true, true, true, true, true, true])) (St.mk (nn 7 (some (SV.ptr (nat_lit 0) (nat_lit 0)) :: nn 6 (some (SV.ptr (nat_lit 4) (nat_lit 0)) :: none :: some (SV.int .i64 x66) :: some (SV.bool x67) :: some (SV.int .i64 x68) :: nn 114 ([]))))
  [.cells [SV.sl (nat_lit 1), SV.sl (nat_lit 2), SV.sl (nat_lit 3), SV.int .i64 x69] (nat_lit 31), .seq kP x70 (nat_lit 23), .seq kP x71 (nat_lit 23), .seq kP x72 (nat_lit 23), .cells [SV.sl (nat_lit 5), SV.sl (nat_lit 6), SV.sl (nat_lit 7), SV.int .i64 x73] (nat_lit 31),
    .seq kP x74 (nat_lit 23), .seq kP x75 (nat_lit 23), .seq kP x76 (nat_lit 23)]) Q = M.lfaces_l1_step x66 x71 x75 (fun (x78 : Bool) (x79 : Int) => Q .normal (St.mk (nn 7 (some (SV.ptr (nat_lit 0) (nat_lit 0)) :: nn 6 (some (SV.ptr (nat_lit 4) (nat_lit 0)) :: none :: some (SV.int .i64 x66) :: some (SV.bool x78) :: some (SV.int .i64 x79) :: nn 114 ([]))))
  [.cells [SV.sl (nat_lit 1), SV.sl (nat_lit 2), SV.sl (nat_lit 3), SV.int .i64 x69] (nat_lit 31), .seq kP x70 (nat_lit 23), .seq kP x71 (nat_lit 23), .seq kP x72 (nat_lit 23), .cells [SV.sl (nat_lit 5), SV.sl (nat_lit 6), SV.sl (nat_lit 7), SV.int .i64 x73] (nat_lit 31),
    .seq kP x74 (nat_lit 23), .seq kP x75 (nat_lit 23), .seq kP x76 (nat_lit 23)])) (fun (x77 : Bool) => Q (.exit 4) (St.mk (nn 7 (some (SV.ptr (nat_lit 0) (nat_lit 0)) :: nn 6 (some (SV.ptr (nat_lit 4) (nat_lit 0)) :: none :: some (SV.int .i64 x66) :: some (SV.bool x77) :: nn 115 ([]))))
  [.cells [SV.sl (nat_lit 1), SV.sl (nat_lit 2), SV.sl (nat_lit 3), SV.int .i64 x69] (nat_lit 31), .seq kP x70 (nat_lit 23), .seq kP x71 (nat_lit 23), .seq kP x72 (nat_lit 23), .cells [SV.sl (nat_lit 5), SV.sl (nat_lit 6), SV.sl (nat_lit 7), SV.int .i64 x73] (nat_lit 31),
    .seq kP x74 (nat_lit 23), .seq kP x75 (nat_lit 23), .seq kP x76 (nat_lit 23)])) x67 x68 := by kernel_rfl
theorem lfaces_l1_iter {α : Type} (x66 : Int) (x69 : Int) (x70 : L3) (x71 : L3) (x72 : L3) (x73 : Int) (x74 : L3) (x75 : L3) (x76 : L3) (Q : Ex → St → Option α) : ∀ (n : Nat) (x67 : Bool) (x68 : Int), iter (loopStep E (exec E look_right lfaces_l0_lps 400) 6 [false, true, false, true, false, false, true, false, false, true, false, true, true, true, true, true, true, true, true, true, true, true, true, true] 0 (codeAt E.P 6 [false, true, false, true, false, false, true, false, false, true, false, true, true, true, true, true, true, true, true, true, true, true, true, true])) n (St.mk (nn 7 (some (SV.ptr (nat_lit 0) (nat_lit 0)) :: nn 6 (some (SV.ptr (nat_lit 4) (nat_lit 0)) :: none :: some (SV.int .i64 x66) :: some (SV.bool x67) :: some (SV.int .i64 x68) :: nn 114 ([]))))
  [.cells [SV.sl (nat_lit 1), SV.sl (nat_lit 2), SV.sl (nat_lit 3), SV.int .i64 x69] (nat_lit 31), .seq kP x70 (nat_lit 23), .seq kP x71 (nat_lit 23), .seq kP x72 (nat_lit 23), .cells [SV.sl (nat_lit 5), SV.sl (nat_lit 6), SV.sl (nat_lit 7), SV.int .i64 x73] (nat_lit 31),
    .seq kP x74 (nat_lit 23), .seq kP x75 (nat_lit 23), .seq kP x76 (nat_lit 23)]) Q = M.lfaces_l1 x66 x71 x75 (fun (x77 : Bool) => Q (.exit 4) (St.mk (nn 7 (some (SV.ptr (nat_lit 0) (nat_lit 0)) :: nn 6 (some (SV.ptr (nat_lit 4) (nat_lit 0)) :: none :: some (SV.int .i64 x66) :: some (SV.bool x77) :: nn 115 ([]))))
  [.cells [SV.sl (nat_lit 1), SV.sl (nat_lit 2), SV.sl (nat_lit 3), SV.int .i64 x69] (nat_lit 31), .seq kP x70 (nat_lit 23), .seq kP x71 (nat_lit 23), .seq kP x72 (nat_lit 23), .cells [SV.sl (nat_lit 5), SV.sl (nat_lit 6), SV.sl (nat_lit 7), SV.int .i64 x73] (nat_lit 31),
    .seq kP x74 (nat_lit 23), .seq kP x75 (nat_lit 23), .seq kP x76 (nat_lit 23)])) n x67 x68
  | 0, _, _ => rfl
  | n + 1, x67, x68 => (lfaces_l1_step_eq x66 x67 x68 x69 x70 x71 x72 x73 x74 x75 x76 (iterK (loopStep E (exec E look_right lfaces_l0_lps 400) 6 [false, true, false, true, false, false, true, false, false, true, false, true, true, true, true, true, true, true, true, true, true, true, true, true] 0 (codeAt E.P 6 [false, true, false, true, false, false, true, false, false, true, false, true, true, true, true, true, true, true, true, true, true, true, true, true])) n Q)).trans (congrArg (fun kn => M.lfaces_l1_step x66 x71 x75 kn (fun (x77 : Bool) => Q (.exit 4) (St.mk (nn 7 (some (SV.ptr (nat_lit 0) (nat_lit 0)) :: nn 6 (some (SV.ptr (nat_lit 4) (nat_lit 0)) :: none :: some (SV.int .i64 x66) :: some (SV.bool x77) :: nn 115 ([]))))
  [.cells [SV.sl (nat_lit 1), SV.sl (nat_lit 2), SV.sl (nat_lit 3), SV.int .i64 x69] (nat_lit 31), .seq kP x70 (nat_lit 23), .seq kP x71 (nat_lit 23), .seq kP x72 (nat_lit 23), .cells [SV.sl (nat_lit 5), SV.sl (nat_lit 6), SV.sl (nat_lit 7), SV.int .i64 x73] (nat_lit 31),
    .seq kP x74 (nat_lit 23), .seq kP x75 (nat_lit 23), .seq kP x76 (nat_lit 23)])) x67 x68) (funext fun x67 => funext fun x68 => lfaces_l1_iter x66 x69 x70 x71 x72 x73 x74 x75 x76 Q n x67 x68))
noncomputable def lfaces_l1_go {α : Type} (ds : List D) (Q : Ex → St → Option α) : Option α :=
  dI ds fun x66 ds => dB ds fun x67 ds => dI ds fun x68 ds => dI ds fun x69 ds => dL kP ds fun x70 ds => dL kP ds fun x71 ds => dL kP ds fun x72 ds => dI ds fun x73 ds => dL kP ds fun x74 ds => dL kP ds fun x75 ds => dL kP ds fun x76 ds => dE ds (M.lfaces_l1 x66 x71 x75 (fun (x77 : Bool) => Q (.exit 4) (St.mk (nn 7 (some (SV.ptr (nat_lit 0) (nat_lit 0)) :: nn 6 (some (SV.ptr (nat_lit 4) (nat_lit 0)) :: none :: some (SV.int .i64 x66) :: some (SV.bool x77) :: nn 115 ([]))))
  [.cells [SV.sl (nat_lit 1), SV.sl (nat_lit 2), SV.sl (nat_lit 3), SV.int .i64 x69] (nat_lit 31), .seq kP x70 (nat_lit 23), .seq kP x71 (nat_lit 23), .seq kP x72 (nat_lit 23), .cells [SV.sl (nat_lit 5), SV.sl (nat_lit 6), SV.sl (nat_lit 7), SV.int .i64 x73] (nat_lit 31),
    .seq kP x74 (nat_lit 23), .seq kP x75 (nat_lit 23), .seq kP x76 (nat_lit 23)])) (100 + x70.length + x71.length + x72.length + x74.length + x75.length + x76.length) x67 x68)
theorem lfaces_l1_ok {α : Type} : LoopOk E.P 6 [false, true, false, true, false, false, true, false, false, true, false, true, true, true, true, true, true, true, true, true, true, true, true, true] 0 (lEnt (α := α) (St.mk (nn 7 (some (SV.ptr (nat_lit 0) (nat_lit 0)) :: nn 6 (some (SV.ptr (nat_lit 4) (nat_lit 0)) :: none :: some (SV.int .i64 (0 : Int)) :: some (SV.bool false) :: some (SV.int .i64 (0 : Int)) :: nn 114 ([]))))
  [.cells [SV.sl (nat_lit 1), SV.sl (nat_lit 2), SV.sl (nat_lit 3), SV.int .i64 (0 : Int)] (nat_lit 31), .seq kP [] (nat_lit 23), .seq kP [] (nat_lit 23), .seq kP [] (nat_lit 23), .cells [SV.sl (nat_lit 5), SV.sl (nat_lit 6), SV.sl (nat_lit 7), SV.int .i64 (0 : Int)] (nat_lit 31),
    .seq kP [] (nat_lit 23), .seq kP [] (nat_lit 23), .seq kP [] (nat_lit 23)]) lfaces_l1_go) :=
  lEnt_ok E (exec_sound E E_ok (look_right_ok) (lfaces_l0_lps_ok) 400) fun ds Q r h S hS => by
    unfold lfaces_l1_go at h
    obtain ⟨x66, ds, rfl, h1⟩ := dI_inv h
    obtain ⟨x67, ds, rfl, h2⟩ := dB_inv h1
    obtain ⟨x68, ds, rfl, h3⟩ := dI_inv h2
    obtain ⟨x69, ds, rfl, h4⟩ := dI_inv h3
    obtain ⟨x70, ds, rfl, h5⟩ := dL_inv h4
    obtain ⟨x71, ds, rfl, h6⟩ := dL_inv h5
    obtain ⟨x72, ds, rfl, h7⟩ := dL_inv h6
    obtain ⟨x73, ds, rfl, h8⟩ := dI_inv h7
    obtain ⟨x74, ds, rfl, h9⟩ := dL_inv h8
    obtain ⟨x75, ds, rfl, h10⟩ := dL_inv h9
    obtain ⟨x76, ds, rfl, h11⟩ := dL_inv h10
    obtain ⟨rfl, hE⟩ := dE_inv h11
    have e : fillS (St.mk (nn 7 (some (SV.ptr (nat_lit 0) (nat_lit 0)) :: nn 6 (some (SV.ptr (nat_lit 4) (nat_lit 0)) :: none :: some (SV.int .i64 (0 : Int)) :: some (SV.bool false) :: some (SV.int .i64 (0 : Int)) :: nn 114 ([]))))
  [.cells [SV.sl (nat_lit 1), SV.sl (nat_lit 2), SV.sl (nat_lit 3), SV.int .i64 (0 : Int)] (nat_lit 31), .seq kP [] (nat_lit 23), .seq kP [] (nat_lit 23), .seq kP [] (nat_lit 23), .cells [SV.sl (nat_lit 5), SV.sl (nat_lit 6), SV.sl (nat_lit 7), SV.int .i64 (0 : Int)] (nat_lit 31),
    .seq kP [] (nat_lit 23), .seq kP [] (nat_lit 23), .seq kP [] (nat_lit 23)]) [.i x66, .b x67, .i x68, .i x69, .l kP x70, .l kP x71, .l kP x72, .i x73, .l kP x74, .l kP x75, .l kP x76] = some (St.mk (nn 7 (some (SV.ptr (nat_lit 0) (nat_lit 0)) :: nn 6 (some (SV.ptr (nat_lit 4) (nat_lit 0)) :: none :: some (SV.int .i64 x66) :: some (SV.bool x67) :: some (SV.int .i64 x68) :: nn 114 ([]))))
  [.cells [SV.sl (nat_lit 1), SV.sl (nat_lit 2), SV.sl (nat_lit 3), SV.int .i64 x69] (nat_lit 31), .seq kP x70 (nat_lit 23), .seq kP x71 (nat_lit 23), .seq kP x72 (nat_lit 23), .cells [SV.sl (nat_lit 5), SV.sl (nat_lit 6), SV.sl (nat_lit 7), SV.int .i64 x73] (nat_lit 31),
    .seq kP x74 (nat_lit 23), .seq kP x75 (nat_lit 23), .seq kP x76 (nat_lit 23)]) := by kernel_rfl
    rw [e] at hS
    cases hS
    exact ⟨_, (lfaces_l1_iter x66 x69 x70 x71 x72 x73 x74 x75 x76 Q _ x67 x68).trans hE⟩
noncomputable def lfaces_l1_lps {α : Type} : LookL α := addLp 6 [false, true, false, true, false, false, true, false, false, true, false, true, true, true, true, true, true, true, true, true, true, true, true, true] 0 (lEnt (St.mk (nn 7 (some (SV.ptr (nat_lit 0) (nat_lit 0)) :: nn 6 (some (SV.ptr (nat_lit 4) (nat_lit 0)) :: none :: some (SV.int .i64 (0 : Int)) :: some (SV.bool false) :: some (SV.int .i64 (0 : Int)) :: nn 114 ([]))))
  [.cells [SV.sl (nat_lit 1), SV.sl (nat_lit 2), SV.sl (nat_lit 3), SV.int .i64 (0 : Int)] (nat_lit 31), .seq kP [] (nat_lit 23), .seq kP [] (nat_lit 23), .seq kP [] (nat_lit 23), .cells [SV.sl (nat_lit 5), SV.sl (nat_lit 6), SV.sl (nat_lit 7), SV.int .i64 (0 : Int)] (nat_lit 31),
    .seq kP [] (nat_lit 23), .seq kP [] (nat_lit 23), .seq kP [] (nat_lit 23)]) lfaces_l1_go) lfaces_l0_lps
theorem lfaces_l1_lps_ok {α : Type} : LoopsOk E.P (lfaces_l1_lps (α := α)) := addLp_ok lfaces_l1_ok (lfaces_l0_lps_ok)

noncomputable def _root_.Go.Proofs.Ytkjellhkamfciaa.M.lfaces_l2_step {α : Type} (x82 : L3) (x83 : L3) (x84 : L3) (x86 : L3) (x87 : L3) (x88 : L3) (kn : Int → Option α) (k0 : Option α) (k2 : Option α) (x80 : Int) : Option α :=
  if cLt x80 (↑(List.length x83) : Int) = true then M.lfaces_l1 x80 x83 x87 (fun (x89 : Bool) ↦ if (!x89) = true then k0 else kn (IntKind.wrap .i64 (x80 + (1 : Int)))) ((100 : Nat) + List.length x82 + List.length x83 + List.length x84 + List.length x86 + List.length x87 + List.length x88) false (0 : Int) else k2
noncomputable def _root_.Go.Proofs.Ytkjellhkamfciaa.M.lfaces_l2 {α : Type} (x82 : L3) (x83 : L3) (x84 : L3) (x86 : L3) (x87 : L3) (x88 : L3) (k0 : Option α) (k2 : Option α) : Nat → Int → Option α
  | 0, _ => none
  | n + 1, x80 => M.lfaces_l2_step x82 x83 x84 x86 x87 x88 (M.lfaces_l2 x82 x83 x84 x86 x87 x88 k0 k2 n) k0 k2 x80
theorem lfaces_l2_step_eq {α : Type} (x80 : Int) (x81 : Int) (x82 : L3) (x83 : L3) (x84 : L3) (x85 : Int) (x86 : L3) (x87 : L3) (x88 : L3) (Q : Ex → St → Option α) : (loopStep E (exec E look_right lfaces_l1_lps 400) 6 [false, true, false, true, true, true, true, true, true, true, true, true, true, true, true, true] 0 (codeAt E.P 6 [false, true, false, true, true, true, true, true, true, true, true, true, true, true, true, true])) (St.mk (nn 7 (some (SV.ptr (nat_lit 0) (nat_lit 0)) :: nn 6 (some (SV.ptr (nat_lit 4) (nat_lit 0)) :: none :: some (SV.int .i64 x80) :: nn 116 ([]))))
  [.cells [SV.sl (nat_lit 1), SV.sl (nat_lit 2), SV.sl (nat_lit 3), SV.int .i64 x81] (nat_lit 31), .seq kP x82 (nat_lit 23), .seq kP x83 (nat_lit 23), .seq kP x84 (nat_lit 23), .cells [SV.sl (nat_lit 5), SV.sl (nat_lit 6), SV.sl (nat_lit 7), SV.int .i64 x85] (nat_lit 31),
    .seq kP x86 (nat_lit 23), .seq kP x87 (nat_lit 23), .seq kP x88 (nat_lit 23)]) Q = M.lfaces_l2_step x82 x83 x84 x86 x87 x88 (fun (x90 : Int) => Q .normal (St.mk (nn 7 (some (SV.ptr (nat_lit 0) (nat_lit 0)) :: nn 6 (some (SV.ptr (nat_lit 4) (nat_lit 0)) :: none :: some (SV.int .i64 x90) :: nn 116 ([]))))
  [.cells [SV.sl (nat_lit 1), SV.sl (nat_lit 2), SV.sl (nat_lit 3), SV.int .i64 x81] (nat_lit 31), .seq kP x82 (nat_lit 23), .seq kP x83 (nat_lit 23), .seq kP x84 (nat_lit 23), .cells [SV.sl (nat_lit 5), SV.sl (nat_lit 6), SV.sl (nat_lit 7), SV.int .i64 x85] (nat_lit 31),
    .seq kP x86 (nat_lit 23), .seq kP x87 (nat_lit 23), .seq kP x88 (nat_lit 23)])) (Q .ret (St.mk (nn 4 (some (SV.bool false) :: nn 128 ([])))
  [])) (Q (.exit 2) (St.mk (nn 133 ([]))
  [])) x80 := by kernel_rfl
theorem lfaces_l2_iter {α : Type} (x81 : Int) (x82 : L3) (x83 : L3) (x84 : L3) (x85 : Int) (x86 : L3) (x87 : L3) (x88 : L3) (Q : Ex → St → Option α) : ∀ (n : Nat) (x80 : Int), iter (loopStep E (exec E look_right lfaces_l1_lps 400) 6 [false, true, false, true, true, true, true, true, true, true, true, true, true, true, true, true] 0 (codeAt E.P 6 [false, true, false, true, true, true, true, true, true, true, true, true, true, true, true, true])) n (St.mk (nn 7 (some (SV.ptr (nat_lit 0) (nat_lit 0)) :: nn 6 (some (SV.ptr (nat_lit 4) (nat_lit 0)) :: none :: some (SV.int .i64 x80) :: nn 116 ([]))))
  [.cells [SV.sl (nat_lit 1), SV.sl (nat_lit 2), SV.sl (nat_lit 3), SV.int .i64 x81] (nat_lit 31), .seq kP x82 (nat_lit 23), .seq kP x83 (nat_lit 23), .seq kP x84 (nat_lit 23), .cells [SV.sl (nat_lit 5), SV.sl (nat_lit 6), SV.sl (nat_lit 7), SV.int .i64 x85] (nat_lit 31),
    .seq kP x86 (nat_lit 23), .seq kP x87 (nat_lit 23), .seq kP x88 (nat_lit 23)]) Q = M.lfaces_l2 x82 x83 x84 x86 x87 x88 (Q .ret (St.mk (nn 4 (some (SV.bool false) :: nn 128 ([])))
  [])) (Q (.exit 2) (St.mk (nn 133 ([]))
  [])) n x80
  | 0, _ => rfl
  | n + 1, x80 => (lfaces_l2_step_eq x80 x81 x82 x83 x84 x85 x86 x87 x88 (iterK (loopStep E (exec E look_right lfaces_l1_lps 400) 6 [false, true, false, true, true, true, true, true, true, true, true, true, true, true, true, true] 0 (codeAt E.P 6 [false, true, false, true, true, true, true, true, true, true, true, true, true, true, true, true])) n Q)).trans (congrArg (fun kn => M.lfaces_l2_step x82 x83 x84 x86 x87 x88 kn (Q .ret (St.mk (nn 4 (some (SV.bool false) :: nn 128 ([])))
  [])) (Q (.exit 2) (St.mk (nn 133 ([]))
  [])) x80) (funext fun x80 => lfaces_l2_iter x81 x82 x83 x84 x85 x86 x87 x88 Q n x80))
noncomputable def lfaces_l2_go {α : Type} (ds : List D) (Q : Ex → St → Option α) : Option α :=
  dI ds fun x80 ds => dI ds fun x81 ds => dL kP ds fun x82 ds => dL kP ds fun x83 ds => dL kP ds fun x84 ds => dI ds fun x85 ds => dL kP ds fun x86 ds => dL kP ds fun x87 ds => dL kP ds fun x88 ds => dE ds (M.lfaces_l2 x82 x83 x84 x86 x87 x88 (Q .ret (St.mk (nn 4 (some (SV.bool false) :: nn 128 ([])))
  [])) (Q (.exit 2) (St.mk (nn 133 ([]))
  [])) (100 + x82.length + x83.length + x84.length + x86.length + x87.length + x88.length) x80)
theorem lfaces_l2_ok {α : Type} : LoopOk E.P 6 [false, true, false, true, true, true, true, true, true, true, true, true, true, true, true, true] 0 (lEnt (α := α) (St.mk (nn 7 (some (SV.ptr (nat_lit 0) (nat_lit 0)) :: nn 6 (some (SV.ptr (nat_lit 4) (nat_lit 0)) :: none :: some (SV.int .i64 (0 : Int)) :: nn 116 ([]))))
  [.cells [SV.sl (nat_lit 1), SV.sl (nat_lit 2), SV.sl (nat_lit 3), SV.int .i64 (0 : Int)] (nat_lit 31), .seq kP [] (nat_lit 23), .seq kP [] (nat_lit 23), .seq kP [] (nat_lit 23), .cells [SV.sl (nat_lit 5), SV.sl (nat_lit 6), SV.sl (nat_lit 7), SV.int .i64 (0 : Int)] (nat_lit 31),
    .seq kP [] (nat_lit 23), .seq kP [] (nat_lit 23), .seq kP [] (nat_lit 23)]) lfaces_l2_go) :=
  lEnt_ok E (exec_sound E E_ok (look_right_ok) (lfaces_l1_lps_ok) 400) fun ds Q r h S hS => by
    unfold lfaces_l2_go at h
    obtain ⟨x80, ds, rfl, h1⟩ := dI_inv h
    obtain ⟨x81, ds, rfl, h2⟩ := dI_inv h1
    obtain ⟨x82, ds, rfl, h3⟩ := dL_inv h2
    obtain ⟨x83, ds, rfl, h4⟩ := dL_inv h3
    obtain ⟨x84, ds, rfl, h5⟩ := dL_inv h4
    obtain ⟨x85, ds, rfl, h6⟩ := dI_inv h5
    obtain ⟨x86, ds, rfl, h7⟩ := dL_inv h6
    obtain ⟨x87, ds, rfl, h8⟩ := dL_inv h7
    obtain ⟨x88, ds, rfl, h9⟩ := dL_inv h8
    obtain ⟨rfl, hE⟩ := dE_inv h9
    have e : fillS (St.mk (nn 7 (some (SV.ptr (nat_lit 0) (nat_lit 0)) :: nn 6 (some (SV.ptr (nat_lit 4) (nat_lit 0)) :: none :: some (SV.int .i64 (0 : Int)) :: nn 116 ([]))))
  [.cells [SV.sl (nat_lit 1), SV.sl (nat_lit 2), SV.sl (nat_lit 3), SV.int .i64 (0 : Int)] (nat_lit 31), .seq kP [] (nat_lit 23), .seq kP [] (nat_lit 23), .seq kP [] (nat_lit 23), .cells [SV.sl (nat_lit 5), SV.sl (nat_lit 6), SV.sl (nat_lit 7), SV.int .i64 (0 : Int)] (nat_lit 31),
    .seq kP [] (nat_lit 23), .seq kP [] (nat_lit 23), .seq kP [] (nat_lit 23)]) [.i x80, .i x81, .l kP x82, .l kP x83, .l kP x84, .i x85, .l kP x86, .l kP x87, .l kP x88] = some (St.mk (nn 7 (some (SV.ptr (nat_lit 0) (nat_lit 0)) :: nn 6 (some (SV.ptr (nat_lit 4) (nat_lit 0)) :: none :: some (SV.int .i64 x80) :: nn 116 ([]))))
  [.cells [SV.sl (nat_lit 1), SV.sl (nat_lit 2), SV.sl (nat_lit 3), SV.int .i64 x81] (nat_lit 31), .seq kP x82 (nat_lit 23), .seq kP x83 (nat_lit 23), .seq kP x84 (nat_lit 23), .cells [SV.sl (nat_lit 5), SV.sl (nat_lit 6), SV.sl (nat_lit 7), SV.int .i64 x85] (nat_lit 31),
    .seq kP x86 (nat_lit 23), .seq kP x87 (nat_lit 23), .seq kP x88 (nat_lit 23)]) := by kernel_rfl
    rw [e] at hS
    cases hS
    exact ⟨_, (lfaces_l2_iter x81 x82 x83 x84 x85 x86 x87 x88 Q _ x80).trans hE⟩
noncomputable def lfaces_l2_lps {α : Type} : LookL α := addLp 6 [false, true, false, true, true, true, true, true, true, true, true, true, true, true, true, true] 0 (lEnt (St.mk (nn 7 (some (SV.ptr (nat_lit 0) (nat_lit 0)) :: nn 6 (some (SV.ptr (nat_lit 4) (nat_lit 0)) :: none :: some (SV.int .i64 (0 : Int)) :: nn 116 ([]))))
  [.cells [SV.sl (nat_lit 1), SV.sl (nat_lit 2), SV.sl (nat_lit 3), SV.int .i64 (0 : Int)] (nat_lit 31), .seq kP [] (nat_lit 23), .seq kP [] (nat_lit 23), .seq kP [] (nat_lit 23), .cells [SV.sl (nat_lit 5), SV.sl (nat_lit 6), SV.sl (nat_lit 7), SV.int .i64 (0 : Int)] (nat_lit 31),
    .seq kP [] (nat_lit 23), .seq kP [] (nat_lit 23), .seq kP [] (nat_lit 23)]) lfaces_l2_go) lfaces_l1_lps
theorem lfaces_l2_lps_ok {α : Type} : LoopsOk E.P (lfaces_l2_lps (α := α)) := addLp_ok lfaces_l2_ok (lfaces_l1_lps_ok)

noncomputable def _root_.Go.Proofs.Ytkjellhkamfciaa.M.lfaces {α : Type} (k : Int) (r : Int) (hx : Int) (hy : Int) (hz : Int) (l : L3) (raw : List Int) (k0 : Bool → Option α) : Option α :=
  if V.rgG (3 : Int) r hx hy hz l = true then
  if (!cEq (V.rgK (3 : Int) r hx hy hz l) (4 : Int)) = true then k0 true
  else
    if (!cEq (V.chk (V.rgK (3 : Int) r hx hy hz l) (V.rgR r) (V.rgH hx) (V.rgH hy) (V.rgH hz) (V.rgP (3 : Int) r hx hy hz l)) (0 : Int)) = true then k0 false
    else
      if cLt (↑(List.length (V.corA (V.rgK (3 : Int) r hx hy hz l) (V.rgR r) (V.rgH hx) (V.rgH hy) (V.rgH hz) (V.rgP (3 : Int) r hx hy hz l))) : Int) (2 : Int) = true then k0 false
      else
        if List.length (V.rgP (3 : Int) r hx hy hz l) * (24 : Nat) ≤ (140737488355328 : Nat) then
          M.lfaces_l0 raw
            (fun (x93 : L3) ↦
              if (!cEq (V.chk (V.rgK (3 : Int) r hx hy hz l) (V.rgR r) (V.rgH hx) (V.rgH hy) (V.rgH hz) x93) (0 : Int)) = true then k0 false
              else
                if (!cEq (↑(List.length (V.corA (V.rgK (3 : Int) r hx hy hz l) (V.rgR r) (V.rgH hx) (V.rgH hy) (V.rgH hz) x93)) : Int) (↑(List.length (V.corA (V.rgK (3 : Int) r hx hy hz l) (V.rgR r) (V.rgH hx) (V.rgH hy) (V.rgH hz) (V.rgP (3 : Int) r hx hy hz l))) : Int)) = true then k0 false
                else
                  M.lfaces_l2 (V.corP (V.rgK (3 : Int) r hx hy hz l) (V.rgR r) (V.rgH hx) (V.rgH hy) (V.rgH hz) (V.rgP (3 : Int) r hx hy hz l)) (V.corA (V.rgK (3 : Int) r hx hy hz l) (V.rgR r) (V.rgH hx) (V.rgH hy) (V.rgH hz) (V.rgP (3 : Int) r hx hy hz l)) (V.corE (V.rgK (3 : Int) r hx hy hz l) (V.rgR r) (V.rgH hx) (V.rgH hy) (V.rgH hz) (V.rgP (3 : Int) r hx hy hz l)) (V.corP (V.rgK (3 : Int) r hx hy hz l) (V.rgR r) (V.rgH hx) (V.rgH hy) (V.rgH hz) x93)
                    (V.corA (V.rgK (3 : Int) r hx hy hz l) (V.rgR r) (V.rgH hx) (V.rgH hy) (V.rgH hz) x93) (V.corE (V.rgK (3 : Int) r hx hy hz l) (V.rgR r) (V.rgH hx) (V.rgH hy) (V.rgH hz) x93) (k0 false) (k0 true)
                    ((100 : Nat) + List.length (V.corP (V.rgK (3 : Int) r hx hy hz l) (V.rgR r) (V.rgH hx) (V.rgH hy) (V.rgH hz) (V.rgP (3 : Int) r hx hy hz l)) + List.length (V.corA (V.rgK (3 : Int) r hx hy hz l) (V.rgR r) (V.rgH hx) (V.rgH hy) (V.rgH hz) (V.rgP (3 : Int) r hx hy hz l)) + List.length (V.corE (V.rgK (3 : Int) r hx hy hz l) (V.rgR r) (V.rgH hx) (V.rgH hy) (V.rgH hz) (V.rgP (3 : Int) r hx hy hz l)) +
                          List.length (V.corP (V.rgK (3 : Int) r hx hy hz l) (V.rgR r) (V.rgH hx) (V.rgH hy) (V.rgH hz) x93) +
                        List.length (V.corA (V.rgK (3 : Int) r hx hy hz l) (V.rgR r) (V.rgH hx) (V.rgH hy) (V.rgH hz) x93) +
                      List.length (V.corE (V.rgK (3 : Int) r hx hy hz l) (V.rgR r) (V.rgH hx) (V.rgH hy) (V.rgH hz) x93))
                    (0 : Int))
            ((100 : Nat) + List.length raw + List.length (V.corP (V.rgK (3 : Int) r hx hy hz l) (V.rgR r) (V.rgH hx) (V.rgH hy) (V.rgH hz) (V.rgP (3 : Int) r hx hy hz l)) + List.length (V.corA (V.rgK (3 : Int) r hx hy hz l) (V.rgR r) (V.rgH hx) (V.rgH hy) (V.rgH hz) (V.rgP (3 : Int) r hx hy hz l)) + List.length (V.corE (V.rgK (3 : Int) r hx hy hz l) (V.rgR r) (V.rgH hx) (V.rgH hy) (V.rgH hz) (V.rgP (3 : Int) r hx hy hz l)) + (0 : Nat) + List.length (V.rgP (3 : Int) r hx hy hz l)) (0 : Int) []
            (V.rgP (3 : Int) r hx hy hz l)
        else none
else none
theorem lfaces_eq {α : Type} (k : Int) (r : Int) (hx : Int) (hy : Int) (hz : Int) (l : L3) (raw : List Int) (v91 : Value) (v92 : Value) (Q : SV → Hp → Option α) : callI E look_right (exec E look_right lfaces_l2_lps 400) 6 ([SV.agg [SV.int .i64 k, SV.int .i64 r, SV.int .i64 hx, SV.int .i64 hy, SV.int .i64 hz, SV.ros v91 kP l], SV.ros v92 (K.int IntKind.i64) raw]) ([]) Q = M.lfaces k r hx hy hz l raw (fun (x94 : Bool) => Q (SV.bool x94) ([])) := by kernel_rfl
def lfaces_sp : List AS := [.st [.leaf (.int .i64 0), .leaf (.int .i64 0), .leaf (.int .i64 0), .leaf (.int .i64 0), .leaf (.int .i64 0), .ro kP], .ro (.int .i64)]
theorem rest_perm (P R : List P3) (q : Nat) (hq : q < R.length) : (P ++ R).Perm ((P ++ [pt R q]) ++ (R.take q ++ R.drop (q + 1))) := by
  have e : R = R.take q ++ pt R q :: R.drop (q + 1) := by rw [← drop_pt R q hq, List.take_append_drop]
  have h1 : R.Perm (pt R q :: (R.take q ++ R.drop (q + 1))) := by
    conv => lhs; rw [e]
    exact List.perm_middle
  have h2 := List.Perm.append_left P h1
  rw [List.append_assoc]
  exact h2
theorem faces_l0_val {α : Type} (raw : List Int) (hr : raw.length < 9223372036854775808) (hw : ∀ x ∈ raw, Rr x) (k1 : List P3 → Option α) : ∀ (m fuel i : Nat) (P R : List P3), R.length = m → P.length + R.length ≤ 12 → m < fuel → i + m ≤ 1000 →
    ∃ T : List P3, (P ++ R).Perm T ∧ M.lfaces_l0 raw k1 fuel (i : Int) P R = k1 T
  | 0, 0, i, P, R, h1, h2, h3, h4 => by omega
  | 0, f + 1, i, P, R, h1, h2, h3, h4 => by
    have : R = [] := List.eq_nil_of_length_eq_zero h1
    subst this
    refine ⟨P, by simp, ?_⟩
    unfold M.lfaces_l0 M.lfaces_l0_step
    rw [if_neg (by rw [cLt_eq]; simp)]
  | m + 1, 0, i, P, R, h1, h2, h3, h4 => by omega
  | m + 1, f + 1, i, P, R, h1, h2, h3, h4 => by
    -- which one is taken
    have step : ∀ q : Nat, q < R.length → ∃ T : List P3, (P ++ R).Perm T ∧ M.lfaces_l0 raw k1 f ((i + 1 : Nat) : Int) (P ++ [pt R q]) (R.take q ++ R.drop (q + 1)) = k1 T := by
      intro q hq
      obtain ⟨T, t1, t2⟩ := faces_l0_val raw hr hw k1 m f (i + 1) (P ++ [pt R q]) (R.take q ++ R.drop (q + 1)) (by rw [List.length_append, List.length_take, List.length_drop]; omega) (by rw [List.length_append, List.length_append, List.length_take, List.length_drop, List.length_singleton]; omega) (by omega) (by omega)
      exact ⟨T, (rest_perm P R q hq).trans t1, t2⟩
    have hlR : cLt (0 : Int) (R.length : Int) = true := by rw [cLt_eq]; simp; omega
    unfold M.lfaces_l0 M.lfaces_l0_step
    rw [if_pos hlR, w_next (by omega)]
    by_cases hraw : 0 < raw.length
    · rw [if_pos (by rw [cLt_eq]; simpa using hraw), if_neg (by omega : ¬ (raw.length : Int) = 0)]
      have e1 : Int.tmod (i : Int) (raw.length : Int) = ((i % raw.length : Nat) : Int) := rfl
      have e2 := Nat.mod_lt i hraw
      rw [e1, if_pos (by omega : (0 : Int) ≤ ((i % raw.length : Nat) : Int) ∧ ((i % raw.length : Nat) : Int) < (raw.length : Int)), toNat_nat]
      have hx : Rr (raw.getD (i % raw.length) 0) := by
        apply hw
        rw [List.getD_eq_getElem?_getD, List.getElem?_eq_getElem e2]
        exact List.getElem_mem e2
      obtain ⟨p1, p2, p3⟩ := pick_val (n := (R.length : Int)) hx (by omega)
      generalize hq : V.lpick_r0 (raw.getD (i % raw.length) 0) (R.length : Int) = Q at *
      obtain ⟨q, rfl⟩ : ∃ q : Nat, Q = (q : Int) := ⟨Q.toNat, by omega⟩
      have hql : q < R.length := by omega
      have ht : List.take (Int.toNat ((q : Int) - 0)) (List.drop 0 R) = R.take q := by rw [Int.sub_zero, toNat_nat, List.drop_zero]
      have hd : List.take (Int.toNat ((R.length : Int) - ((q + 1 : Nat) : Int))) (List.drop (Int.toNat ((q + 1 : Nat) : Int)) R) = R.drop (q + 1) := by
        rw [toNat_nat]; exact List.take_of_length_le (by rw [List.length_drop]; omega)
      rw [if_pos p1, if_pos (by omega : (0 : Int) ≤ (q : Int) ∧ (q : Int) < (R.length : Int)), if_pos (by omega : (P.length + (0 + 1)) * 24 ≤ 140737488355328), if_pos (by omega : (0 : Int) ≤ 0 ∧ (0 : Int) ≤ (q : Int) ∧ (q : Int) ≤ (R.length : Int)), w_next (by omega), ht, hd, toNat_nat,
        if_pos (by rw [List.length_take]; omega), if_pos (by omega : (0 : Int) ≤ ((q + 1 : Nat) : Int) ∧ ((q + 1 : Nat) : Int) ≤ (R.length : Int) ∧ (R.length : Int) ≤ (R.length : Int)), if_pos (by rw [List.nil_append, List.length_take, List.length_drop]; omega), List.nil_append]
      exact step q hql
    · have h0 : raw.length = 0 := by omega
      rw [if_neg (by rw [cLt_eq, h0]; decide)]
      have hR : 0 < R.length := by omega
      have hd : List.take (Int.toNat ((R.length : Int) - 1)) (List.drop 1 R) = R.drop 1 := List.take_of_length_le (by rw [List.length_drop]; omega)
      have ht0 : List.take (Int.toNat ((0 : Int) - 0)) (List.drop 0 R) = [] := by simp
      have s0 := step 0 hR
      simp only [List.take_zero, List.nil_append, Nat.zero_add] at s0
      rw [if_pos (by omega : (0 : Int) ≤ 0 ∧ (0 : Int) < (R.length : Int)), if_pos (by omega : (P.length + (0 + 1)) * 24 ≤ 140737488355328), if_pos (by omega : (0 : Int) ≤ 1 ∧ (1 : Int) ≤ (R.length : Int) ∧ (R.length : Int) ≤ (R.length : Int)), ht0, hd, List.nil_append, if_pos (by rw [List.length_drop, List.length_nil]; omega)]
      exact s0
theorem faces_l1_val {α : Type} (A B : List P3) (i : Nat) (hi : i < A.length) (hB : B.length < 1000000) (k1 : Bool → Option α) : ∀ (fuel j : Nat) (b : Bool), j ≤ B.length → B.length - j < fuel →
    M.lfaces_l1 (i : Int) A B k1 fuel b (j : Int) = k1 (b || decide (pt A i ∈ B.drop j))
  | 0, j, b, h1, h2 => by omega
  | f + 1, j, b, h1, h2 => by
    unfold M.lfaces_l1 M.lfaces_l1_step
    rw [cLt_nat]
    by_cases hj : j < B.length
    · rw [if_pos (by simpa using hj), w_next (by omega)]
      cases b with
      | true => rw [if_pos rfl, faces_l1_val A B i hi hB k1 f (j + 1) true (by omega) (by omega)]; rfl
      | false =>
        have a1 : (0 : Int) ≤ (j : Int) ∧ (j : Int) < (B.length : Int) := by omega
        have a2 : (0 : Int) ≤ (i : Int) ∧ (i : Int) < (A.length : Int) := by omega
        rw [if_neg (by decide), if_pos a1, if_pos a2, eq3, faces_l1_val A B i hi hB k1 f (j + 1) _ (by omega) (by omega), drop_pt B j hj]
        congr 1
        rw [Bool.eq_iff_iff]
        simp only [Bool.or_eq_true, decide_eq_true_eq, Bool.false_or, List.mem_cons]
        exact ⟨fun h => h.elim (fun h => .inl h.symm) .inr, fun h => h.elim (fun h => .inl h.symm) .inr⟩
    · have : j = B.length := by omega
      subst this
      rw [if_neg (by simp)]
      simp
theorem faces_l2_val {α : Type} (A B C D E' F' : List P3) (hA : B.length < 1000000) (hB : E'.length < 1000000) (h : ∀ a ∈ B, a ∈ E') (k0 k2 : Option α) : ∀ (fuel i : Nat), i ≤ B.length → B.length - i < fuel →
    M.lfaces_l2 A B C D E' F' k0 k2 fuel (i : Int) = k2
  | 0, i, h1, h2 => by omega
  | f + 1, i, h1, h2 => by
    unfold M.lfaces_l2 M.lfaces_l2_step
    rw [cLt_nat]
    by_cases hi : i < B.length
    · rw [if_pos (by simpa using hi), w_next (by omega)]
      have := faces_l1_val B E' i hi hB (fun (x89 : Bool) => if (!x89) = true then k0 else M.lfaces_l2 A B C D E' F' k0 k2 f ((i + 1 : Nat) : Int)) (100 + A.length + B.length + C.length + D.length + E'.length + F'.length) 0 false (by omega) (by omega)
      refine Eq.trans this ?_
      rw [List.drop_zero, decide_eq_true (h _ (pt_mem B i hi))]
      exact faces_l2_val A B C D E' F' hA hB h k0 k2 f (i + 1) (by omega) (by omega)
    · have : i = B.length := by omega
      subst this
      rw [if_neg (by simp)]
theorem lfaces_v {α : Type} (k r hx hy hz : Int) (l : List P3) (raw : List Int) (hg : (-9223372036854775808 ≤ k ∧ k < 9223372036854775808) ∧ (-9223372036854775808 ≤ r ∧ r < 9223372036854775808) ∧ (-9223372036854775808 ≤ hx ∧ hx < 9223372036854775808) ∧ (-9223372036854775808 ≤ hy ∧ hy < 9223372036854775808) ∧ (-9223372036854775808 ≤ hz ∧ hz < 9223372036854775808) ∧ (l.length < 9223372036854775808 ∧ ∀ x ∈ l, (RT.good (.i .i64) [.i .i64, .i .i64]) x) ∧ (raw.length < 9223372036854775808 ∧ ∀ x ∈ raw, (fun x => -9223372036854775808 ≤ x ∧ x < 9223372036854775808) x)) (k0 : Bool → Option α) : M.lfaces k r hx hy hz l raw k0 = k0 true := by
  obtain ⟨g1, g2, g3, g4, g5, ⟨gl, gp⟩, gr, gw⟩ := hg
  have q3 : Rr 3 := by unfold Rr; omega
  unfold M.lfaces
  have hG : V.rgG 3 r hx hy hz l = true := gB_of ⟨⟨q3, g2, g3, g4, g5⟩, gl, fun p hp => good_rp (gp p hp)⟩
  have ok := right_ok (l := l) q3 g2 g3 g4 g5
  have hP := rgPP_len 3 r hx hy hz l
  rw [if_pos hG]
  simp only [V.rgK, V.rgR, V.rgH, V.rgP, V.chk, hid_eq]
  by_cases h4 : rgKP 3 r hx hy hz l = 4
  · rw [h4] at ok ⊢
    rw [if_neg (by rw [cEq_eq]; decide), ok, if_neg (by rw [cEq_eq]; decide)]
    generalize rgPP 3 r hx hy hz l = P at *
    rcases chk_range ok with ⟨h, _⟩ | ⟨h, _⟩ | ⟨h, _⟩ | ⟨_, _, h2, h3, h5⟩
    · cases h
    · cases h
    · cases h
    have hpts := pts_of h3
    have hc : ¬ Copl P := by rw [← flatP_iff, h5]; decide
    have h2a := two_axes hpts hc (by omega)
    have eA : ∀ T : List P3, chkP 4 (rad r) (hlf hx) (hlf hy) (hlf hz) T = 0 → V.corA 4 (rad r) (hlf hx) (hlf hy) (hlf hz) T = (facesP T).1 := by
      intro T hT
      unfold V.corA
      rw [hid_eq, if_pos hT]
      unfold corAP
      rw [if_neg (by decide), if_pos rfl]
    rw [eA P ok, if_neg (by rw [cLt_eq]; simp; omega), if_pos (by omega : P.length * 24 ≤ 140737488355328)]
    obtain ⟨T, t1, t2⟩ := faces_l0_val raw gr gw (fun (x93 : List P3) => if (!cEq (chkP 4 (rad r) (hlf hx) (hlf hy) (hlf hz) x93) 0) = true then k0 false
        else if (!cEq ((V.corA 4 (rad r) (hlf hx) (hlf hy) (hlf hz) x93).length : Int) ((facesP P).1.length : Int)) = true then k0 false
        else M.lfaces_l2 (V.corP 4 (rad r) (hlf hx) (hlf hy) (hlf hz) P) (facesP P).1 (V.corE 4 (rad r) (hlf hx) (hlf hy) (hlf hz) P) (V.corP 4 (rad r) (hlf hx) (hlf hy) (hlf hz) x93) (V.corA 4 (rad r) (hlf hx) (hlf hy) (hlf hz) x93) (V.corE 4 (rad r) (hlf hx) (hlf hy) (hlf hz) x93) (k0 false) (k0 true)
          (100 + (V.corP 4 (rad r) (hlf hx) (hlf hy) (hlf hz) P).length + (facesP P).1.length + (V.corE 4 (rad r) (hlf hx) (hlf hy) (hlf hz) P).length + (V.corP 4 (rad r) (hlf hx) (hlf hy) (hlf hz) x93).length + (V.corA 4 (rad r) (hlf hx) (hlf hy) (hlf hz) x93).length + (V.corE 4 (rad r) (hlf hx) (hlf hy) (hlf hz) x93).length) 0)
      P.length (100 + raw.length + (V.corP 4 (rad r) (hlf hx) (hlf hy) (hlf hz) P).length + (facesP P).1.length + (V.corE 4 (rad r) (hlf hx) (hlf hy) (hlf hz) P).length + 0 + P.length) 0 [] P rfl (by simp; omega) (by omega) (by omega)
    refine Eq.trans t2 ?_
    rw [List.nil_append] at t1
    have okT : chkP 4 (rad r) (hlf hx) (hlf hy) (hlf hz) T = 0 := by rw [← chk_perm t1]; exact ok
    have hptsT : Pts T := ⟨fun p hp => hpts.sm p (t1.mem_iff.2 hp), t1.nodup_iff.1 hpts.nd⟩
    have hmem := faces_mem hpts hptsT (fun p => t1.mem_iff) hc
    have n1 := (faces_tidy hpts).1
    have n2 := (faces_tidy hptsT).1
    have hlen : (facesP T).1.length = (facesP P).1.length := Nat.le_antisymm (nodup_le n2 fun a ha => (hmem a).2 ha) (nodup_le n1 fun a ha => (hmem a).1 ha)
    have fl := faces_len (l := P) h2.2
    rw [okT, if_neg (by rw [cEq_eq]; decide), eA T okT, hlen, if_neg (by rw [cEq_eq]; simp)]
    exact faces_l2_val _ _ _ _ _ _ (by omega) (by rw [hlen]; omega) (fun a ha => (hmem a).1 ha) _ _ _ 0 (by omega) (by omega)
  · rw [if_pos (by rw [cEq_eq]; simpa using h4)]
noncomputable def lfaces_h {α : Type} (ds : List D) (Q : SV → Hp → Option α) : Option α :=
  dI ds fun k ds => dI ds fun r ds => dI ds fun hx ds => dI ds fun hy ds => dI ds fun hz ds => dL kP ds fun l ds => dL (K.int IntKind.i64) ds fun raw ds => dE ds (if V.gB ((-9223372036854775808 ≤ k ∧ k < 9223372036854775808) ∧ (-9223372036854775808 ≤ r ∧ r < 9223372036854775808) ∧ (-9223372036854775808 ≤ hx ∧ hx < 9223372036854775808) ∧ (-9223372036854775808 ≤ hy ∧ hy < 9223372036854775808) ∧ (-9223372036854775808 ≤ hz ∧ hz < 9223372036854775808) ∧ (l.length < 9223372036854775808 ∧ ∀ x ∈ l, (RT.good (.i .i64) [.i .i64, .i .i64]) x) ∧ (raw.length < 9223372036854775808 ∧ ∀ x ∈ raw, (fun x => -9223372036854775808 ≤ x ∧ x < 9223372036854775808) x)) = true then Q (.bool true) ([]) else none)
theorem lfaces_h_ok {α : Type} : FnOk E.P 6 (fEnt (α := α) lfaces_sp lfaces_h) :=
  fEntR_ok E (look_right_ok) (exec_sound E E_ok (look_right_ok) (lfaces_l2_lps_ok) 400) fun ds Q r h => by
    unfold lfaces_h at h
    obtain ⟨k, ds, rfl, h1⟩ := dI_inv h
    obtain ⟨r, ds, rfl, h2⟩ := dI_inv h1
    obtain ⟨hx, ds, rfl, h3⟩ := dI_inv h2
    obtain ⟨hy, ds, rfl, h4⟩ := dI_inv h3
    obtain ⟨hz, ds, rfl, h5⟩ := dI_inv h4
    obtain ⟨l, ds, rfl, h6⟩ := dL_inv h5
    obtain ⟨raw, ds, rfl, h7⟩ := dL_inv h6
    obtain ⟨rfl, hE⟩ := dE_inv h7
    split at hE
    · rename_i hg
      exact ⟨_, _, hE, fun vs => ⟨_, _, by kernel_rfl, (lfaces_eq k r hx hy hz l raw ((cellsV (vs.headD undef)).tail.tail.tail.tail.tail.headD undef) (vs.tail.headD undef) _).trans (lfaces_v k r hx hy hz l raw (gB_iff hg) _)⟩⟩
    · cases hE
end Go.Proofs.Ytkjellhkamfciaa.Sx
