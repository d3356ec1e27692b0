/- shape: raw shapes made right. -/
import Derived.Test.YtkjellhkamfciaaSrC
import Derived.Test.YtkjellhkamfciaaShR
import Derived.Test.YtkjellhkamfciaaSxLaw
namespace Go.Proofs.Ytkjellhkamfciaa.Sx
open Go
set_option maxRecDepth 20000
set_option linter.unusedVariables false
set_option linter.unusedSimpArgs false
noncomputable def _root_.Go.Proofs.Ytkjellhkamfciaa.M.right_l0_step {α : Type} (x28 : L3) (kn : Int → L3 → Option α) (k1 : L3 → Option α) (x21 : Int) (x40 : L3) : Option α :=
  if cLt x21 (↑(List.length x28) : Int) = true then
  if cLt x21 (12 : Int) = true then
    if (0 : Int) ≤ x21 ∧ x21 < (↑(List.length x28) : Int) then
      if V.lpart_g (Prod.fst (List.getD x28 (Int.toNat x21) ((0 : Int), (0 : Int), (0 : Int)))) (65536 : Int) = true then
        if V.lpart_g (Prod.fst (Prod.snd (List.getD x28 (Int.toNat x21) ((0 : Int), (0 : Int), (0 : Int))))) (65536 : Int) = true then
          if V.lpart_g (Prod.snd (Prod.snd (List.getD x28 (Int.toNat x21) ((0 : Int), (0 : Int), (0 : Int))))) (65536 : Int) = true then
            if (List.length x40 + ((0 : Nat) + (1 : Nat))) * (24 : Nat) ≤ (140737488355328 : Nat) then kn (IntKind.wrap .i64 (x21 + (1 : Int))) (x40 ++ [(V.lpart_r0 (Prod.fst (List.getD x28 (Int.toNat x21) ((0 : Int), (0 : Int), (0 : Int)))) (65536 : Int), V.lpart_r0 (Prod.fst (Prod.snd (List.getD x28 (Int.toNat x21) ((0 : Int), (0 : Int), (0 : Int))))) (65536 : Int), V.lpart_r0 (Prod.snd (Prod.snd (List.getD x28 (Int.toNat x21) ((0 : Int), (0 : Int), (0 : Int))))) (65536 : Int))])
            else none
          else none
        else none
      else none
    else none
  else k1 x40
else k1 x40
noncomputable def _root_.Go.Proofs.Ytkjellhkamfciaa.M.right_l0 {α : Type} (x28 : L3) (k1 : L3 → Option α) : Nat → Int → L3 → Option α
  | 0, _, _ => none
  | n + 1, x21, x40 => M.right_l0_step x28 (M.right_l0 x28 k1 n) k1 x21 x40
theorem right_l0_step_eq {α : Type} (x21 : Int) (x22 : Int) (x23 : Int) (x24 : Int) (x25 : Int) (x26 : Int) (x27 : Value) (x28 : L3) (x29 : Int) (x30 : Int) (x31 : Int) (x32 : Int) (x33 : Int) (x34 : L3) (x35 : Int) (x36 : Int) (x37 : Int) (x38 : Int) (x39 : Int) (x40 : L3) (Q : Ex → St → Option α) : (loopStep E (exec E look_dcheck noLps 400) 19 [false, true, false, false, true, false, true, true, true] 0 (codeAt E.P 19 [false, true, false, false, true, false, true, true, true])) (St.mk (none :: some (SV.ptr (nat_lit 0) (nat_lit 0)) :: some (SV.ptr (nat_lit 1) (nat_lit 0)) :: some (SV.ptr (nat_lit 3) (nat_lit 0)) :: some (SV.int .i64 x21) :: nn 67 ([]))
  [.cells [SV.int .i64 x22, SV.int .i64 x23, SV.int .i64 x24, SV.int .i64 x25, SV.int .i64 x26, SV.ros x27 kP x28] (nat_lit 42), .cells [SV.int .i64 x29, SV.int .i64 x30, SV.int .i64 x31, SV.int .i64 x32, SV.int .i64 x33, SV.sl (nat_lit 2)] (nat_lit 26), .seq kP x34 (nat_lit 23),
    .cells [SV.int .i64 x35, SV.int .i64 x36, SV.int .i64 x37, SV.int .i64 x38, SV.int .i64 x39, SV.sl (nat_lit 4)] (nat_lit 26), .seq kP x40 (nat_lit 23)]) Q = M.right_l0_step x28 (fun (x42 : Int) (x43 : L3) => Q .normal (St.mk (none :: some (SV.ptr (nat_lit 0) (nat_lit 0)) :: some (SV.ptr (nat_lit 1) (nat_lit 0)) :: some (SV.ptr (nat_lit 3) (nat_lit 0)) :: some (SV.int .i64 x42) :: nn 67 ([]))
  [.cells [SV.int .i64 x22, SV.int .i64 x23, SV.int .i64 x24, SV.int .i64 x25, SV.int .i64 x26, SV.ros x27 kP x28] (nat_lit 42), .cells [SV.int .i64 x29, SV.int .i64 x30, SV.int .i64 x31, SV.int .i64 x32, SV.int .i64 x33, SV.sl (nat_lit 2)] (nat_lit 26), .seq kP x34 (nat_lit 23),
    .cells [SV.int .i64 x35, SV.int .i64 x36, SV.int .i64 x37, SV.int .i64 x38, SV.int .i64 x39, SV.sl (nat_lit 4)] (nat_lit 26), .seq kP x43 (nat_lit 23)])) (fun (x41 : L3) => Q (.exit 0) (St.mk (none :: none :: some (SV.ptr (nat_lit 0) (nat_lit 0)) :: some (SV.ptr (nat_lit 2) (nat_lit 0)) :: nn 68 ([]))
  [.cells [SV.int .i64 x29, SV.int .i64 x30, SV.int .i64 x31, SV.int .i64 x32, SV.int .i64 x33, SV.sl (nat_lit 1)] (nat_lit 26), .seq kP x34 (nat_lit 23), .cells [SV.int .i64 x35, SV.int .i64 x36, SV.int .i64 x37, SV.int .i64 x38, SV.int .i64 x39, SV.sl (nat_lit 3)] (nat_lit 26),
    .seq kP x41 (nat_lit 23)])) x21 x40 := by kernel_rfl
theorem right_l0_iter {α : Type} (x22 : Int) (x23 : Int) (x24 : Int) (x25 : Int) (x26 : Int) (x27 : Value) (x28 : L3) (x29 : Int) (x30 : Int) (x31 : Int) (x32 : Int) (x33 : Int) (x34 : L3) (x35 : Int) (x36 : Int) (x37 : Int) (x38 : Int) (x39 : Int) (Q : Ex → St → Option α) : ∀ (n : Nat) (x21 : Int) (x40 : L3), iter (loopStep E (exec E look_dcheck noLps 400) 19 [false, true, false, false, true, false, true, true, true] 0 (codeAt E.P 19 [false, true, false, false, true, false, true, true, true])) n (St.mk (none :: some (SV.ptr (nat_lit 0) (nat_lit 0)) :: some (SV.ptr (nat_lit 1) (nat_lit 0)) :: some (SV.ptr (nat_lit 3) (nat_lit 0)) :: some (SV.int .i64 x21) :: nn 67 ([]))
  [.cells [SV.int .i64 x22, SV.int .i64 x23, SV.int .i64 x24, SV.int .i64 x25, SV.int .i64 x26, SV.ros x27 kP x28] (nat_lit 42), .cells [SV.int .i64 x29, SV.int .i64 x30, SV.int .i64 x31, SV.int .i64 x32, SV.int .i64 x33, SV.sl (nat_lit 2)] (nat_lit 26), .seq kP x34 (nat_lit 23),
    .cells [SV.int .i64 x35, SV.int .i64 x36, SV.int .i64 x37, SV.int .i64 x38, SV.int .i64 x39, SV.sl (nat_lit 4)] (nat_lit 26), .seq kP x40 (nat_lit 23)]) Q = M.right_l0 x28 (fun (x41 : L3) => Q (.exit 0) (St.mk (none :: none :: some (SV.ptr (nat_lit 0) (nat_lit 0)) :: some (SV.ptr (nat_lit 2) (nat_lit 0)) :: nn 68 ([]))
  [.cells [SV.int .i64 x29, SV.int .i64 x30, SV.int .i64 x31, SV.int .i64 x32, SV.int .i64 x33, SV.sl (nat_lit 1)] (nat_lit 26), .seq kP x34 (nat_lit 23), .cells [SV.int .i64 x35, SV.int .i64 x36, SV.int .i64 x37, SV.int .i64 x38, SV.int .i64 x39, SV.sl (nat_lit 3)] (nat_lit 26),
    .seq kP x41 (nat_lit 23)])) n x21 x40
  | 0, _, _ => rfl
  | n + 1, x21, x40 => (right_l0_step_eq x21 x22 x23 x24 x25 x26 x27 x28 x29 x30 x31 x32 x33 x34 x35 x36 x37 x38 x39 x40 (iterK (loopStep E (exec E look_dcheck noLps 400) 19 [false, true, false, false, true, false, true, true, true] 0 (codeAt E.P 19 [false, true, false, false, true, false, true, true, true])) n Q)).trans (congrArg (fun kn => M.right_l0_step x28 kn (fun (x41 : L3) => Q (.exit 0) (St.mk (none :: none :: some (SV.ptr (nat_lit 0) (nat_lit 0)) :: some (SV.ptr (nat_lit 2) (nat_lit 0)) :: nn 68 ([]))
  [.cells [SV.int .i64 x29, SV.int .i64 x30, SV.int .i64 x31, SV.int .i64 x32, SV.int .i64 x33, SV.sl (nat_lit 1)] (nat_lit 26), .seq kP x34 (nat_lit 23), .cells [SV.int .i64 x35, SV.int .i64 x36, SV.int .i64 x37, SV.int .i64 x38, SV.int .i64 x39, SV.sl (nat_lit 3)] (nat_lit 26),
    .seq kP x41 (nat_lit 23)])) x21 x40) (funext fun x21 => funext fun x40 => right_l0_iter x22 x23 x24 x25 x26 x27 x28 x29 x30 x31 x32 x33 x34 x35 x36 x37 x38 x39 Q n x21 x40))
noncomputable def right_l0_go {α : Type} (ds : List D) (Q : Ex → St → Option α) : Option α :=
  dI ds fun x21 ds => dI ds fun x22 ds => dI ds fun x23 ds => dI ds fun x24 ds => dI ds fun x25 ds => dI ds fun x26 ds => dV ds fun x27 ds => dL kP ds fun x28 ds => dI ds fun x29 ds => dI ds fun x30 ds => dI ds fun x31 ds => dI ds fun x32 ds => dI ds fun x33 ds => dL kP ds fun x34 ds => dI ds fun x35 ds => dI ds fun x36 ds => dI ds fun x37 ds => dI ds fun x38 ds => dI ds fun x39 ds => dL kP ds fun x40 ds => dE ds (M.right_l0 x28 (fun (x41 : L3) => Q (.exit 0) (St.mk (none :: none :: some (SV.ptr (nat_lit 0) (nat_lit 0)) :: some (SV.ptr (nat_lit 2) (nat_lit 0)) :: nn 68 ([]))
  [.cells [SV.int .i64 x29, SV.int .i64 x30, SV.int .i64 x31, SV.int .i64 x32, SV.int .i64 x33, SV.sl (nat_lit 1)] (nat_lit 26), .seq kP x34 (nat_lit 23), .cells [SV.int .i64 x35, SV.int .i64 x36, SV.int .i64 x37, SV.int .i64 x38, SV.int .i64 x39, SV.sl (nat_lit 3)] (nat_lit 26),
    .seq kP x41 (nat_lit 23)])) (100 + x28.length + x34.length + x40.length) x21 x40)
theorem right_l0_ok {α : Type} : LoopOk E.P 19 [false, true, false, false, true, false, true, true, true] 0 (lEnt (α := α) (St.mk (none :: some (SV.ptr (nat_lit 0) (nat_lit 0)) :: some (SV.ptr (nat_lit 1) (nat_lit 0)) :: some (SV.ptr (nat_lit 3) (nat_lit 0)) :: some (SV.int .i64 (0 : Int)) :: nn 67 ([]))
  [.cells [SV.int .i64 (0 : Int), SV.int .i64 (0 : Int), SV.int .i64 (0 : Int), SV.int .i64 (0 : Int), SV.int .i64 (0 : Int), SV.ros undef kP []] (nat_lit 42), .cells [SV.int .i64 (0 : Int), SV.int .i64 (0 : Int), SV.int .i64 (0 : Int), SV.int .i64 (0 : Int), SV.int .i64 (0 : Int), SV.sl (nat_lit 2)] (nat_lit 26),
    .seq kP [] (nat_lit 23), .cells [SV.int .i64 (0 : Int), SV.int .i64 (0 : Int), SV.int .i64 (0 : Int), SV.int .i64 (0 : Int), SV.int .i64 (0 : Int), SV.sl (nat_lit 4)] (nat_lit 26), .seq kP [] (nat_lit 23)]) right_l0_go) :=
  lEnt_ok E (exec_sound E E_ok (look_dcheck_ok) (noLps_ok _) 400) fun ds Q r h S hS => by
    unfold right_l0_go at h
    obtain ⟨x21, ds, rfl, h1⟩ := dI_inv h
    obtain ⟨x22, ds, rfl, h2⟩ := dI_inv h1
    obtain ⟨x23, ds, rfl, h3⟩ := dI_inv h2
    obtain ⟨x24, ds, rfl, h4⟩ := dI_inv h3
    obtain ⟨x25, ds, rfl, h5⟩ := dI_inv h4
    obtain ⟨x26, ds, rfl, h6⟩ := dI_inv h5
    obtain ⟨x27, ds, rfl, h7⟩ := dV_inv h6
    obtain ⟨x28, ds, rfl, h8⟩ := dL_inv h7
    obtain ⟨x29, ds, rfl, h9⟩ := dI_inv h8
    obtain ⟨x30, ds, rfl, h10⟩ := dI_inv h9
    obtain ⟨x31, ds, rfl, h11⟩ := dI_inv h10
    obtain ⟨x32, ds, rfl, h12⟩ := dI_inv h11
    obtain ⟨x33, ds, rfl, h13⟩ := dI_inv h12
    obtain ⟨x34, ds, rfl, h14⟩ := dL_inv h13
    obtain ⟨x35, ds, rfl, h15⟩ := dI_inv h14
    obtain ⟨x36, ds, rfl, h16⟩ := dI_inv h15
    obtain ⟨x37, ds, rfl, h17⟩ := dI_inv h16
    obtain ⟨x38, ds, rfl, h18⟩ := dI_inv h17
    obtain ⟨x39, ds, rfl, h19⟩ := dI_inv h18
    obtain ⟨x40, ds, rfl, h20⟩ := dL_inv h19
    obtain ⟨rfl, hE⟩ := dE_inv h20
    have e : fillS (St.mk (none :: some (SV.ptr (nat_lit 0) (nat_lit 0)) :: some (SV.ptr (nat_lit 1) (nat_lit 0)) :: some (SV.ptr (nat_lit 3) (nat_lit 0)) :: some (SV.int .i64 (0 : Int)) :: nn 67 ([]))
  [.cells [SV.int .i64 (0 : Int), SV.int .i64 (0 : Int), SV.int .i64 (0 : Int), SV.int .i64 (0 : Int), SV.int .i64 (0 : Int), SV.ros undef kP []] (nat_lit 42), .cells [SV.int .i64 (0 : Int), SV.int .i64 (0 : Int), SV.int .i64 (0 : Int), SV.int .i64 (0 : Int), SV.int .i64 (0 : Int), SV.sl (nat_lit 2)] (nat_lit 26),
    .seq kP [] (nat_lit 23), .cells [SV.int .i64 (0 : Int), SV.int .i64 (0 : Int), SV.int .i64 (0 : Int), SV.int .i64 (0 : Int), SV.int .i64 (0 : Int), SV.sl (nat_lit 4)] (nat_lit 26), .seq kP [] (nat_lit 23)]) [.i x21, .i x22, .i x23, .i x24, .i x25, .i x26, .v x27, .l kP x28, .i x29, .i x30, .i x31, .i x32, .i x33, .l kP x34, .i x35, .i x36, .i x37, .i x38, .i x39, .l kP x40] = some (St.mk (none :: some (SV.ptr (nat_lit 0) (nat_lit 0)) :: some (SV.ptr (nat_lit 1) (nat_lit 0)) :: some (SV.ptr (nat_lit 3) (nat_lit 0)) :: some (SV.int .i64 x21) :: nn 67 ([]))
  [.cells [SV.int .i64 x22, SV.int .i64 x23, SV.int .i64 x24, SV.int .i64 x25, SV.int .i64 x26, SV.ros x27 kP x28] (nat_lit 42), .cells [SV.int .i64 x29, SV.int .i64 x30, SV.int .i64 x31, SV.int .i64 x32, SV.int .i64 x33, SV.sl (nat_lit 2)] (nat_lit 26), .seq kP x34 (nat_lit 23),
    .cells [SV.int .i64 x35, SV.int .i64 x36, SV.int .i64 x37, SV.int .i64 x38, SV.int .i64 x39, SV.sl (nat_lit 4)] (nat_lit 26), .seq kP x40 (nat_lit 23)]) := by kernel_rfl
    rw [e] at hS
    cases hS
    exact ⟨_, (right_l0_iter x22 x23 x24 x25 x26 x27 x28 x29 x30 x31 x32 x33 x34 x35 x36 x37 x38 x39 Q _ x21 x40).trans hE⟩
noncomputable def right_l0_lps {α : Type} : LookL α := addLp 19 [false, true, false, false, true, false, true, true, true] 0 (lEnt (St.mk (none :: some (SV.ptr (nat_lit 0) (nat_lit 0)) :: some (SV.ptr (nat_lit 1) (nat_lit 0)) :: some (SV.ptr (nat_lit 3) (nat_lit 0)) :: some (SV.int .i64 (0 : Int)) :: nn 67 ([]))
  [.cells [SV.int .i64 (0 : Int), SV.int .i64 (0 : Int), SV.int .i64 (0 : Int), SV.int .i64 (0 : Int), SV.int .i64 (0 : Int), SV.ros undef kP []] (nat_lit 42), .cells [SV.int .i64 (0 : Int), SV.int .i64 (0 : Int), SV.int .i64 (0 : Int), SV.int .i64 (0 : Int), SV.int .i64 (0 : Int), SV.sl (nat_lit 2)] (nat_lit 26),
    .seq kP [] (nat_lit 23), .cells [SV.int .i64 (0 : Int), SV.int .i64 (0 : Int), SV.int .i64 (0 : Int), SV.int .i64 (0 : Int), SV.int .i64 (0 : Int), SV.sl (nat_lit 4)] (nat_lit 26), .seq kP [] (nat_lit 23)]) right_l0_go) noLps
theorem right_l0_lps_ok {α : Type} : LoopsOk E.P (right_l0_lps (α := α)) := addLp_ok right_l0_ok (noLps_ok _)

noncomputable def _root_.Go.Proofs.Ytkjellhkamfciaa.M.right {α : Type} (k : Int) (r : Int) (hx : Int) (hy : Int) (hz : Int) (l : L3) (k0 : Int → Int → Int → Int → Int → L3 → Option α) : Option α :=
  if V.lpick_g k (4 : Int) = true then
  if V.lpick_g r (16384 : Int) = true then
    if V.lpick_g hx (65536 : Int) = true then
      if V.lpick_g hy (65536 : Int) = true then
        if V.lpick_g hz (65536 : Int) = true then
          if cEq (IntKind.wrap .i64 ((1 : Int) + V.lpick_r0 k (4 : Int))) (4 : Int) = true then
            M.right_l0 l
              (fun (x45 : L3) ↦
                if (!cEq (V.chk (IntKind.wrap .i64 ((1 : Int) + V.lpick_r0 k (4 : Int))) (IntKind.wrap .i64 ((1 : Int) + V.lpick_r0 r (16384 : Int))) (IntKind.wrap .i64 ((1 : Int) + V.lpick_r0 hx (65536 : Int))) (IntKind.wrap .i64 ((1 : Int) + V.lpick_r0 hy (65536 : Int))) (IntKind.wrap .i64 ((1 : Int) + V.lpick_r0 hz (65536 : Int))) x45) (0 : Int)) = true then
                  k0 (3 : Int) (IntKind.wrap .i64 ((1 : Int) + V.lpick_r0 r (16384 : Int))) (IntKind.wrap .i64 ((1 : Int) + V.lpick_r0 hx (65536 : Int))) (IntKind.wrap .i64 ((1 : Int) + V.lpick_r0 hy (65536 : Int))) (IntKind.wrap .i64 ((1 : Int) + V.lpick_r0 hz (65536 : Int))) []
                else k0 (IntKind.wrap .i64 ((1 : Int) + V.lpick_r0 k (4 : Int))) (IntKind.wrap .i64 ((1 : Int) + V.lpick_r0 r (16384 : Int))) (IntKind.wrap .i64 ((1 : Int) + V.lpick_r0 hx (65536 : Int))) (IntKind.wrap .i64 ((1 : Int) + V.lpick_r0 hy (65536 : Int))) (IntKind.wrap .i64 ((1 : Int) + V.lpick_r0 hz (65536 : Int))) x45)
              ((100 : Nat) + List.length l + (0 : Nat) + (0 : Nat)) (0 : Int) []
          else k0 (IntKind.wrap .i64 ((1 : Int) + V.lpick_r0 k (4 : Int))) (IntKind.wrap .i64 ((1 : Int) + V.lpick_r0 r (16384 : Int))) (IntKind.wrap .i64 ((1 : Int) + V.lpick_r0 hx (65536 : Int))) (IntKind.wrap .i64 ((1 : Int) + V.lpick_r0 hy (65536 : Int))) (IntKind.wrap .i64 ((1 : Int) + V.lpick_r0 hz (65536 : Int))) []
        else none
      else none
    else none
  else none
else none
theorem right_eq {α : Type} (k : Int) (r : Int) (hx : Int) (hy : Int) (hz : Int) (l : L3) (v44 : Value) (Q : SV → Hp → Option α) : callI E look_dcheck (exec E look_dcheck right_l0_lps 400) 19 ([SV.agg [SV.int .i64 k, SV.int .i64 r, SV.int .i64 hx, SV.int .i64 hy, SV.int .i64 hz, SV.ros v44 kP l]]) ([]) Q = M.right k r hx hy hz l (fun (x46 : Int) (x47 : Int) (x48 : Int) (x49 : Int) (x50 : Int) (x51 : L3) => Q (SV.agg [SV.int .i64 x46, SV.int .i64 x47, SV.int .i64 x48, SV.int .i64 x49, SV.int .i64 x50, SV.sl (nat_lit 0)]) ([.seq kP x51 (nat_lit 23)])) := by kernel_rfl
def right_sp : List AS := [.st [.leaf (.int .i64 0), .leaf (.int .i64 0), .leaf (.int .i64 0), .leaf (.int .i64 0), .leaf (.int .i64 0), .ro kP]]
theorem right_l0_val {α : Type} (l : List P3) (hl : l.length < 9223372036854775808) (hp : ∀ p ∈ l, RP p) (k1 : List P3 → Option α) : ∀ (fuel i : Nat) (acc : List P3), i ≤ l.length → i ≤ 12 → 12 - i < fuel → acc.length ≤ i →
    M.right_l0 l k1 fuel (i : Int) acc = k1 (acc ++ ((l.drop i).take (12 - i)).map partP)
  | 0, i, acc, h1, h2, h3, h4 => by omega
  | f + 1, i, acc, h1, h2, h3, h4 => by
    unfold M.right_l0 M.right_l0_step
    rw [cLt_nat]
    by_cases hi : i < l.length
    · rw [if_pos (by simpa using hi)]
      by_cases h12 : i < 12
      · have c12 : cLt (i : Int) 12 = true := by rw [cLt_eq]; simp; omega
        have hin : (0 : Int) ≤ (i : Int) ∧ (i : Int) < (l.length : Int) := by omega
        obtain ⟨r1, r2, r3⟩ := hp _ (pt_mem l i hi)
        have g1 := (part_val r1 (n := 65536) (by omega)).1
        have g2 := (part_val r2 (n := 65536) (by omega)).1
        have g3 := (part_val r3 (n := 65536) (by omega)).1
        unfold pt at g1 g2 g3
        have ih := right_l0_val l hl hp k1 f (i + 1) (acc ++ [partP (pt l i)]) (by omega) (by omega) (by omega) (by rw [List.length_append, List.length_singleton]; omega)
        simp only [c12, if_true, if_pos hin, toNat_nat, g1, g2, g3]
        rw [if_pos (by omega : (acc.length + (0 + 1)) * 24 ≤ 140737488355328), w_next (by omega)]
        refine Eq.trans ih ?_
        rw [drop_pt l i hi, show 12 - i = (12 - (i + 1)) + 1 by omega, List.take_succ_cons, List.map_cons, List.append_assoc]
        rfl
      · have : i = 12 := by omega
        subst this
        rw [if_neg (by rw [cLt_eq]; decide)]
        simp
    · have : i = l.length := by omega
      subst this
      rw [if_neg (by simp)]
      simp
noncomputable def _root_.Go.Proofs.Ytkjellhkamfciaa.V.rgG (k r hx hy hz : Int) (l : List P3) : Bool := V.gB ((Rr k ∧ Rr r ∧ Rr hx ∧ Rr hy ∧ Rr hz) ∧ l.length < 9223372036854775808 ∧ ∀ p ∈ l, RP p)
theorem right_v {α : Type} (k r hx hy hz : Int) (l : List P3) (hg : V.rgG k r hx hy hz l = true) (k0 : Int → Int → Int → Int → Int → List P3 → Option α) :
    M.right k r hx hy hz l k0 = k0 (V.rgK k r hx hy hz l) (V.rgR r) (V.rgH hx) (V.rgH hy) (V.rgH hz) (V.rgP k r hx hy hz l) := by
  obtain ⟨⟨g1, g2, g3, g4, g5⟩, hl, hp⟩ := gB_iff hg
  unfold M.right V.rgK V.rgR V.rgH V.rgP V.chk
  simp only [hid_eq]
  obtain ⟨p1, q1, r1⟩ := pick_val (n := 4) g1 (by omega)
  obtain ⟨p2, q2, r2⟩ := pick_val (n := 16384) g2 (by omega)
  obtain ⟨p3, q3, r3⟩ := pick_val (n := 65536) g3 (by omega)
  obtain ⟨p4, q4, r4⟩ := pick_val (n := 65536) g4 (by omega)
  obtain ⟨p5, q5, r5⟩ := pick_val (n := 65536) g5 (by omega)
  rw [if_pos p1, if_pos p2, if_pos p3, if_pos p4, if_pos p5]
  rw [IntWalk.i64_in (1 + V.lpick_r0 k 4) (by omega), IntWalk.i64_in (1 + V.lpick_r0 r 16384) (by omega), IntWalk.i64_in (1 + V.lpick_r0 hx 65536) (by omega), IntWalk.i64_in (1 + V.lpick_r0 hy 65536) (by omega), IntWalk.i64_in (1 + V.lpick_r0 hz 65536) (by omega)]
  show (if cEq (kd k) 4 = true then M.right_l0 l (fun x45 => if (!cEq (chkP (kd k) (rad r) (hlf hx) (hlf hy) (hlf hz) x45) 0) = true then k0 3 (rad r) (hlf hx) (hlf hy) (hlf hz) [] else k0 (kd k) (rad r) (hlf hx) (hlf hy) (hlf hz) x45) (100 + l.length + 0 + 0) 0 [] else k0 (kd k) (rad r) (hlf hx) (hlf hy) (hlf hz) []) = _
  have hk := right_l0_val l hl hp (fun x45 => if (!cEq (chkP (kd k) (rad r) (hlf hx) (hlf hy) (hlf hz) x45) 0) = true then k0 3 (rad r) (hlf hx) (hlf hy) (hlf hz) [] else k0 (kd k) (rad r) (hlf hx) (hlf hy) (hlf hz) x45) (100 + l.length + 0 + 0) 0 [] (by omega) (by omega) (by omega) (by simp)
  rw [Int.natCast_zero] at hk
  rw [hk]
  unfold rgKP rgPP chk0
  simp only [cEq_eq, beq_iff_eq]
  by_cases h4 : kd k = 4
  · have e : pts0 k l = (l.take 12).map partP := by unfold pts0; rw [if_pos h4]
    rw [if_pos h4, e]
    simp only [List.nil_append, List.drop_zero, Nat.sub_zero]
    by_cases hc : chkP (kd k) (rad r) (hlf hx) (hlf hy) (hlf hz) ((l.take 12).map partP) = 0
    · rw [hc, if_neg (by decide), if_neg (fun h => h.2 rfl), if_neg (fun h => h.2 rfl)]
    · have : (chkP (kd k) (rad r) (hlf hx) (hlf hy) (hlf hz) ((l.take 12).map partP) == 0) = false := by simpa using hc
      rw [this, if_pos (show (!false) = true from rfl), if_pos ⟨h4, hc⟩, if_pos ⟨h4, hc⟩]
  · have e : pts0 k l = [] := by unfold pts0; rw [if_neg h4]
    rw [if_neg h4, e]
    simp [h4]
noncomputable def right_h {α : Type} (ds : List D) (Q : SV → Hp → Option α) : Option α :=
  dI ds fun k ds => dI ds fun r ds => dI ds fun hx ds => dI ds fun hy ds => dI ds fun hz ds => dL kP ds fun l ds => dE ds (if V.rgG k r hx hy hz l = true then Q (.agg [.int .i64 (V.rgK k r hx hy hz l), .int .i64 (V.rgR r), .int .i64 (V.rgH hx), .int .i64 (V.rgH hy), .int .i64 (V.rgH hz), .sl 0]) ([.seq kP (V.rgP k r hx hy hz l) 23]) else none)
theorem right_h_ok {α : Type} : FnOk E.P 19 (fEnt (α := α) right_sp right_h) :=
  fEntR_ok E (look_dcheck_ok) (exec_sound E E_ok (look_dcheck_ok) (right_l0_lps_ok) 400) fun ds Q r h => by
    unfold right_h at h
    obtain ⟨k, ds, rfl, h1⟩ := dI_inv h
    obtain ⟨r, ds, rfl, h2⟩ := dI_inv h1
    obtain ⟨hx, ds, rfl, h3⟩ := dI_inv h2
    obtain ⟨hy, ds, rfl, h4⟩ := dI_inv h3
    obtain ⟨hz, ds, rfl, h5⟩ := dI_inv h4
    obtain ⟨l, ds, rfl, h6⟩ := dL_inv h5
    obtain ⟨rfl, hE⟩ := dE_inv h6
    split at hE
    · rename_i hg
      exact ⟨_, _, hE, fun vs => ⟨_, _, by kernel_rfl, (right_eq k r hx hy hz l ((cellsV (vs.headD undef)).tail.tail.tail.tail.tail.headD undef) _).trans (right_v k r hx hy hz l hg _)⟩⟩
    · cases hE
noncomputable def look_right {α : Type} : LookF α := addFn 19 (fEnt right_sp right_h) look_dcheck
theorem look_right_ok {α : Type} : LookOk E.P (look_right (α := α)) := addFn_ok right_h_ok (look_dcheck_ok)
end Go.Proofs.Ytkjellhkamfciaa.Sx
