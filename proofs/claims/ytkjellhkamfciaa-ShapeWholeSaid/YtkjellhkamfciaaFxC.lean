/- The quotient of a double word. -/
import Derived.Test.YtkjellhkamfciaaFxB
namespace Go.Proofs.Ytkjellhkamfciaa.Sx
open Go
set_option maxRecDepth 20000
set_option linter.unusedVariables false
set_option linter.unusedSimpArgs false
noncomputable def _root_.Go.Proofs.Ytkjellhkamfciaa.M.len64 {α : Type} (x : Int) (k0 : Int → Option α) : Option α :=
  if cLe (4294967296 : Int) x = true then
  if cLe (65536 : Int) (Int.fdiv x (4294967296 : Int)) = true then
    if cLe (256 : Int) (Int.fdiv (Int.fdiv x (4294967296 : Int)) (65536 : Int)) = true then
      if (0 : Int) ≤ IntKind.wrap IntKind.u8 (Int.fdiv (Int.fdiv (Int.fdiv x (4294967296 : Int)) (65536 : Int)) (256 : Int)) ∧ IntKind.wrap IntKind.u8 (Int.fdiv (Int.fdiv (Int.fdiv x (4294967296 : Int)) (65536 : Int)) (256 : Int)) < (256 : Int) then k0 (IntKind.wrap .i64 ((56 : Int) + IntKind.wrap .i64 (strAt len8 (IntKind.wrap IntKind.u8 (Int.fdiv (Int.fdiv (Int.fdiv x (4294967296 : Int)) (65536 : Int)) (256 : Int)))))) else none
    else if (0 : Int) ≤ IntKind.wrap IntKind.u8 (Int.fdiv (Int.fdiv x (4294967296 : Int)) (65536 : Int)) ∧ IntKind.wrap IntKind.u8 (Int.fdiv (Int.fdiv x (4294967296 : Int)) (65536 : Int)) < (256 : Int) then k0 (IntKind.wrap .i64 ((48 : Int) + IntKind.wrap .i64 (strAt len8 (IntKind.wrap IntKind.u8 (Int.fdiv (Int.fdiv x (4294967296 : Int)) (65536 : Int)))))) else none
  else
    if cLe (256 : Int) (Int.fdiv x (4294967296 : Int)) = true then if (0 : Int) ≤ IntKind.wrap IntKind.u8 (Int.fdiv (Int.fdiv x (4294967296 : Int)) (256 : Int)) ∧ IntKind.wrap IntKind.u8 (Int.fdiv (Int.fdiv x (4294967296 : Int)) (256 : Int)) < (256 : Int) then k0 (IntKind.wrap .i64 ((40 : Int) + IntKind.wrap .i64 (strAt len8 (IntKind.wrap IntKind.u8 (Int.fdiv (Int.fdiv x (4294967296 : Int)) (256 : Int)))))) else none
    else if (0 : Int) ≤ IntKind.wrap IntKind.u8 (Int.fdiv x (4294967296 : Int)) ∧ IntKind.wrap IntKind.u8 (Int.fdiv x (4294967296 : Int)) < (256 : Int) then k0 (IntKind.wrap .i64 ((32 : Int) + IntKind.wrap .i64 (strAt len8 (IntKind.wrap IntKind.u8 (Int.fdiv x (4294967296 : Int)))))) else none
else
  if cLe (65536 : Int) x = true then
    if cLe (256 : Int) (Int.fdiv x (65536 : Int)) = true then if (0 : Int) ≤ IntKind.wrap IntKind.u8 (Int.fdiv (Int.fdiv x (65536 : Int)) (256 : Int)) ∧ IntKind.wrap IntKind.u8 (Int.fdiv (Int.fdiv x (65536 : Int)) (256 : Int)) < (256 : Int) then k0 (IntKind.wrap .i64 ((24 : Int) + IntKind.wrap .i64 (strAt len8 (IntKind.wrap IntKind.u8 (Int.fdiv (Int.fdiv x (65536 : Int)) (256 : Int)))))) else none
    else if (0 : Int) ≤ IntKind.wrap IntKind.u8 (Int.fdiv x (65536 : Int)) ∧ IntKind.wrap IntKind.u8 (Int.fdiv x (65536 : Int)) < (256 : Int) then k0 (IntKind.wrap .i64 ((16 : Int) + IntKind.wrap .i64 (strAt len8 (IntKind.wrap IntKind.u8 (Int.fdiv x (65536 : Int)))))) else none
  else
    if cLe (256 : Int) x = true then if (0 : Int) ≤ IntKind.wrap IntKind.u8 (Int.fdiv x (256 : Int)) ∧ IntKind.wrap IntKind.u8 (Int.fdiv x (256 : Int)) < (256 : Int) then k0 (IntKind.wrap .i64 ((8 : Int) + IntKind.wrap .i64 (strAt len8 (IntKind.wrap IntKind.u8 (Int.fdiv x (256 : Int)))))) else none
    else if (0 : Int) ≤ IntKind.wrap IntKind.u8 x ∧ IntKind.wrap IntKind.u8 x < (256 : Int) then k0 (IntKind.wrap .i64 ((0 : Int) + IntKind.wrap .i64 (strAt len8 (IntKind.wrap IntKind.u8 x)))) else none
theorem len64_eq {α : Type} (x : Int) (Q : SV → Hp → Option α) : callI E look_rgreat (exec E look_rgreat noLps 400) 83 ([SV.int IntKind.u64 x]) ([]) Q = M.len64 x (fun (x0 : Int) => Q (SV.int .i64 x0) ([])) := by kernel_rfl
def len64_sp : List AS := [.val (.int .u64 0)]
noncomputable def _root_.Go.Proofs.Ytkjellhkamfciaa.V.len64_g (x : Int) : Bool :=
  if cLe (4294967296 : Int) x = true then
  if cLe (65536 : Int) (Int.fdiv x (4294967296 : Int)) = true then
    if cLe (256 : Int) (Int.fdiv (Int.fdiv x (4294967296 : Int)) (65536 : Int)) = true then if (0 : Int) ≤ IntKind.wrap IntKind.u8 (Int.fdiv (Int.fdiv (Int.fdiv x (4294967296 : Int)) (65536 : Int)) (256 : Int)) ∧ IntKind.wrap IntKind.u8 (Int.fdiv (Int.fdiv (Int.fdiv x (4294967296 : Int)) (65536 : Int)) (256 : Int)) < (256 : Int) then true else false
    else if (0 : Int) ≤ IntKind.wrap IntKind.u8 (Int.fdiv (Int.fdiv x (4294967296 : Int)) (65536 : Int)) ∧ IntKind.wrap IntKind.u8 (Int.fdiv (Int.fdiv x (4294967296 : Int)) (65536 : Int)) < (256 : Int) then true else false
  else if cLe (256 : Int) (Int.fdiv x (4294967296 : Int)) = true then if (0 : Int) ≤ IntKind.wrap IntKind.u8 (Int.fdiv (Int.fdiv x (4294967296 : Int)) (256 : Int)) ∧ IntKind.wrap IntKind.u8 (Int.fdiv (Int.fdiv x (4294967296 : Int)) (256 : Int)) < (256 : Int) then true else false else if (0 : Int) ≤ IntKind.wrap IntKind.u8 (Int.fdiv x (4294967296 : Int)) ∧ IntKind.wrap IntKind.u8 (Int.fdiv x (4294967296 : Int)) < (256 : Int) then true else false
else
  if cLe (65536 : Int) x = true then if cLe (256 : Int) (Int.fdiv x (65536 : Int)) = true then if (0 : Int) ≤ IntKind.wrap IntKind.u8 (Int.fdiv (Int.fdiv x (65536 : Int)) (256 : Int)) ∧ IntKind.wrap IntKind.u8 (Int.fdiv (Int.fdiv x (65536 : Int)) (256 : Int)) < (256 : Int) then true else false else if (0 : Int) ≤ IntKind.wrap IntKind.u8 (Int.fdiv x (65536 : Int)) ∧ IntKind.wrap IntKind.u8 (Int.fdiv x (65536 : Int)) < (256 : Int) then true else false
  else if cLe (256 : Int) x = true then if (0 : Int) ≤ IntKind.wrap IntKind.u8 (Int.fdiv x (256 : Int)) ∧ IntKind.wrap IntKind.u8 (Int.fdiv x (256 : Int)) < (256 : Int) then true else false else if (0 : Int) ≤ IntKind.wrap IntKind.u8 x ∧ IntKind.wrap IntKind.u8 x < (256 : Int) then true else false
noncomputable def _root_.Go.Proofs.Ytkjellhkamfciaa.V.len64_r0 (x : Int) : Int :=
  if cLe (4294967296 : Int) x = true then
  if cLe (65536 : Int) (Int.fdiv x (4294967296 : Int)) = true then
    if cLe (256 : Int) (Int.fdiv (Int.fdiv x (4294967296 : Int)) (65536 : Int)) = true then
      if (0 : Int) ≤ IntKind.wrap IntKind.u8 (Int.fdiv (Int.fdiv (Int.fdiv x (4294967296 : Int)) (65536 : Int)) (256 : Int)) ∧ IntKind.wrap IntKind.u8 (Int.fdiv (Int.fdiv (Int.fdiv x (4294967296 : Int)) (65536 : Int)) (256 : Int)) < (256 : Int) then IntKind.wrap .i64 ((56 : Int) + IntKind.wrap .i64 (strAt len8 (IntKind.wrap IntKind.u8 (Int.fdiv (Int.fdiv (Int.fdiv x (4294967296 : Int)) (65536 : Int)) (256 : Int))))) else (0 : Int)
    else if (0 : Int) ≤ IntKind.wrap IntKind.u8 (Int.fdiv (Int.fdiv x (4294967296 : Int)) (65536 : Int)) ∧ IntKind.wrap IntKind.u8 (Int.fdiv (Int.fdiv x (4294967296 : Int)) (65536 : Int)) < (256 : Int) then IntKind.wrap .i64 ((48 : Int) + IntKind.wrap .i64 (strAt len8 (IntKind.wrap IntKind.u8 (Int.fdiv (Int.fdiv x (4294967296 : Int)) (65536 : Int))))) else (0 : Int)
  else
    if cLe (256 : Int) (Int.fdiv x (4294967296 : Int)) = true then if (0 : Int) ≤ IntKind.wrap IntKind.u8 (Int.fdiv (Int.fdiv x (4294967296 : Int)) (256 : Int)) ∧ IntKind.wrap IntKind.u8 (Int.fdiv (Int.fdiv x (4294967296 : Int)) (256 : Int)) < (256 : Int) then IntKind.wrap .i64 ((40 : Int) + IntKind.wrap .i64 (strAt len8 (IntKind.wrap IntKind.u8 (Int.fdiv (Int.fdiv x (4294967296 : Int)) (256 : Int))))) else (0 : Int)
    else if (0 : Int) ≤ IntKind.wrap IntKind.u8 (Int.fdiv x (4294967296 : Int)) ∧ IntKind.wrap IntKind.u8 (Int.fdiv x (4294967296 : Int)) < (256 : Int) then IntKind.wrap .i64 ((32 : Int) + IntKind.wrap .i64 (strAt len8 (IntKind.wrap IntKind.u8 (Int.fdiv x (4294967296 : Int))))) else (0 : Int)
else
  if cLe (65536 : Int) x = true then
    if cLe (256 : Int) (Int.fdiv x (65536 : Int)) = true then if (0 : Int) ≤ IntKind.wrap IntKind.u8 (Int.fdiv (Int.fdiv x (65536 : Int)) (256 : Int)) ∧ IntKind.wrap IntKind.u8 (Int.fdiv (Int.fdiv x (65536 : Int)) (256 : Int)) < (256 : Int) then IntKind.wrap .i64 ((24 : Int) + IntKind.wrap .i64 (strAt len8 (IntKind.wrap IntKind.u8 (Int.fdiv (Int.fdiv x (65536 : Int)) (256 : Int))))) else (0 : Int)
    else if (0 : Int) ≤ IntKind.wrap IntKind.u8 (Int.fdiv x (65536 : Int)) ∧ IntKind.wrap IntKind.u8 (Int.fdiv x (65536 : Int)) < (256 : Int) then IntKind.wrap .i64 ((16 : Int) + IntKind.wrap .i64 (strAt len8 (IntKind.wrap IntKind.u8 (Int.fdiv x (65536 : Int))))) else (0 : Int)
  else
    if cLe (256 : Int) x = true then if (0 : Int) ≤ IntKind.wrap IntKind.u8 (Int.fdiv x (256 : Int)) ∧ IntKind.wrap IntKind.u8 (Int.fdiv x (256 : Int)) < (256 : Int) then IntKind.wrap .i64 ((8 : Int) + IntKind.wrap .i64 (strAt len8 (IntKind.wrap IntKind.u8 (Int.fdiv x (256 : Int))))) else (0 : Int)
    else if (0 : Int) ≤ IntKind.wrap IntKind.u8 x ∧ IntKind.wrap IntKind.u8 x < (256 : Int) then IntKind.wrap .i64 ((0 : Int) + IntKind.wrap .i64 (strAt len8 (IntKind.wrap IntKind.u8 x))) else (0 : Int)
theorem len64_val {α : Type} (x : Int) (k0 : Int → Option α) : M.len64 x k0 = if V.len64_g x = true then k0 (V.len64_r0 x) else none := by
  unfold M.len64 V.len64_g V.len64_r0
  repeat' first | rfl | (split <;> rename_i h <;> first | simp only [if_pos h] | simp only [if_neg h] | skip)
noncomputable def len64_c {α : Type} (ds : List D) (Q : SV → Hp → Option α) : Option α :=
  dI ds fun x ds => dE ds (if V.len64_g x = true then Q (SV.int .i64 (V.len64_r0 x)) ([]) else none)
theorem len64_c_ok {α : Type} : FnOk E.P 83 (fEnt (α := α) len64_sp len64_c) :=
  fEnt_ok E (look_rgreat_ok) (exec_sound E E_ok (look_rgreat_ok) (noLps_ok _) 400) fun ds Q r h => by
    unfold len64_c at h
    obtain ⟨x, ds, rfl, h1⟩ := dI_inv h
    obtain ⟨rfl, hE⟩ := dE_inv h1
    exact ⟨[SV.int IntKind.u64 x], [], fun vs => by kernel_rfl, (len64_eq x Q).trans ((len64_val x (fun (x0 : Int) => Q (SV.int .i64 x0) ([]))).trans hE)⟩
noncomputable def len64_go {α : Type} (ds : List D) (Q : SV → Hp → Option α) : Option α :=
  dI ds fun x ds => dE ds (M.len64 x (fun (x0 : Int) => Q (SV.int .i64 x0) ([])))
theorem len64_ok {α : Type} : FnOk E.P 83 (fEnt (α := α) len64_sp len64_go) :=
  fEnt_ok E (look_rgreat_ok) (exec_sound E E_ok (look_rgreat_ok) (noLps_ok _) 400) fun ds Q r h => by
    unfold len64_go at h
    obtain ⟨x, ds, rfl, h1⟩ := dI_inv h
    obtain ⟨rfl, hE⟩ := dE_inv h1
    exact ⟨[SV.int IntKind.u64 x], [], fun vs => by kernel_rfl, (len64_eq x Q).trans hE⟩
noncomputable def look_len64 {α : Type} : LookF α := addFn 83 (fEnt len64_sp len64_c) look_rgreat
theorem look_len64_ok {α : Type} : LookOk E.P (look_len64 (α := α)) := addFn_ok len64_c_ok (look_rgreat_ok)
noncomputable def _root_.Go.Proofs.Ytkjellhkamfciaa.M.lz64 {α : Type} (x : Int) (k0 : Int → Option α) : Option α :=
  if V.len64_g x = true then k0 (IntKind.wrap .i64 ((64 : Int) - V.len64_r0 x)) else none
theorem lz64_eq {α : Type} (x : Int) (Q : SV → Hp → Option α) : callI E look_len64 (exec E look_len64 noLps 400) 82 ([SV.int IntKind.u64 x]) ([]) Q = M.lz64 x (fun (x1 : Int) => Q (SV.int .i64 x1) ([])) := by kernel_rfl
def lz64_sp : List AS := [.val (.int .u64 0)]
noncomputable def _root_.Go.Proofs.Ytkjellhkamfciaa.V.lz64_g (x : Int) : Bool :=
  if V.len64_g x = true then true else false
noncomputable def _root_.Go.Proofs.Ytkjellhkamfciaa.V.lz64_r0 (x : Int) : Int :=
  if V.len64_g x = true then IntKind.wrap .i64 ((64 : Int) - V.len64_r0 x) else (0 : Int)
theorem lz64_val {α : Type} (x : Int) (k0 : Int → Option α) : M.lz64 x k0 = if V.lz64_g x = true then k0 (V.lz64_r0 x) else none := by
  unfold M.lz64 V.lz64_g V.lz64_r0
  repeat' first | rfl | (split <;> rename_i h <;> first | simp only [if_pos h] | simp only [if_neg h] | skip)
noncomputable def lz64_c {α : Type} (ds : List D) (Q : SV → Hp → Option α) : Option α :=
  dI ds fun x ds => dE ds (if V.lz64_g x = true then Q (SV.int .i64 (V.lz64_r0 x)) ([]) else none)
theorem lz64_c_ok {α : Type} : FnOk E.P 82 (fEnt (α := α) lz64_sp lz64_c) :=
  fEnt_ok E (look_len64_ok) (exec_sound E E_ok (look_len64_ok) (noLps_ok _) 400) fun ds Q r h => by
    unfold lz64_c at h
    obtain ⟨x, ds, rfl, h1⟩ := dI_inv h
    obtain ⟨rfl, hE⟩ := dE_inv h1
    exact ⟨[SV.int IntKind.u64 x], [], fun vs => by kernel_rfl, (lz64_eq x Q).trans ((lz64_val x (fun (x1 : Int) => Q (SV.int .i64 x1) ([]))).trans hE)⟩
noncomputable def lz64_go {α : Type} (ds : List D) (Q : SV → Hp → Option α) : Option α :=
  dI ds fun x ds => dE ds (M.lz64 x (fun (x1 : Int) => Q (SV.int .i64 x1) ([])))
theorem lz64_ok {α : Type} : FnOk E.P 82 (fEnt (α := α) lz64_sp lz64_go) :=
  fEnt_ok E (look_len64_ok) (exec_sound E E_ok (look_len64_ok) (noLps_ok _) 400) fun ds Q r h => by
    unfold lz64_go at h
    obtain ⟨x, ds, rfl, h1⟩ := dI_inv h
    obtain ⟨rfl, hE⟩ := dE_inv h1
    exact ⟨[SV.int IntKind.u64 x], [], fun vs => by kernel_rfl, (lz64_eq x Q).trans hE⟩
noncomputable def look_lz64 {α : Type} : LookF α := addFn 82 (fEnt lz64_sp lz64_c) look_len64
theorem look_lz64_ok {α : Type} : LookOk E.P (look_lz64 (α := α)) := addFn_ok lz64_c_ok (look_len64_ok)
noncomputable def _root_.Go.Proofs.Ytkjellhkamfciaa.M.div64_l0_step {α : Type} (x13 : Int) (x14 : Int) (x16 : Int) (kn : Int → Int → Option α) (k0 : Int → Option α) (x18 : Int) (x19 : Int) : Option α :=
  if cLe (4294967296 : Int) x18 = true then if cLe (4294967296 : Int) (IntKind.wrap IntKind.u64 (x19 + x13)) = true then k0 (IntKind.wrap IntKind.u64 (x18 - (1 : Int))) else kn (IntKind.wrap IntKind.u64 (x18 - (1 : Int))) (IntKind.wrap IntKind.u64 (x19 + x13))
else if cLt (IntKind.wrap IntKind.u64 (IntKind.wrap IntKind.u64 ((4294967296 : Int) * x19) + x16)) (IntKind.wrap IntKind.u64 (x18 * x14)) = true then if cLe (4294967296 : Int) (IntKind.wrap IntKind.u64 (x19 + x13)) = true then k0 (IntKind.wrap IntKind.u64 (x18 - (1 : Int))) else kn (IntKind.wrap IntKind.u64 (x18 - (1 : Int))) (IntKind.wrap IntKind.u64 (x19 + x13)) else k0 x18
noncomputable def _root_.Go.Proofs.Ytkjellhkamfciaa.M.div64_l0 {α : Type} (x13 : Int) (x14 : Int) (x16 : Int) (k0 : Int → Option α) : Nat → Int → Int → Option α
  | 0, _, _ => none
  | n + 1, x18, x19 => M.div64_l0_step x13 x14 x16 (M.div64_l0 x13 x14 x16 k0 n) k0 x18 x19
theorem div64_l0_step_eq {α : Type} (x11 : Int) (x12 : Int) (x13 : Int) (x14 : Int) (x15 : Int) (x16 : Int) (x17 : Int) (x18 : Int) (x19 : Int) (Q : Ex → St → Option α) : (loopStep E (exec E look_lz64 noLps 400) 69 [false, false, true, true, true, true, true, true, true, true, true, true, true, true, true, true] 0 (codeAt E.P 69 [false, false, true, true, true, true, true, true, true, true, true, true, true, true, true, true])) (St.mk (none :: none :: some (SV.int IntKind.u64 x11) :: nn 5 (some (SV.int IntKind.u64 x12) :: some (SV.int IntKind.u64 x13) :: some (SV.int IntKind.u64 x14) :: some (SV.int IntKind.u64 x15) :: none :: some (SV.int IntKind.u64 x16) :: some (SV.int IntKind.u64 x17) :: some (SV.int IntKind.u64 x18) :: some (SV.int IntKind.u64 x19) :: nn 118 ([])))
  []) Q = M.div64_l0_step x13 x14 x16 (fun (x21 : Int) (x22 : Int) => Q .normal (St.mk (none :: none :: some (SV.int IntKind.u64 x11) :: nn 5 (some (SV.int IntKind.u64 x12) :: some (SV.int IntKind.u64 x13) :: some (SV.int IntKind.u64 x14) :: some (SV.int IntKind.u64 x15) :: none :: some (SV.int IntKind.u64 x16) :: some (SV.int IntKind.u64 x17) :: some (SV.int IntKind.u64 x21) :: some (SV.int IntKind.u64 x22) :: nn 118 ([])))
  [])) (fun (x20 : Int) => Q (.exit 0) (St.mk (none :: none :: some (SV.int IntKind.u64 x11) :: nn 5 (some (SV.int IntKind.u64 x12) :: some (SV.int IntKind.u64 x13) :: some (SV.int IntKind.u64 x14) :: some (SV.int IntKind.u64 x15) :: none :: some (SV.int IntKind.u64 x16) :: some (SV.int IntKind.u64 x17) :: some (SV.int IntKind.u64 x20) :: nn 119 ([])))
  [])) x18 x19 := by kernel_rfl
theorem div64_l0_iter {α : Type} (x11 : Int) (x12 : Int) (x13 : Int) (x14 : Int) (x15 : Int) (x16 : Int) (x17 : Int) (Q : Ex → St → Option α) : ∀ (n : Nat) (x18 : Int) (x19 : Int), iter (loopStep E (exec E look_lz64 noLps 400) 69 [false, false, true, true, true, true, true, true, true, true, true, true, true, true, true, true] 0 (codeAt E.P 69 [false, false, true, true, true, true, true, true, true, true, true, true, true, true, true, true])) n (St.mk (none :: none :: some (SV.int IntKind.u64 x11) :: nn 5 (some (SV.int IntKind.u64 x12) :: some (SV.int IntKind.u64 x13) :: some (SV.int IntKind.u64 x14) :: some (SV.int IntKind.u64 x15) :: none :: some (SV.int IntKind.u64 x16) :: some (SV.int IntKind.u64 x17) :: some (SV.int IntKind.u64 x18) :: some (SV.int IntKind.u64 x19) :: nn 118 ([])))
  []) Q = M.div64_l0 x13 x14 x16 (fun (x20 : Int) => Q (.exit 0) (St.mk (none :: none :: some (SV.int IntKind.u64 x11) :: nn 5 (some (SV.int IntKind.u64 x12) :: some (SV.int IntKind.u64 x13) :: some (SV.int IntKind.u64 x14) :: some (SV.int IntKind.u64 x15) :: none :: some (SV.int IntKind.u64 x16) :: some (SV.int IntKind.u64 x17) :: some (SV.int IntKind.u64 x20) :: nn 119 ([])))
  [])) n x18 x19
  | 0, _, _ => rfl
  | n + 1, x18, x19 => (div64_l0_step_eq x11 x12 x13 x14 x15 x16 x17 x18 x19 (iterK (loopStep E (exec E look_lz64 noLps 400) 69 [false, false, true, true, true, true, true, true, true, true, true, true, true, true, true, true] 0 (codeAt E.P 69 [false, false, true, true, true, true, true, true, true, true, true, true, true, true, true, true])) n Q)).trans (congrArg (fun kn => M.div64_l0_step x13 x14 x16 kn (fun (x20 : Int) => Q (.exit 0) (St.mk (none :: none :: some (SV.int IntKind.u64 x11) :: nn 5 (some (SV.int IntKind.u64 x12) :: some (SV.int IntKind.u64 x13) :: some (SV.int IntKind.u64 x14) :: some (SV.int IntKind.u64 x15) :: none :: some (SV.int IntKind.u64 x16) :: some (SV.int IntKind.u64 x17) :: some (SV.int IntKind.u64 x20) :: nn 119 ([])))
  [])) x18 x19) (funext fun x18 => funext fun x19 => div64_l0_iter x11 x12 x13 x14 x15 x16 x17 Q n x18 x19))
noncomputable def div64_l0_go {α : Type} (ds : List D) (Q : Ex → St → Option α) : Option α :=
  dI ds fun x11 ds => dI ds fun x12 ds => dI ds fun x13 ds => dI ds fun x14 ds => dI ds fun x15 ds => dI ds fun x16 ds => dI ds fun x17 ds => dI ds fun x18 ds => dI ds fun x19 ds => dE ds (M.div64_l0 x13 x14 x16 (fun (x20 : Int) => Q (.exit 0) (St.mk (none :: none :: some (SV.int IntKind.u64 x11) :: nn 5 (some (SV.int IntKind.u64 x12) :: some (SV.int IntKind.u64 x13) :: some (SV.int IntKind.u64 x14) :: some (SV.int IntKind.u64 x15) :: none :: some (SV.int IntKind.u64 x16) :: some (SV.int IntKind.u64 x17) :: some (SV.int IntKind.u64 x20) :: nn 119 ([])))
  [])) (100) x18 x19)
theorem div64_l0_ok {α : Type} : LoopOk E.P 69 [false, false, true, true, true, true, true, true, true, true, true, true, true, true, true, true] 0 (lEnt (α := α) (St.mk (none :: none :: some (SV.int IntKind.u64 (0 : Int)) :: nn 5 (some (SV.int IntKind.u64 (0 : Int)) :: some (SV.int IntKind.u64 (0 : Int)) :: some (SV.int IntKind.u64 (0 : Int)) :: some (SV.int IntKind.u64 (0 : Int)) :: none :: some (SV.int IntKind.u64 (0 : Int)) :: some (SV.int IntKind.u64 (0 : Int)) :: some (SV.int IntKind.u64 (0 : Int)) :: some (SV.int IntKind.u64 (0 : Int)) :: nn 118 ([])))
  []) div64_l0_go) :=
  lEnt_ok E (exec_sound E E_ok (look_lz64_ok) (noLps_ok _) 400) fun ds Q r h S hS => by
    unfold div64_l0_go at h
    obtain ⟨x11, ds, rfl, h1⟩ := dI_inv h
    obtain ⟨x12, ds, rfl, h2⟩ := dI_inv h1
    obtain ⟨x13, ds, rfl, h3⟩ := dI_inv h2
    obtain ⟨x14, ds, rfl, h4⟩ := dI_inv h3
    obtain ⟨x15, ds, rfl, h5⟩ := dI_inv h4
    obtain ⟨x16, ds, rfl, h6⟩ := dI_inv h5
    obtain ⟨x17, ds, rfl, h7⟩ := dI_inv h6
    obtain ⟨x18, ds, rfl, h8⟩ := dI_inv h7
    obtain ⟨x19, ds, rfl, h9⟩ := dI_inv h8
    obtain ⟨rfl, hE⟩ := dE_inv h9
    have e : fillS (St.mk (none :: none :: some (SV.int IntKind.u64 (0 : Int)) :: nn 5 (some (SV.int IntKind.u64 (0 : Int)) :: some (SV.int IntKind.u64 (0 : Int)) :: some (SV.int IntKind.u64 (0 : Int)) :: some (SV.int IntKind.u64 (0 : Int)) :: none :: some (SV.int IntKind.u64 (0 : Int)) :: some (SV.int IntKind.u64 (0 : Int)) :: some (SV.int IntKind.u64 (0 : Int)) :: some (SV.int IntKind.u64 (0 : Int)) :: nn 118 ([])))
  []) [.i x11, .i x12, .i x13, .i x14, .i x15, .i x16, .i x17, .i x18, .i x19] = some (St.mk (none :: none :: some (SV.int IntKind.u64 x11) :: nn 5 (some (SV.int IntKind.u64 x12) :: some (SV.int IntKind.u64 x13) :: some (SV.int IntKind.u64 x14) :: some (SV.int IntKind.u64 x15) :: none :: some (SV.int IntKind.u64 x16) :: some (SV.int IntKind.u64 x17) :: some (SV.int IntKind.u64 x18) :: some (SV.int IntKind.u64 x19) :: nn 118 ([])))
  []) := by kernel_rfl
    rw [e] at hS
    cases hS
    exact ⟨_, (div64_l0_iter x11 x12 x13 x14 x15 x16 x17 Q _ x18 x19).trans hE⟩
noncomputable def div64_l0_lps {α : Type} : LookL α := addLp 69 [false, false, true, true, true, true, true, true, true, true, true, true, true, true, true, true] 0 (lEnt (St.mk (none :: none :: some (SV.int IntKind.u64 (0 : Int)) :: nn 5 (some (SV.int IntKind.u64 (0 : Int)) :: some (SV.int IntKind.u64 (0 : Int)) :: some (SV.int IntKind.u64 (0 : Int)) :: some (SV.int IntKind.u64 (0 : Int)) :: none :: some (SV.int IntKind.u64 (0 : Int)) :: some (SV.int IntKind.u64 (0 : Int)) :: some (SV.int IntKind.u64 (0 : Int)) :: some (SV.int IntKind.u64 (0 : Int)) :: nn 118 ([])))
  []) div64_l0_go) noLps
theorem div64_l0_lps_ok {α : Type} : LoopsOk E.P (div64_l0_lps (α := α)) := addLp_ok div64_l0_ok (noLps_ok _)

noncomputable def _root_.Go.Proofs.Ytkjellhkamfciaa.M.div64_l1_step {α : Type} (x35 : Int) (x36 : Int) (x37 : Int) (kn : Int → Int → Option α) (k0 : Int → Option α) (x39 : Int) (x41 : Int) : Option α :=
  if cLe (4294967296 : Int) x41 = true then if cLe (4294967296 : Int) (IntKind.wrap IntKind.u64 (x39 + x35)) = true then k0 (IntKind.wrap IntKind.u64 (x41 - (1 : Int))) else kn (IntKind.wrap IntKind.u64 (x39 + x35)) (IntKind.wrap IntKind.u64 (x41 - (1 : Int)))
else if cLt (IntKind.wrap IntKind.u64 (IntKind.wrap IntKind.u64 ((4294967296 : Int) * x39) + x37)) (IntKind.wrap IntKind.u64 (x41 * x36)) = true then if cLe (4294967296 : Int) (IntKind.wrap IntKind.u64 (x39 + x35)) = true then k0 (IntKind.wrap IntKind.u64 (x41 - (1 : Int))) else kn (IntKind.wrap IntKind.u64 (x39 + x35)) (IntKind.wrap IntKind.u64 (x41 - (1 : Int))) else k0 x41
noncomputable def _root_.Go.Proofs.Ytkjellhkamfciaa.M.div64_l1 {α : Type} (x35 : Int) (x36 : Int) (x37 : Int) (k0 : Int → Option α) : Nat → Int → Int → Option α
  | 0, _, _ => none
  | n + 1, x39, x41 => M.div64_l1_step x35 x36 x37 (M.div64_l1 x35 x36 x37 k0 n) k0 x39 x41
theorem div64_l1_step_eq {α : Type} (x33 : Int) (x34 : Int) (x35 : Int) (x36 : Int) (x37 : Int) (x38 : Int) (x39 : Int) (x40 : Int) (x41 : Int) (Q : Ex → St → Option α) : (loopStep E (exec E look_lz64 div64_l0_lps 400) 69 [false, false, true, true, true, true, true, true, true, true, true, true, true, true, true, true, true, true, true, true] 0 (codeAt E.P 69 [false, false, true, true, true, true, true, true, true, true, true, true, true, true, true, true, true, true, true, true])) (St.mk (none :: none :: some (SV.int IntKind.u64 x33) :: nn 5 (some (SV.int IntKind.u64 x34) :: some (SV.int IntKind.u64 x35) :: some (SV.int IntKind.u64 x36) :: nn 3 (some (SV.int IntKind.u64 x37) :: some (SV.int IntKind.u64 x38) :: some (SV.int IntKind.u64 x39) :: some (SV.int IntKind.u64 x40) :: some (SV.int IntKind.u64 x41) :: nn 116 ([]))))
  []) Q = M.div64_l1_step x35 x36 x37 (fun (x43 : Int) (x44 : Int) => Q .normal (St.mk (none :: none :: some (SV.int IntKind.u64 x33) :: nn 5 (some (SV.int IntKind.u64 x34) :: some (SV.int IntKind.u64 x35) :: some (SV.int IntKind.u64 x36) :: nn 3 (some (SV.int IntKind.u64 x37) :: some (SV.int IntKind.u64 x38) :: some (SV.int IntKind.u64 x43) :: some (SV.int IntKind.u64 x40) :: some (SV.int IntKind.u64 x44) :: nn 116 ([]))))
  [])) (fun (x42 : Int) => Q (.exit 2) (St.mk (none :: none :: some (SV.int IntKind.u64 x33) :: nn 5 (some (SV.int IntKind.u64 x34) :: nn 5 (some (SV.int IntKind.u64 x37) :: some (SV.int IntKind.u64 x38) :: none :: some (SV.int IntKind.u64 x40) :: some (SV.int IntKind.u64 x42) :: nn 116 ([]))))
  [])) x39 x41 := by kernel_rfl
theorem div64_l1_iter {α : Type} (x33 : Int) (x34 : Int) (x35 : Int) (x36 : Int) (x37 : Int) (x38 : Int) (x40 : Int) (Q : Ex → St → Option α) : ∀ (n : Nat) (x39 : Int) (x41 : Int), iter (loopStep E (exec E look_lz64 div64_l0_lps 400) 69 [false, false, true, true, true, true, true, true, true, true, true, true, true, true, true, true, true, true, true, true] 0 (codeAt E.P 69 [false, false, true, true, true, true, true, true, true, true, true, true, true, true, true, true, true, true, true, true])) n (St.mk (none :: none :: some (SV.int IntKind.u64 x33) :: nn 5 (some (SV.int IntKind.u64 x34) :: some (SV.int IntKind.u64 x35) :: some (SV.int IntKind.u64 x36) :: nn 3 (some (SV.int IntKind.u64 x37) :: some (SV.int IntKind.u64 x38) :: some (SV.int IntKind.u64 x39) :: some (SV.int IntKind.u64 x40) :: some (SV.int IntKind.u64 x41) :: nn 116 ([]))))
  []) Q = M.div64_l1 x35 x36 x37 (fun (x42 : Int) => Q (.exit 2) (St.mk (none :: none :: some (SV.int IntKind.u64 x33) :: nn 5 (some (SV.int IntKind.u64 x34) :: nn 5 (some (SV.int IntKind.u64 x37) :: some (SV.int IntKind.u64 x38) :: none :: some (SV.int IntKind.u64 x40) :: some (SV.int IntKind.u64 x42) :: nn 116 ([]))))
  [])) n x39 x41
  | 0, _, _ => rfl
  | n + 1, x39, x41 => (div64_l1_step_eq x33 x34 x35 x36 x37 x38 x39 x40 x41 (iterK (loopStep E (exec E look_lz64 div64_l0_lps 400) 69 [false, false, true, true, true, true, true, true, true, true, true, true, true, true, true, true, true, true, true, true] 0 (codeAt E.P 69 [false, false, true, true, true, true, true, true, true, true, true, true, true, true, true, true, true, true, true, true])) n Q)).trans (congrArg (fun kn => M.div64_l1_step x35 x36 x37 kn (fun (x42 : Int) => Q (.exit 2) (St.mk (none :: none :: some (SV.int IntKind.u64 x33) :: nn 5 (some (SV.int IntKind.u64 x34) :: nn 5 (some (SV.int IntKind.u64 x37) :: some (SV.int IntKind.u64 x38) :: none :: some (SV.int IntKind.u64 x40) :: some (SV.int IntKind.u64 x42) :: nn 116 ([]))))
  [])) x39 x41) (funext fun x39 => funext fun x41 => div64_l1_iter x33 x34 x35 x36 x37 x38 x40 Q n x39 x41))
noncomputable def div64_l1_go {α : Type} (ds : List D) (Q : Ex → St → Option α) : Option α :=
  dI ds fun x33 ds => dI ds fun x34 ds => dI ds fun x35 ds => dI ds fun x36 ds => dI ds fun x37 ds => dI ds fun x38 ds => dI ds fun x39 ds => dI ds fun x40 ds => dI ds fun x41 ds => dE ds (M.div64_l1 x35 x36 x37 (fun (x42 : Int) => Q (.exit 2) (St.mk (none :: none :: some (SV.int IntKind.u64 x33) :: nn 5 (some (SV.int IntKind.u64 x34) :: nn 5 (some (SV.int IntKind.u64 x37) :: some (SV.int IntKind.u64 x38) :: none :: some (SV.int IntKind.u64 x40) :: some (SV.int IntKind.u64 x42) :: nn 116 ([]))))
  [])) (100) x39 x41)
theorem div64_l1_ok {α : Type} : LoopOk E.P 69 [false, false, true, true, true, true, true, true, true, true, true, true, true, true, true, true, true, true, true, true] 0 (lEnt (α := α) (St.mk (none :: none :: some (SV.int IntKind.u64 (0 : Int)) :: nn 5 (some (SV.int IntKind.u64 (0 : Int)) :: some (SV.int IntKind.u64 (0 : Int)) :: some (SV.int IntKind.u64 (0 : Int)) :: nn 3 (some (SV.int IntKind.u64 (0 : Int)) :: some (SV.int IntKind.u64 (0 : Int)) :: some (SV.int IntKind.u64 (0 : Int)) :: some (SV.int IntKind.u64 (0 : Int)) :: some (SV.int IntKind.u64 (0 : Int)) :: nn 116 ([]))))
  []) div64_l1_go) :=
  lEnt_ok E (exec_sound E E_ok (look_lz64_ok) (div64_l0_lps_ok) 400) fun ds Q r h S hS => by
    unfold div64_l1_go at h
    obtain ⟨x33, ds, rfl, h1⟩ := dI_inv h
    obtain ⟨x34, ds, rfl, h2⟩ := dI_inv h1
    obtain ⟨x35, ds, rfl, h3⟩ := dI_inv h2
    obtain ⟨x36, ds, rfl, h4⟩ := dI_inv h3
    obtain ⟨x37, ds, rfl, h5⟩ := dI_inv h4
    obtain ⟨x38, ds, rfl, h6⟩ := dI_inv h5
    obtain ⟨x39, ds, rfl, h7⟩ := dI_inv h6
    obtain ⟨x40, ds, rfl, h8⟩ := dI_inv h7
    obtain ⟨x41, ds, rfl, h9⟩ := dI_inv h8
    obtain ⟨rfl, hE⟩ := dE_inv h9
    have e : fillS (St.mk (none :: none :: some (SV.int IntKind.u64 (0 : Int)) :: nn 5 (some (SV.int IntKind.u64 (0 : Int)) :: some (SV.int IntKind.u64 (0 : Int)) :: some (SV.int IntKind.u64 (0 : Int)) :: nn 3 (some (SV.int IntKind.u64 (0 : Int)) :: some (SV.int IntKind.u64 (0 : Int)) :: some (SV.int IntKind.u64 (0 : Int)) :: some (SV.int IntKind.u64 (0 : Int)) :: some (SV.int IntKind.u64 (0 : Int)) :: nn 116 ([]))))
  []) [.i x33, .i x34, .i x35, .i x36, .i x37, .i x38, .i x39, .i x40, .i x41] = some (St.mk (none :: none :: some (SV.int IntKind.u64 x33) :: nn 5 (some (SV.int IntKind.u64 x34) :: some (SV.int IntKind.u64 x35) :: some (SV.int IntKind.u64 x36) :: nn 3 (some (SV.int IntKind.u64 x37) :: some (SV.int IntKind.u64 x38) :: some (SV.int IntKind.u64 x39) :: some (SV.int IntKind.u64 x40) :: some (SV.int IntKind.u64 x41) :: nn 116 ([]))))
  []) := by kernel_rfl
    rw [e] at hS
    cases hS
    exact ⟨_, (div64_l1_iter x33 x34 x35 x36 x37 x38 x40 Q _ x39 x41).trans hE⟩
noncomputable def div64_l1_lps {α : Type} : LookL α := addLp 69 [false, false, true, true, true, true, true, true, true, true, true, true, true, true, true, true, true, true, true, true] 0 (lEnt (St.mk (none :: none :: some (SV.int IntKind.u64 (0 : Int)) :: nn 5 (some (SV.int IntKind.u64 (0 : Int)) :: some (SV.int IntKind.u64 (0 : Int)) :: some (SV.int IntKind.u64 (0 : Int)) :: nn 3 (some (SV.int IntKind.u64 (0 : Int)) :: some (SV.int IntKind.u64 (0 : Int)) :: some (SV.int IntKind.u64 (0 : Int)) :: some (SV.int IntKind.u64 (0 : Int)) :: some (SV.int IntKind.u64 (0 : Int)) :: nn 116 ([]))))
  []) div64_l1_go) div64_l0_lps
theorem div64_l1_lps_ok {α : Type} : LoopsOk E.P (div64_l1_lps (α := α)) := addLp_ok div64_l1_ok (div64_l0_lps_ok)

noncomputable def _root_.Go.Proofs.Ytkjellhkamfciaa.M.div64 {α : Type} (hi : Int) (lo : Int) (y : Int) (k0 : Int → Int → Option α) : Option α :=
  if cEq y (0 : Int) = true then none
else
  if cLe y hi = true then none
  else
    if cEq hi (0 : Int) = true then if y = (0 : Int) then none else if y = (0 : Int) then none else k0 (IntKind.wrap IntKind.u64 (Int.tdiv lo y)) (Int.tmod lo y)
    else
      if V.lz64_g y = true then
        if IntKind.wrap IntKind.u64 (V.lz64_r0 y) < (0 : Int) then none
        else
          if IntKind.wrap IntKind.u64 (V.lz64_r0 y) < (0 : Int) then none
          else
            if IntKind.wrap IntKind.u64 ((64 : Int) - IntKind.wrap IntKind.u64 (V.lz64_r0 y)) < (0 : Int) then none
            else
              if IntKind.wrap IntKind.u64 (V.lz64_r0 y) < (0 : Int) then none
              else
                if Int.fdiv (IntKind.wrap IntKind.u64 (y * (2 : Int) ^ min (Int.toNat (IntKind.wrap IntKind.u64 (V.lz64_r0 y))) (64 : Nat))) (4294967296 : Int) = (0 : Int) then none
                else
                  M.div64_l0 (Int.fdiv (IntKind.wrap IntKind.u64 (y * (2 : Int) ^ min (Int.toNat (IntKind.wrap IntKind.u64 (V.lz64_r0 y))) (64 : Nat))) (4294967296 : Int)) (bandI IntKind.u64 (IntKind.wrap IntKind.u64 (y * (2 : Int) ^ min (Int.toNat (IntKind.wrap IntKind.u64 (V.lz64_r0 y))) (64 : Nat))) (4294967295 : Int)) (Int.fdiv (IntKind.wrap IntKind.u64 (lo * (2 : Int) ^ min (Int.toNat (IntKind.wrap IntKind.u64 (V.lz64_r0 y))) (64 : Nat))) (4294967296 : Int))
                    (fun (x45 : Int) ↦
                      if Int.fdiv (IntKind.wrap IntKind.u64 (y * (2 : Int) ^ min (Int.toNat (IntKind.wrap IntKind.u64 (V.lz64_r0 y))) (64 : Nat))) (4294967296 : Int) = (0 : Int) then none
                      else
                        M.div64_l1 (Int.fdiv (IntKind.wrap IntKind.u64 (y * (2 : Int) ^ min (Int.toNat (IntKind.wrap IntKind.u64 (V.lz64_r0 y))) (64 : Nat))) (4294967296 : Int)) (bandI IntKind.u64 (IntKind.wrap IntKind.u64 (y * (2 : Int) ^ min (Int.toNat (IntKind.wrap IntKind.u64 (V.lz64_r0 y))) (64 : Nat))) (4294967295 : Int)) (bandI IntKind.u64 (IntKind.wrap IntKind.u64 (lo * (2 : Int) ^ min (Int.toNat (IntKind.wrap IntKind.u64 (V.lz64_r0 y))) (64 : Nat))) (4294967295 : Int))
                          (fun (x46 : Int) ↦
                            if IntKind.wrap IntKind.u64 (V.lz64_r0 y) < (0 : Int) then none
                            else
                              k0 (IntKind.wrap IntKind.u64 (IntKind.wrap IntKind.u64 (x45 * (4294967296 : Int)) + x46))
                                (Int.fdiv
                                  (IntKind.wrap IntKind.u64
                                    (IntKind.wrap IntKind.u64
                                        (IntKind.wrap IntKind.u64
                                            (IntKind.wrap IntKind.u64
                                                (IntKind.wrap IntKind.u64
                                                    (IntKind.wrap IntKind.u64 (borI IntKind.u64 (IntKind.wrap IntKind.u64 (hi * (2 : Int) ^ min (Int.toNat (IntKind.wrap IntKind.u64 (V.lz64_r0 y))) (64 : Nat))) (Int.fdiv lo ((2 : Int) ^ min (Int.toNat (IntKind.wrap IntKind.u64 ((64 : Int) - IntKind.wrap IntKind.u64 (V.lz64_r0 y)))) (64 : Nat))) * (4294967296 : Int)) +
                                                      Int.fdiv (IntKind.wrap IntKind.u64 (lo * (2 : Int) ^ min (Int.toNat (IntKind.wrap IntKind.u64 (V.lz64_r0 y))) (64 : Nat))) (4294967296 : Int)) -
                                                  IntKind.wrap IntKind.u64 (x45 * IntKind.wrap IntKind.u64 (y * (2 : Int) ^ min (Int.toNat (IntKind.wrap IntKind.u64 (V.lz64_r0 y))) (64 : Nat)))) *
                                              (4294967296 : Int)) +
                                          bandI IntKind.u64 (IntKind.wrap IntKind.u64 (lo * (2 : Int) ^ min (Int.toNat (IntKind.wrap IntKind.u64 (V.lz64_r0 y))) (64 : Nat))) (4294967295 : Int)) -
                                      IntKind.wrap IntKind.u64 (x46 * IntKind.wrap IntKind.u64 (y * (2 : Int) ^ min (Int.toNat (IntKind.wrap IntKind.u64 (V.lz64_r0 y))) (64 : Nat)))))
                                  ((2 : Int) ^ min (Int.toNat (IntKind.wrap IntKind.u64 (V.lz64_r0 y))) (64 : Nat))))
                          (100 : Nat)
                          (IntKind.wrap IntKind.u64
                            (IntKind.wrap IntKind.u64
                                (IntKind.wrap IntKind.u64
                                    (IntKind.wrap IntKind.u64 (borI IntKind.u64 (IntKind.wrap IntKind.u64 (hi * (2 : Int) ^ min (Int.toNat (IntKind.wrap IntKind.u64 (V.lz64_r0 y))) (64 : Nat))) (Int.fdiv lo ((2 : Int) ^ min (Int.toNat (IntKind.wrap IntKind.u64 ((64 : Int) - IntKind.wrap IntKind.u64 (V.lz64_r0 y)))) (64 : Nat))) * (4294967296 : Int)) + Int.fdiv (IntKind.wrap IntKind.u64 (lo * (2 : Int) ^ min (Int.toNat (IntKind.wrap IntKind.u64 (V.lz64_r0 y))) (64 : Nat))) (4294967296 : Int)) -
                                  IntKind.wrap IntKind.u64 (x45 * IntKind.wrap IntKind.u64 (y * (2 : Int) ^ min (Int.toNat (IntKind.wrap IntKind.u64 (V.lz64_r0 y))) (64 : Nat)))) -
                              IntKind.wrap IntKind.u64
                                (IntKind.wrap IntKind.u64
                                    (Int.tdiv
                                      (IntKind.wrap IntKind.u64
                                        (IntKind.wrap IntKind.u64
                                            (IntKind.wrap IntKind.u64 (borI IntKind.u64 (IntKind.wrap IntKind.u64 (hi * (2 : Int) ^ min (Int.toNat (IntKind.wrap IntKind.u64 (V.lz64_r0 y))) (64 : Nat))) (Int.fdiv lo ((2 : Int) ^ min (Int.toNat (IntKind.wrap IntKind.u64 ((64 : Int) - IntKind.wrap IntKind.u64 (V.lz64_r0 y)))) (64 : Nat))) * (4294967296 : Int)) +
                                              Int.fdiv (IntKind.wrap IntKind.u64 (lo * (2 : Int) ^ min (Int.toNat (IntKind.wrap IntKind.u64 (V.lz64_r0 y))) (64 : Nat))) (4294967296 : Int)) -
                                          IntKind.wrap IntKind.u64 (x45 * IntKind.wrap IntKind.u64 (y * (2 : Int) ^ min (Int.toNat (IntKind.wrap IntKind.u64 (V.lz64_r0 y))) (64 : Nat)))))
                                      (Int.fdiv (IntKind.wrap IntKind.u64 (y * (2 : Int) ^ min (Int.toNat (IntKind.wrap IntKind.u64 (V.lz64_r0 y))) (64 : Nat))) (4294967296 : Int))) *
                                  Int.fdiv (IntKind.wrap IntKind.u64 (y * (2 : Int) ^ min (Int.toNat (IntKind.wrap IntKind.u64 (V.lz64_r0 y))) (64 : Nat))) (4294967296 : Int))))
                          (IntKind.wrap IntKind.u64
                            (Int.tdiv
                              (IntKind.wrap IntKind.u64
                                (IntKind.wrap IntKind.u64
                                    (IntKind.wrap IntKind.u64 (borI IntKind.u64 (IntKind.wrap IntKind.u64 (hi * (2 : Int) ^ min (Int.toNat (IntKind.wrap IntKind.u64 (V.lz64_r0 y))) (64 : Nat))) (Int.fdiv lo ((2 : Int) ^ min (Int.toNat (IntKind.wrap IntKind.u64 ((64 : Int) - IntKind.wrap IntKind.u64 (V.lz64_r0 y)))) (64 : Nat))) * (4294967296 : Int)) + Int.fdiv (IntKind.wrap IntKind.u64 (lo * (2 : Int) ^ min (Int.toNat (IntKind.wrap IntKind.u64 (V.lz64_r0 y))) (64 : Nat))) (4294967296 : Int)) -
                                  IntKind.wrap IntKind.u64 (x45 * IntKind.wrap IntKind.u64 (y * (2 : Int) ^ min (Int.toNat (IntKind.wrap IntKind.u64 (V.lz64_r0 y))) (64 : Nat)))))
                              (Int.fdiv (IntKind.wrap IntKind.u64 (y * (2 : Int) ^ min (Int.toNat (IntKind.wrap IntKind.u64 (V.lz64_r0 y))) (64 : Nat))) (4294967296 : Int)))))
                    (100 : Nat) (IntKind.wrap IntKind.u64 (Int.tdiv (borI IntKind.u64 (IntKind.wrap IntKind.u64 (hi * (2 : Int) ^ min (Int.toNat (IntKind.wrap IntKind.u64 (V.lz64_r0 y))) (64 : Nat))) (Int.fdiv lo ((2 : Int) ^ min (Int.toNat (IntKind.wrap IntKind.u64 ((64 : Int) - IntKind.wrap IntKind.u64 (V.lz64_r0 y)))) (64 : Nat)))) (Int.fdiv (IntKind.wrap IntKind.u64 (y * (2 : Int) ^ min (Int.toNat (IntKind.wrap IntKind.u64 (V.lz64_r0 y))) (64 : Nat))) (4294967296 : Int))))
                    (IntKind.wrap IntKind.u64
                      (borI IntKind.u64 (IntKind.wrap IntKind.u64 (hi * (2 : Int) ^ min (Int.toNat (IntKind.wrap IntKind.u64 (V.lz64_r0 y))) (64 : Nat))) (Int.fdiv lo ((2 : Int) ^ min (Int.toNat (IntKind.wrap IntKind.u64 ((64 : Int) - IntKind.wrap IntKind.u64 (V.lz64_r0 y)))) (64 : Nat))) -
                        IntKind.wrap IntKind.u64
                          (IntKind.wrap IntKind.u64 (Int.tdiv (borI IntKind.u64 (IntKind.wrap IntKind.u64 (hi * (2 : Int) ^ min (Int.toNat (IntKind.wrap IntKind.u64 (V.lz64_r0 y))) (64 : Nat))) (Int.fdiv lo ((2 : Int) ^ min (Int.toNat (IntKind.wrap IntKind.u64 ((64 : Int) - IntKind.wrap IntKind.u64 (V.lz64_r0 y)))) (64 : Nat)))) (Int.fdiv (IntKind.wrap IntKind.u64 (y * (2 : Int) ^ min (Int.toNat (IntKind.wrap IntKind.u64 (V.lz64_r0 y))) (64 : Nat))) (4294967296 : Int))) *
                            Int.fdiv (IntKind.wrap IntKind.u64 (y * (2 : Int) ^ min (Int.toNat (IntKind.wrap IntKind.u64 (V.lz64_r0 y))) (64 : Nat))) (4294967296 : Int))))
      else none
theorem div64_eq {α : Type} (hi : Int) (lo : Int) (y : Int) (Q : SV → Hp → Option α) : callI E look_lz64 (exec E look_lz64 div64_l1_lps 400) 69 ([SV.int IntKind.u64 hi, SV.int IntKind.u64 lo, SV.int IntKind.u64 y]) ([]) Q = M.div64 hi lo y (fun (x47 : Int) (x48 : Int) => Q (SV.tup [SV.int IntKind.u64 x47, SV.int IntKind.u64 x48]) ([])) := by kernel_rfl
def div64_sp : List AS := [.val (.int .u64 0), .val (.int .u64 0), .val (.int .u64 0)]
noncomputable def div64_go {α : Type} (ds : List D) (Q : SV → Hp → Option α) : Option α :=
  dI ds fun hi ds => dI ds fun lo ds => dI ds fun y ds => dE ds (M.div64 hi lo y (fun (x47 : Int) (x48 : Int) => Q (SV.tup [SV.int IntKind.u64 x47, SV.int IntKind.u64 x48]) ([])))
theorem div64_ok {α : Type} : FnOk E.P 69 (fEnt (α := α) div64_sp div64_go) :=
  fEnt_ok E (look_lz64_ok) (exec_sound E E_ok (look_lz64_ok) (div64_l1_lps_ok) 400) fun ds Q r h => by
    unfold div64_go at h
    obtain ⟨hi, ds, rfl, h1⟩ := dI_inv h
    obtain ⟨lo, ds, rfl, h2⟩ := dI_inv h1
    obtain ⟨y, ds, rfl, h3⟩ := dI_inv h2
    obtain ⟨rfl, hE⟩ := dE_inv h3
    exact ⟨[SV.int IntKind.u64 hi, SV.int IntKind.u64 lo, SV.int IntKind.u64 y], [], fun vs => by kernel_rfl, (div64_eq hi lo y Q).trans hE⟩
theorem u64_in' {n : Int} (h0 : 0 ≤ n) (h1 : n < 18446744073709551616) : IntKind.u64.wrap n = n := IntWalk.u64_in n ⟨h0, by omega⟩
theorem div64_l0_val {α : Type} (yn1 yn0 un1 : Int) (k0 : Int → Option α) (h1 : 2147483648 ≤ yn1) (h1' : yn1 < 4294967296) (h2 : 0 ≤ yn0) (h2' : yn0 < 4294967296) (h3 : 0 ≤ un1) (h3' : un1 < 4294967296)
    (u : Int) (hu : u < yn1 * 4294967296 + yn0) : ∀ (fuel : Nat) (q r : Int), 0 ≤ q → q ≤ 4294967297 → 0 ≤ r → r < 4294967296 → 4294967296 ≤ r + fuel * 2147483648 → q * yn1 + r = u → (u * 4294967296 + un1) / (yn1 * 4294967296 + yn0) ≤ q →
    M.div64_l0 yn1 yn0 un1 k0 fuel q r = k0 ((u * 4294967296 + un1) / (yn1 * 4294967296 + yn0))
  | 0, q, r, a1, a2, a3, a4, a5, a6, a7 => by omega
  | n + 1, q, r, a1, a2, a3, a4, a5, a6, a7 => by
    unfold M.div64_l0 M.div64_l0_step
    have hY : 0 < yn1 * 4294967296 + yn0 := by omega
    generalize hN : u * 4294967296 + un1 = N at *
    have e1 : q * (yn1 * 4294967296 + yn0) = q * yn1 * 4294967296 + q * yn0 := by grind
    have e2 : (q - 1) * (yn1 * 4294967296 + yn0) = q * yn1 * 4294967296 + q * yn0 - yn1 * 4294967296 - yn0 := by grind
    have hrec : N < q * (yn1 * 4294967296 + yn0) → (if cLe (4294967296 : Int) (IntKind.wrap IntKind.u64 (r + yn1)) = true then k0 (IntKind.wrap IntKind.u64 (q - (1 : Int)))
        else M.div64_l0 yn1 yn0 un1 k0 n (IntKind.wrap IntKind.u64 (q - (1 : Int))) (IntKind.wrap IntKind.u64 (r + yn1))) = k0 (N / (yn1 * 4294967296 + yn0)) := by
      intro hlt
      have b1 : N / (yn1 * 4294967296 + yn0) < q := Int.ediv_lt_of_lt_mul hY hlt
      have b0 : 0 ≤ N / (yn1 * 4294967296 + yn0) := by
        by_cases hq : 0 ≤ N
        · exact Int.ediv_nonneg hq (by omega)
        · exfalso
          have : 0 ≤ q * yn1 := Int.mul_nonneg a1 (by omega)
          omega
      rw [u64_in' (by omega : 0 ≤ r + yn1) (by omega), u64_in' (by omega : 0 ≤ q - 1) (by omega), cLe_eq]
      by_cases hb : 4294967296 ≤ r + yn1
      · simp only [hb, decide_true, if_true]
        congr 1
        have : q - 1 ≤ N / (yn1 * 4294967296 + yn0) := by
          apply Int.le_ediv_of_mul_le hY
          rw [e2]
          have : (q - 1) * yn0 ≤ 4294967296 * yn0 := Int.mul_le_mul_of_nonneg_right (by omega) h2
          have e3 : (q - 1) * yn0 = q * yn0 - yn0 := by grind
          omega
        omega
      · simp only [hb, decide_false, Bool.false_eq_true, if_false]
        have := div64_l0_val yn1 yn0 un1 k0 h1 h1' h2 h2' h3 h3' u hu n (q - 1) (r + yn1) (by omega) (by omega) (by omega) (by omega) (by omega) (by grind) (by rw [hN]; omega)
        rw [this, hN]
    simp only [cLe_eq, cLt_eq]
    rw [cLe_eq] at hrec
    have hq0 : 0 ≤ q * yn1 := Int.mul_nonneg a1 (by omega)
    by_cases c1 : 4294967296 ≤ q
    · have hlt : N < q * (yn1 * 4294967296 + yn0) := by
        have : 4294967296 * (yn1 * 4294967296 + yn0) ≤ q * (yn1 * 4294967296 + yn0) := Int.mul_le_mul_of_nonneg_right c1 (by omega)
        omega
      simp only [c1, decide_true, if_true]
      simpa using hrec hlt
    · simp only [c1, decide_false, Bool.false_eq_true, if_false]
      have hm : q * yn0 ≤ 4294967295 * 4294967295 := Int.mul_le_mul (by omega) (by omega) h2 (by omega)
      have hm0 : 0 ≤ q * yn0 := Int.mul_nonneg a1 h2
      rw [u64_in' (by omega : 0 ≤ 4294967296 * r) (by omega), u64_in' (by omega : 0 ≤ 4294967296 * r + un1) (by omega), u64_in' hm0 (by omega)]
      by_cases c2 : 4294967296 * r + un1 < q * yn0
      · simp only [c2, decide_true, if_true]
        simpa using hrec (by rw [e1]; omega)
      · simp only [c2, decide_false, Bool.false_eq_true, if_false]
        congr 1
        have : q ≤ N / (yn1 * 4294967296 + yn0) := by
          apply Int.le_ediv_of_mul_le hY
          rw [e1]; omega
        omega
theorem div64_l1_val {α : Type} (yn1 yn0 un1 : Int) (k0 : Int → Option α) : ∀ (fuel : Nat) (q r : Int), M.div64_l1 yn1 yn0 un1 k0 fuel r q = M.div64_l0 yn1 yn0 un1 k0 fuel q r
  | 0, _, _ => rfl
  | n + 1, q, r => by
    unfold M.div64_l1 M.div64_l0 M.div64_l1_step M.div64_l0_step
    simp only [div64_l1_val yn1 yn0 un1 k0 n]
end Go.Proofs.Ytkjellhkamfciaa.Sx
