/- The loops that look for a great number. -/
import Derived.Test.YtkjellhkamfciaaFxA
import Derived.IntWalk
namespace Go.Proofs.Ytkjellhkamfciaa.Sx
open Go
set_option maxRecDepth 20000
set_option linter.unusedVariables false
set_option linter.unusedSimpArgs false
def isG (n : Int) : Bool := decide (n < -4611686018427387903) || decide (4611686018427387903 < n)
def _root_.Go.Proofs.Ytkjellhkamfciaa.V.anyG (l : List Int) : Bool := l.any isG
theorem drop_any (l : List Int) (i : Nat) (h : i < l.length) : (l.drop i).any isG = (isG (l.getD i 0) || (l.drop (i + 1)).any isG) := by
  rw [List.drop_eq_getElem_cons h, List.any_cons]; simp [List.getD_eq_getElem?_getD, h]
theorem getD_toNat (l : List Int) (i : Nat) : l.getD (Int.toNat (i : Int)) 0 = l.getD i 0 := by simp
noncomputable def _root_.Go.Proofs.Ytkjellhkamfciaa.M.great_l0_step {α : Type} (x6 : List Int) (x7 : Int) (kn : Int → Option α) (k0 : Option α) (k2 : Option α) (x8 : Int) : Option α :=
  if cLt x8 x7 = true then if (0 : Int) ≤ x8 ∧ x8 < (↑(List.length x6) : Int) then if cLt (List.getD x6 (Int.toNat x8) (0 : Int)) (-4611686018427387903 : Int) = true then k0 else if cLt (4611686018427387903 : Int) (List.getD x6 (Int.toNat x8) (0 : Int)) = true then k0 else kn (IntKind.wrap .i64 (x8 + (1 : Int))) else none else k2
noncomputable def _root_.Go.Proofs.Ytkjellhkamfciaa.M.great_l0 {α : Type} (x6 : List Int) (x7 : Int) (k0 : Option α) (k2 : Option α) : Nat → Int → Option α
  | 0, _ => none
  | n + 1, x8 => M.great_l0_step x6 x7 (M.great_l0 x6 x7 k0 k2 n) k0 k2 x8
theorem great_l0_step_eq {α : Type} (x5 : Value) (x6 : List Int) (x7 : Int) (x8 : Int) (Q : Ex → St → Option α) : (loopStep E (exec E look_tells noLps 400) 63 [false, true, false, true] 0 (codeAt E.P 63 [false, true, false, true])) (St.mk (nn 5 (some (SV.ros x5 (K.int IntKind.i64) x6) :: some (SV.int .i64 x7) :: some (SV.int .i64 x8) :: nn 10 ([]))) []) Q = M.great_l0_step x6 x7 (fun (x9 : Int) => Q .normal (St.mk (nn 5 (some (SV.ros x5 (K.int IntKind.i64) x6) :: some (SV.int .i64 x7) :: some (SV.int .i64 x9) :: nn 10 ([]))) [])) (Q .ret (St.mk (none :: none :: some (SV.bool true) :: nn 15 ([])) [])) (Q (.exit 0) (St.mk (nn 18 ([])) [])) x8 := by kernel_rfl
theorem great_l0_iter {α : Type} (x5 : Value) (x6 : List Int) (x7 : Int) (Q : Ex → St → Option α) : ∀ (n : Nat) (x8 : Int), iter (loopStep E (exec E look_tells noLps 400) 63 [false, true, false, true] 0 (codeAt E.P 63 [false, true, false, true])) n (St.mk (nn 5 (some (SV.ros x5 (K.int IntKind.i64) x6) :: some (SV.int .i64 x7) :: some (SV.int .i64 x8) :: nn 10 ([]))) []) Q = M.great_l0 x6 x7 (Q .ret (St.mk (none :: none :: some (SV.bool true) :: nn 15 ([])) [])) (Q (.exit 0) (St.mk (nn 18 ([])) [])) n x8
  | 0, _ => rfl
  | n + 1, x8 => (great_l0_step_eq x5 x6 x7 x8 (iterK (loopStep E (exec E look_tells noLps 400) 63 [false, true, false, true] 0 (codeAt E.P 63 [false, true, false, true])) n Q)).trans (congrArg (fun kn => M.great_l0_step x6 x7 kn (Q .ret (St.mk (none :: none :: some (SV.bool true) :: nn 15 ([])) [])) (Q (.exit 0) (St.mk (nn 18 ([])) [])) x8) (funext fun x8 => great_l0_iter x5 x6 x7 Q n x8))
noncomputable def great_l0_go {α : Type} (ds : List D) (Q : Ex → St → Option α) : Option α :=
  dV ds fun x5 ds => dL (K.int IntKind.i64) ds fun x6 ds => dI ds fun x7 ds => dI ds fun x8 ds => dE ds (M.great_l0 x6 x7 (Q .ret (St.mk (none :: none :: some (SV.bool true) :: nn 15 ([])) [])) (Q (.exit 0) (St.mk (nn 18 ([])) [])) (100 + x6.length) x8)
theorem great_l0_ok {α : Type} : LoopOk E.P 63 [false, true, false, true] 0 (lEnt (α := α) (St.mk (nn 5 (some (SV.ros undef (K.int IntKind.i64) []) :: some (SV.int .i64 (0 : Int)) :: some (SV.int .i64 (0 : Int)) :: nn 10 ([]))) []) great_l0_go) :=
  lEnt_ok E (exec_sound E E_ok (look_tells_ok) (noLps_ok _) 400) fun ds Q r h S hS => by
    unfold great_l0_go at h
    obtain ⟨x5, ds, rfl, h1⟩ := dV_inv h
    obtain ⟨x6, ds, rfl, h2⟩ := dL_inv h1
    obtain ⟨x7, ds, rfl, h3⟩ := dI_inv h2
    obtain ⟨x8, ds, rfl, h4⟩ := dI_inv h3
    obtain ⟨rfl, hE⟩ := dE_inv h4
    have e : fillS (St.mk (nn 5 (some (SV.ros undef (K.int IntKind.i64) []) :: some (SV.int .i64 (0 : Int)) :: some (SV.int .i64 (0 : Int)) :: nn 10 ([]))) []) [.v x5, .l (K.int IntKind.i64) x6, .i x7, .i x8] = some (St.mk (nn 5 (some (SV.ros x5 (K.int IntKind.i64) x6) :: some (SV.int .i64 x7) :: some (SV.int .i64 x8) :: nn 10 ([]))) []) := by kernel_rfl
    rw [e] at hS
    cases hS
    exact ⟨_, (great_l0_iter x5 x6 x7 Q _ x8).trans hE⟩
noncomputable def great_l0_lps {α : Type} : LookL α := addLp 63 [false, true, false, true] 0 (lEnt (St.mk (nn 5 (some (SV.ros undef (K.int IntKind.i64) []) :: some (SV.int .i64 (0 : Int)) :: some (SV.int .i64 (0 : Int)) :: nn 10 ([]))) []) great_l0_go) noLps
theorem great_l0_lps_ok {α : Type} : LoopsOk E.P (great_l0_lps (α := α)) := addLp_ok great_l0_ok (noLps_ok _)

noncomputable def _root_.Go.Proofs.Ytkjellhkamfciaa.M.great {α : Type} (l : List Int) (k0 : Bool → Option α) : Option α :=
  M.great_l0 l (↑(List.length l) : Int) (k0 true) (k0 false) ((100 : Nat) + List.length l) (0 : Int)
theorem great_eq {α : Type} (l : List Int) (v10 : Value) (Q : SV → Hp → Option α) : callI E look_tells (exec E look_tells great_l0_lps 400) 63 ([SV.ros v10 (K.int IntKind.i64) l]) ([]) Q = M.great l (fun (x11 : Bool) => Q (SV.bool x11) ([])) := by kernel_rfl
def great_sp : List AS := [.ro (.int .i64)]
theorem great_l0_val {α : Type} (l : List Int) (hl : l.length < 9223372036854775808) (k0 : Option α) (k2 : Option α) : ∀ (fuel i : Nat), i ≤ l.length → l.length - i < fuel →
    M.great_l0 l (l.length : Int) k0 k2 fuel (i : Int) = if (l.drop i).any isG = true then k0 else k2
  | 0, i, h1, h2 => by omega
  | n + 1, i, h1, h2 => by
    unfold M.great_l0 M.great_l0_step
    by_cases hi : i < l.length
    · have ih := great_l0_val l hl k0 k2 n (i + 1) (by omega) (by omega)
      rw [IntWalk.i64_in _ (by omega : -9223372036854775808 ≤ (i : Int) + 1 ∧ (i : Int) + 1 ≤ 9223372036854775807), drop_any l i hi]
      push_cast at ih
      rw [ih]
      simp only [cLt_eq, getD_toNat, isG]
      have : (i : Int) < (l.length : Int) := by omega
      simp only [this, decide_true, if_true, Int.natCast_nonneg, and_self]
      generalize l.getD i 0 = y
      generalize (l.drop (i + 1)).any isG = z
      by_cases a : y < -4611686018427387903
      · simp [a]
      · by_cases b : 4611686018427387903 < y <;> simp [a, b]
    · have : i = l.length := by omega
      subst this
      simp [cLt_eq]
theorem great_val {α : Type} (l : List Int) (hl : l.length < 9223372036854775808) (k0 : Bool → Option α) : M.great l k0 = k0 (V.anyG l) := by
  unfold M.great
  have := great_l0_val l hl (k0 true) (k0 false) (100 + l.length) 0 (by omega) (by omega)
  rw [Int.natCast_zero] at this
  rw [this, V.anyG, List.drop_zero]
  cases l.any isG <;> rfl
noncomputable def great_c {α : Type} (ds : List D) (Q : SV → Hp → Option α) : Option α :=
  dL (.int .i64) ds fun l ds => dE ds (if l.length < 9223372036854775808 then Q (.bool (V.anyG l)) [] else none)
theorem great_c_ok {α : Type} : FnOk E.P 63 (fEnt (α := α) great_sp great_c) :=
  fEntR_ok E look_tells_ok (exec_sound E E_ok look_tells_ok great_l0_lps_ok 400) fun ds Q r h => by
    unfold great_c at h
    obtain ⟨l, ds, rfl, h1⟩ := dL_inv h
    obtain ⟨rfl, hE⟩ := dE_inv h1
    split at hE
    · rename_i hl
      exact ⟨_, _, hE, fun vs => ⟨[.ros (vs.headD undef) (.int .i64) l], [], by kernel_rfl, (great_eq l _ _).trans (great_val l hl _)⟩⟩
    · cases hE
noncomputable def look_great {α : Type} : LookF α := addFn 63 (fEnt great_sp great_c) look_tells
theorem look_great_ok {α : Type} : LookOk E.P (look_great (α := α)) := addFn_ok great_c_ok (look_tells_ok)
noncomputable def _root_.Go.Proofs.Ytkjellhkamfciaa.M.rgreat_l0_step {α : Type} (x17 : List Int) (kn : Int → Option α) (k0 : Option α) (k2 : Option α) (x18 : Int) : Option α :=
  if cLt x18 (↑(List.length x17) : Int) = true then if (0 : Int) ≤ x18 ∧ x18 < (↑(List.length x17) : Int) then if cLt (List.getD x17 (Int.toNat x18) (0 : Int)) (-4611686018427387903 : Int) = true then k0 else if (0 : Int) ≤ x18 ∧ x18 < (↑(List.length x17) : Int) then if cLt (4611686018427387903 : Int) (List.getD x17 (Int.toNat x18) (0 : Int)) = true then k0 else kn (IntKind.wrap .i64 (x18 + (1 : Int))) else none else none else k2
noncomputable def _root_.Go.Proofs.Ytkjellhkamfciaa.M.rgreat_l0 {α : Type} (x17 : List Int) (k0 : Option α) (k2 : Option α) : Nat → Int → Option α
  | 0, _ => none
  | n + 1, x18 => M.rgreat_l0_step x17 (M.rgreat_l0 x17 k0 k2 n) k0 k2 x18
theorem rgreat_l0_step_eq {α : Type} (x16 : Value) (x17 : List Int) (x18 : Int) (Q : Ex → St → Option α) : (loopStep E (exec E look_great noLps 400) 71 [false, true, false, true] 0 (codeAt E.P 71 [false, true, false, true])) (St.mk (some (SV.ros x16 (K.int IntKind.i64) x17) :: none :: none :: some (SV.int .i64 x18) :: nn 18 ([])) []) Q = M.rgreat_l0_step x17 (fun (x19 : Int) => Q .normal (St.mk (some (SV.ros x16 (K.int IntKind.i64) x17) :: none :: none :: some (SV.int .i64 x19) :: nn 18 ([])) [])) (Q .ret (St.mk (none :: none :: some (SV.bool true) :: nn 19 ([])) [])) (Q (.exit 0) (St.mk (nn 22 ([])) [])) x18 := by kernel_rfl
theorem rgreat_l0_iter {α : Type} (x16 : Value) (x17 : List Int) (Q : Ex → St → Option α) : ∀ (n : Nat) (x18 : Int), iter (loopStep E (exec E look_great noLps 400) 71 [false, true, false, true] 0 (codeAt E.P 71 [false, true, false, true])) n (St.mk (some (SV.ros x16 (K.int IntKind.i64) x17) :: none :: none :: some (SV.int .i64 x18) :: nn 18 ([])) []) Q = M.rgreat_l0 x17 (Q .ret (St.mk (none :: none :: some (SV.bool true) :: nn 19 ([])) [])) (Q (.exit 0) (St.mk (nn 22 ([])) [])) n x18
  | 0, _ => rfl
  | n + 1, x18 => (rgreat_l0_step_eq x16 x17 x18 (iterK (loopStep E (exec E look_great noLps 400) 71 [false, true, false, true] 0 (codeAt E.P 71 [false, true, false, true])) n Q)).trans (congrArg (fun kn => M.rgreat_l0_step x17 kn (Q .ret (St.mk (none :: none :: some (SV.bool true) :: nn 19 ([])) [])) (Q (.exit 0) (St.mk (nn 22 ([])) [])) x18) (funext fun x18 => rgreat_l0_iter x16 x17 Q n x18))
noncomputable def rgreat_l0_go {α : Type} (ds : List D) (Q : Ex → St → Option α) : Option α :=
  dV ds fun x16 ds => dL (K.int IntKind.i64) ds fun x17 ds => dI ds fun x18 ds => dE ds (M.rgreat_l0 x17 (Q .ret (St.mk (none :: none :: some (SV.bool true) :: nn 19 ([])) [])) (Q (.exit 0) (St.mk (nn 22 ([])) [])) (100 + x17.length) x18)
theorem rgreat_l0_ok {α : Type} : LoopOk E.P 71 [false, true, false, true] 0 (lEnt (α := α) (St.mk (some (SV.ros undef (K.int IntKind.i64) []) :: none :: none :: some (SV.int .i64 (0 : Int)) :: nn 18 ([])) []) rgreat_l0_go) :=
  lEnt_ok E (exec_sound E E_ok (look_great_ok) (noLps_ok _) 400) fun ds Q r h S hS => by
    unfold rgreat_l0_go at h
    obtain ⟨x16, ds, rfl, h1⟩ := dV_inv h
    obtain ⟨x17, ds, rfl, h2⟩ := dL_inv h1
    obtain ⟨x18, ds, rfl, h3⟩ := dI_inv h2
    obtain ⟨rfl, hE⟩ := dE_inv h3
    have e : fillS (St.mk (some (SV.ros undef (K.int IntKind.i64) []) :: none :: none :: some (SV.int .i64 (0 : Int)) :: nn 18 ([])) []) [.v x16, .l (K.int IntKind.i64) x17, .i x18] = some (St.mk (some (SV.ros x16 (K.int IntKind.i64) x17) :: none :: none :: some (SV.int .i64 x18) :: nn 18 ([])) []) := by kernel_rfl
    rw [e] at hS
    cases hS
    exact ⟨_, (rgreat_l0_iter x16 x17 Q _ x18).trans hE⟩
noncomputable def rgreat_l0_lps {α : Type} : LookL α := addLp 71 [false, true, false, true] 0 (lEnt (St.mk (some (SV.ros undef (K.int IntKind.i64) []) :: none :: none :: some (SV.int .i64 (0 : Int)) :: nn 18 ([])) []) rgreat_l0_go) noLps
theorem rgreat_l0_lps_ok {α : Type} : LoopsOk E.P (rgreat_l0_lps (α := α)) := addLp_ok rgreat_l0_ok (noLps_ok _)

noncomputable def _root_.Go.Proofs.Ytkjellhkamfciaa.M.rgreat {α : Type} (l : List Int) (k0 : Bool → Option α) : Option α :=
  M.rgreat_l0 l (k0 true) (k0 false) ((100 : Nat) + List.length l) (0 : Int)
theorem rgreat_eq {α : Type} (l : List Int) (v20 : Value) (Q : SV → Hp → Option α) : callI E look_great (exec E look_great rgreat_l0_lps 400) 71 ([SV.ros v20 (K.int IntKind.i64) l]) ([]) Q = M.rgreat l (fun (x21 : Bool) => Q (SV.bool x21) ([])) := by kernel_rfl
def rgreat_sp : List AS := [.ro (.int .i64)]
theorem rgreat_l0_val {α : Type} (l : List Int) (hl : l.length < 9223372036854775808) (k0 : Option α) (k2 : Option α) : ∀ (fuel i : Nat), i ≤ l.length → l.length - i < fuel →
    M.rgreat_l0 l k0 k2 fuel (i : Int) = if (l.drop i).any isG = true then k0 else k2
  | 0, i, h1, h2 => by omega
  | n + 1, i, h1, h2 => by
    unfold M.rgreat_l0 M.rgreat_l0_step
    by_cases hi : i < l.length
    · have ih := rgreat_l0_val l hl k0 k2 n (i + 1) (by omega) (by omega)
      rw [IntWalk.i64_in _ (by omega : -9223372036854775808 ≤ (i : Int) + 1 ∧ (i : Int) + 1 ≤ 9223372036854775807), drop_any l i hi]
      push_cast at ih
      rw [ih]
      simp only [cLt_eq, getD_toNat, isG]
      have : (i : Int) < (l.length : Int) := by omega
      simp only [this, decide_true, if_true, Int.natCast_nonneg, and_self]
      generalize l.getD i 0 = y
      generalize (l.drop (i + 1)).any isG = z
      by_cases a : y < -4611686018427387903
      · simp [a]
      · by_cases b : 4611686018427387903 < y <;> simp [a, b]
    · have : i = l.length := by omega
      subst this
      simp [cLt_eq]
theorem rgreat_val {α : Type} (l : List Int) (hl : l.length < 9223372036854775808) (k0 : Bool → Option α) : M.rgreat l k0 = k0 (V.anyG l) := by
  unfold M.rgreat
  have := rgreat_l0_val l hl (k0 true) (k0 false) (100 + l.length) 0 (by omega) (by omega)
  rw [Int.natCast_zero] at this
  rw [this, V.anyG, List.drop_zero]
  cases l.any isG <;> rfl
theorem rgreat_c_ok {α : Type} : FnOk E.P 71 (fEnt (α := α) rgreat_sp great_c) :=
  fEntR_ok E look_great_ok (exec_sound E E_ok look_great_ok rgreat_l0_lps_ok 400) fun ds Q r h => by
    unfold great_c at h
    obtain ⟨l, ds, rfl, h1⟩ := dL_inv h
    obtain ⟨rfl, hE⟩ := dE_inv h1
    split at hE
    · rename_i hl
      exact ⟨_, _, hE, fun vs => ⟨[.ros (vs.headD undef) (.int .i64) l], [], by kernel_rfl, (rgreat_eq l _ _).trans (rgreat_val l hl _)⟩⟩
    · cases hE
noncomputable abbrev rgreat_c {α : Type} := great_c (α := α)
noncomputable def look_rgreat {α : Type} : LookF α := addFn 71 (fEnt rgreat_sp rgreat_c) look_great
theorem look_rgreat_ok {α : Type} : LookOk E.P (look_rgreat (α := α)) := addFn_ok rgreat_c_ok (look_great_ok)
end Go.Proofs.Ytkjellhkamfciaa.Sx
