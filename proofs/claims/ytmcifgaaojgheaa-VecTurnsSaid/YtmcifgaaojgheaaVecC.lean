/- vec: the laws' first calls. -/
import Derived.Test.YtmcifgaaojgheaaVecB
import Derived.Test.YtmcifgaaojgheaaVecP
namespace Go.Proofs.Ytmcifgaaojgheaa.Sx
open Go
set_option maxRecDepth 20000
set_option linter.unusedVariables false
set_option linter.unusedSimpArgs false
theorem aw1 : V.tCross (4294967296, 0, 0) (0, 4294967296, 0) = some (0, 0, 4294967296) := by
  rw [tCross_some]; exact ⟨by decide, by decide, by decide⟩
theorem aw2 : V.tUnit (3, 0, 4) = some (2576980377, 0, 3435973836) := by
  rw [tUnit_some]
  refine ⟨5, mNorm3_some.2 ⟨by decide, by decide, by decide, ?_, by decide⟩, by decide, by decide, by decide⟩
  exact (isq_eq (by decide)).symm
theorem aw3 : V.tWhole (8589934592, 0, 0, 0) = some (4294967296, 0, 0, 0) := by
  rw [tWhole_some]
  refine ⟨8589934592, mNorm4_some.2 ⟨by decide, by decide, by decide, by decide, ?_, by decide⟩, by decide, by decide, by decide, by decide, by decide⟩
  exact (isq_eq (by decide)).symm
theorem aw4 : V.tRows (4294967296, 0, 0, 0) = some ((4294967296, 0, 0), (0, 4294967296, 0), (0, 0, 4294967296)) := by
  decide +kernel
theorem aw5 : V.tUnit (0, 0, 0) = none := by
  unfold V.tUnit
  have e : V.tLen (0, 0, 0) = some 0 := mNorm3_some.2 ⟨by decide, by decide, by decide, (isq_eq (by decide)).symm, by decide⟩
  rw [e]; decide
noncomputable def _root_.Go.Proofs.Ytmcifgaaojgheaa.M.awake {α : Type} (k0 : Bool → Option α) : Option α :=
  if (cEq (V.x3 (V.tCross ((4294967296 : Int), (0 : Int), (0 : Int)) ((0 : Int), (4294967296 : Int), (0 : Int)))) (0 : Int) && (cEq (V.y3 (V.tCross ((4294967296 : Int), (0 : Int), (0 : Int)) ((0 : Int), (4294967296 : Int), (0 : Int)))) (0 : Int) && (cEq (V.z3 (V.tCross ((4294967296 : Int), (0 : Int), (0 : Int)) ((0 : Int), (4294967296 : Int), (0 : Int)))) (4294967296 : Int) && true))) = true then
  if (cEq (V.x3 (V.tUnit ((3 : Int), (0 : Int), (4 : Int)))) (2576980377 : Int) && (cEq (V.y3 (V.tUnit ((3 : Int), (0 : Int), (4 : Int)))) (0 : Int) && (cEq (V.z3 (V.tUnit ((3 : Int), (0 : Int), (4 : Int)))) (3435973836 : Int) && true))) = true then
    if (cEq (V.w4 (V.tWhole ((8589934592 : Int), (0 : Int), (0 : Int), (0 : Int)))) (4294967296 : Int) && (cEq (V.x4 (V.tWhole ((8589934592 : Int), (0 : Int), (0 : Int), (0 : Int)))) (0 : Int) && (cEq (V.y4 (V.tWhole ((8589934592 : Int), (0 : Int), (0 : Int), (0 : Int)))) (0 : Int) && (cEq (V.z4 (V.tWhole ((8589934592 : Int), (0 : Int), (0 : Int), (0 : Int)))) (0 : Int) && true)))) = true then
      if cEq (V.m4 (V.tRows (V.w4 (V.tWhole ((8589934592 : Int), (0 : Int), (0 : Int), (0 : Int))), V.x4 (V.tWhole ((8589934592 : Int), (0 : Int), (0 : Int), (0 : Int))), V.y4 (V.tWhole ((8589934592 : Int), (0 : Int), (0 : Int), (0 : Int))), V.z4 (V.tWhole ((8589934592 : Int), (0 : Int), (0 : Int), (0 : Int)))))) (4294967296 : Int) = true then
        if
            (!V.on (V.tRows (V.w4 (V.tWhole ((8589934592 : Int), (0 : Int), (0 : Int), (0 : Int))), V.x4 (V.tWhole ((8589934592 : Int), (0 : Int), (0 : Int), (0 : Int))), V.y4 (V.tWhole ((8589934592 : Int), (0 : Int), (0 : Int), (0 : Int))), V.z4 (V.tWhole ((8589934592 : Int), (0 : Int), (0 : Int), (0 : Int)))))
                  (V.on (V.tWhole ((8589934592 : Int), (0 : Int), (0 : Int), (0 : Int))) (V.on (V.tUnit ((3 : Int), (0 : Int), (4 : Int))) (V.on (V.tCross ((4294967296 : Int), (0 : Int), (0 : Int)) ((0 : Int), (4294967296 : Int), (0 : Int))) false)))) =
              true then
          if (cEq (V.x3 (V.tUnit ((0 : Int), (0 : Int), (0 : Int)))) (0 : Int) && (cEq (V.y3 (V.tUnit ((0 : Int), (0 : Int), (0 : Int)))) (0 : Int) && (cEq (V.z3 (V.tUnit ((0 : Int), (0 : Int), (0 : Int)))) (0 : Int) && true))) = true then
            k0
              (V.on (V.tUnit ((0 : Int), (0 : Int), (0 : Int)))
                (V.on (V.tRows (V.w4 (V.tWhole ((8589934592 : Int), (0 : Int), (0 : Int), (0 : Int))), V.x4 (V.tWhole ((8589934592 : Int), (0 : Int), (0 : Int), (0 : Int))), V.y4 (V.tWhole ((8589934592 : Int), (0 : Int), (0 : Int), (0 : Int))), V.z4 (V.tWhole ((8589934592 : Int), (0 : Int), (0 : Int), (0 : Int)))))
                  (V.on (V.tWhole ((8589934592 : Int), (0 : Int), (0 : Int), (0 : Int))) (V.on (V.tUnit ((3 : Int), (0 : Int), (4 : Int))) (V.on (V.tCross ((4294967296 : Int), (0 : Int), (0 : Int)) ((0 : Int), (4294967296 : Int), (0 : Int))) false)))))
          else k0 false
        else k0 false
      else k0 false
    else k0 false
  else k0 false
else k0 false
theorem awake_eq {α : Type} (Q : SV → Hp → Option α) : callI E look_vspin (exec E look_vspin noLps 400) 10 ([]) ([]) Q = Go.Proofs.Ytmcifgaaojgheaa.M.awake (fun (x0 : Bool) => Q (SV.bool x0) ([])) := by kernel_rfl
def awake_sp : List AS := []
noncomputable def awake_go {α : Type} (ds : List D) (Q : SV → Hp → Option α) : Option α :=
  dE ds (Go.Proofs.Ytmcifgaaojgheaa.M.awake (fun (x0 : Bool) => Q (SV.bool x0) ([])))
theorem awake_ok {α : Type} : FnOk E.P 10 (fEnt (α := α) awake_sp awake_go) :=
  fEnt_ok E (look_vspin_ok) (exec_sound E E_ok (look_vspin_ok) (noLps_ok _) 400) fun ds Q r h => by
    unfold awake_go at h
    obtain ⟨rfl, hE⟩ := dE_inv h
    exact ⟨[], [], fun vs => by kernel_rfl, (awake_eq Q).trans hE⟩
theorem awake_v {α : Type} (k0 : Bool → Option α) : M.awake k0 = k0 true := by
  unfold M.awake
  simp only [aw1, aw2, aw3, V.w4, V.x4, V.y4, V.z4, V.q4, V.x3, V.y3, V.z3, V.q3, Option.getD_some, aw4, aw5, V.m4, V.q9, Option.getD_none, cEq_eq, on_some, on_none]
  rfl
noncomputable def awake_h {α : Type} (ds : List D) (Q : SV → Hp → Option α) : Option α :=
  dE ds (Q (.bool true) ([]))
theorem awake_h_ok {α : Type} : FnOk E.P 10 (fEnt (α := α) awake_sp awake_h) :=
  fEnt_ok E (look_vspin_ok) (exec_sound E E_ok (look_vspin_ok) (noLps_ok _) 400) fun ds Q r h => by
    unfold awake_h at h
    obtain ⟨rfl, hE⟩ := dE_inv h
    exact ⟨[], [], fun vs => by kernel_rfl, (awake_eq Q).trans ((awake_v _).trans hE)⟩
noncomputable def look_awake {α : Type} : LookF α := addFn 10 (fEnt awake_sp awake_h) look_vspin
theorem look_awake_ok {α : Type} : LookOk E.P (look_awake (α := α)) := addFn_ok awake_h_ok (look_vspin_ok)
end Go.Proofs.Ytmcifgaaojgheaa.Sx
