/- fx: the laws' first calls. -/
import Derived.Test.YtdkkbbpmjpcfkaaFxG
namespace Go.Proofs.Ytdkkbbpmjpcfkaa.Sx
open Go
set_option linter.unusedVariables false
set_option linter.unusedSimpArgs false
noncomputable def _root_.Go.Proofs.Ytdkkbbpmjpcfkaa.M.awake {α : Type} (k0 : Bool → Option α) : Option α :=
  if cEq (25769803776 : Int) (25769803776 : Int) = true then
  if cEq (-1 : Int) (-1 : Int) = true then
    if cEq (1431655765 : Int) (1431655765 : Int) = true then
      if cEq (V.gv (V.mRoot (8589934592 : Int))) (6074000999 : Int) = true then
        if cEq (V.gv (V.mNorm [(3 : Int), (4 : Int)])) (5 : Int) = true then
          if
              (!V.gn (V.mNorm [(3 : Int), (4 : Int)])
                    (V.gn (V.mRoot (8589934592 : Int))
                      (V.gn (V.mDiv (4294967296 : Int) (12884901888 : Int)) (V.gn (V.mMul (-1 : Int) (1 : Int)) (V.gn (V.mMul (8589934592 : Int) (12884901888 : Int)) false))))) =
                true then
            if cEq (0 : Int) (0 : Int) = true then
              if cEq (2 : Int) (2 : Int) = true then
                k0
                  (V.gn (V.mAdd (1 : Int) (1 : Int))
                    (V.gn (V.mDiv (1 : Int) (0 : Int))
                      (V.gn (V.mNorm [(3 : Int), (4 : Int)])
                        (V.gn (V.mRoot (8589934592 : Int))
                          (V.gn (V.mDiv (4294967296 : Int) (12884901888 : Int))
                            (V.gn (V.mMul (-1 : Int) (1 : Int)) (V.gn (V.mMul (8589934592 : Int) (12884901888 : Int)) false)))))))
              else k0 false
            else k0 false
          else k0 false
        else k0 false
      else k0 false
    else k0 false
  else k0 false
else k0 false
theorem awake_eq {α : Type} (Q : SV → Hp → Option α) : callI E look_norm (exec E look_norm noLps 400) 12 ([]) ([]) Q = Go.Proofs.Ytdkkbbpmjpcfkaa.M.awake (fun (x0 : Bool) => Q (SV.bool x0) ([])) := by kernel_rfl
def awake_sp : List AS := []
noncomputable def _root_.Go.Proofs.Ytdkkbbpmjpcfkaa.V.awake_r0 : Bool :=
  if cEq (25769803776 : Int) (25769803776 : Int) = true then
  if cEq (-1 : Int) (-1 : Int) = true then
    if cEq (1431655765 : Int) (1431655765 : Int) = true then
      if cEq (V.gv (V.mRoot (8589934592 : Int))) (6074000999 : Int) = true then
        if cEq (V.gv (V.mNorm [(3 : Int), (4 : Int)])) (5 : Int) = true then
          if
              (!V.gn (V.mNorm [(3 : Int), (4 : Int)])
                    (V.gn (V.mRoot (8589934592 : Int))
                      (V.gn (V.mDiv (4294967296 : Int) (12884901888 : Int)) (V.gn (V.mMul (-1 : Int) (1 : Int)) (V.gn (V.mMul (8589934592 : Int) (12884901888 : Int)) false))))) =
                true then
            if cEq (0 : Int) (0 : Int) = true then
              if cEq (2 : Int) (2 : Int) = true then
                V.gn (V.mAdd (1 : Int) (1 : Int))
                  (V.gn (V.mDiv (1 : Int) (0 : Int))
                    (V.gn (V.mNorm [(3 : Int), (4 : Int)])
                      (V.gn (V.mRoot (8589934592 : Int))
                        (V.gn (V.mDiv (4294967296 : Int) (12884901888 : Int)) (V.gn (V.mMul (-1 : Int) (1 : Int)) (V.gn (V.mMul (8589934592 : Int) (12884901888 : Int)) false))))))
              else false
            else false
          else false
        else false
      else false
    else false
  else false
else false
theorem awake_val {α : Type} (k0 : Bool → Option α) : Go.Proofs.Ytdkkbbpmjpcfkaa.M.awake k0 = k0 (Go.Proofs.Ytdkkbbpmjpcfkaa.V.awake_r0) := by
  unfold Go.Proofs.Ytdkkbbpmjpcfkaa.M.awake Go.Proofs.Ytdkkbbpmjpcfkaa.V.awake_r0
  repeat' first | rfl | (split <;> rename_i h <;> first | simp only [if_pos h] | simp only [if_neg h] | skip)
noncomputable def awake_c {α : Type} (ds : List D) (Q : SV → Hp → Option α) : Option α :=
  dE ds (Q (SV.bool (Go.Proofs.Ytdkkbbpmjpcfkaa.V.awake_r0)) ([]))
theorem awake_c_ok {α : Type} : FnOk E.P 12 (fEnt (α := α) awake_sp awake_c) :=
  fEnt_ok E (look_norm_ok) (exec_sound E E_ok (look_norm_ok) (noLps_ok _) 400) fun ds Q r h => by
    unfold awake_c at h
    obtain ⟨rfl, hE⟩ := dE_inv h
    exact ⟨[], [], fun vs => by kernel_rfl, (awake_eq Q).trans ((awake_val (fun (x0 : Bool) => Q (SV.bool x0) ([]))).trans hE)⟩
noncomputable def awake_go {α : Type} (ds : List D) (Q : SV → Hp → Option α) : Option α :=
  dE ds (Go.Proofs.Ytdkkbbpmjpcfkaa.M.awake (fun (x0 : Bool) => Q (SV.bool x0) ([])))
theorem awake_ok {α : Type} : FnOk E.P 12 (fEnt (α := α) awake_sp awake_go) :=
  fEnt_ok E (look_norm_ok) (exec_sound E E_ok (look_norm_ok) (noLps_ok _) 400) fun ds Q r h => by
    unfold awake_go at h
    obtain ⟨rfl, hE⟩ := dE_inv h
    exact ⟨[], [], fun vs => by kernel_rfl, (awake_eq Q).trans hE⟩
theorem root2 : V.mRoot 8589934592 = some 6074000999 := by
  unfold V.mRoot V.mRt
  rw [isq_eq (r := 6074000999) (by decide)]
  decide
theorem norm34 : V.mNorm [3, 4] = some 5 := by
  unfold V.mNorm V.mRt
  rw [show V.dotZ [3, 4] [3, 4] = 25 by decide, isq_eq (r := 5) (by decide)]
  decide
theorem awake_v {α : Type} (k0 : Bool → Option α) : M.awake k0 = k0 true := by
  unfold M.awake
  rw [root2, norm34]
  simp only [cEq_eq, V.gv, V.gn, Option.getD_some, Option.isNone_some, beq_self_eq_true, if_true, Bool.false_or, Bool.or_false]
  rw [show V.mDiv 4294967296 12884901888 = some 1431655765 by decide, show V.mMul (-1) 1 = some (-1) by decide, show V.mMul 8589934592 12884901888 = some 25769803776 by decide, show V.mAdd 1 1 = some 2 by decide, show V.mDiv 1 0 = none by decide]
  rfl
noncomputable def awake_h {α : Type} (ds : List D) (Q : SV → Hp → Option α) : Option α :=
  dE ds (Q (.bool true) ([]))
theorem awake_h_ok {α : Type} : FnOk E.P 12 (fEnt (α := α) awake_sp awake_h) :=
  fEnt_ok E (look_norm_ok) (exec_sound E E_ok (look_norm_ok) (noLps_ok _) 400) fun ds Q r h => by
    unfold awake_h at h
    obtain ⟨rfl, hE⟩ := dE_inv h
    exact ⟨[], [], fun vs => by kernel_rfl, (awake_eq Q).trans ((awake_v _).trans hE)⟩
noncomputable def look_awake {α : Type} : LookF α := addFn 12 (fEnt awake_sp awake_h) look_norm
theorem look_awake_ok {α : Type} : LookOk E.P (look_awake (α := α)) := addFn_ok awake_h_ok (look_norm_ok)
end Go.Proofs.Ytdkkbbpmjpcfkaa.Sx
