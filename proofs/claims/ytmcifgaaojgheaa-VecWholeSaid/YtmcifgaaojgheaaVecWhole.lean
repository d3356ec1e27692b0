/- VecWhole: its run tells true. -/
import Derived.Test.YtmcifgaaojgheaaVecC
import Derived.Test.YtmcifgaaojgheaaVecT
namespace Go.Proofs.Ytmcifgaaojgheaa.Sx
open Go
set_option maxRecDepth 20000
set_option linter.unusedVariables false
set_option linter.unusedSimpArgs false
noncomputable def _root_.Go.Proofs.Ytmcifgaaojgheaa.M.small {α : Type} (ax : Int) (ay : Int) (az : Int) (n : Int) (k0 : Bool → Option α) : Option α :=
  if cLe (IntKind.wrap IntKind.i64 ((0 : Int) - n)) ax = true then if cLe ax n = true then if cLe (IntKind.wrap IntKind.i64 ((0 : Int) - n)) ay = true then if cLe ay n = true then if cLe (IntKind.wrap IntKind.i64 ((0 : Int) - n)) az = true then k0 (cLe az n) else k0 false else k0 false else k0 false else k0 false else k0 false
theorem small_eq {α : Type} (ax : Int) (ay : Int) (az : Int) (n : Int) (Q : SV → Hp → Option α) : callI E look_awake (exec E look_awake noLps 400) 12 ([SV.agg [SV.int IntKind.i64 ax, SV.int IntKind.i64 ay, SV.int IntKind.i64 az], SV.int IntKind.i64 n]) ([]) Q = Go.Proofs.Ytmcifgaaojgheaa.M.small ax ay az n (fun (x0 : Bool) => Q (SV.bool x0) ([])) := by kernel_rfl
def small_sp : List AS := [.val (.agg [.int .i64 0, .int .i64 0, .int .i64 0]), .val (.int .i64 0)]
noncomputable def _root_.Go.Proofs.Ytmcifgaaojgheaa.V.small_r0 (ax : Int) (ay : Int) (az : Int) (n : Int) : Bool :=
  if cLe (IntKind.wrap IntKind.i64 ((0 : Int) - n)) ax = true then if cLe ax n = true then if cLe (IntKind.wrap IntKind.i64 ((0 : Int) - n)) ay = true then if cLe ay n = true then if cLe (IntKind.wrap IntKind.i64 ((0 : Int) - n)) az = true then cLe az n else false else false else false else false else false
theorem small_val {α : Type} (ax : Int) (ay : Int) (az : Int) (n : Int) (k0 : Bool → Option α) : Go.Proofs.Ytmcifgaaojgheaa.M.small ax ay az n k0 = k0 (Go.Proofs.Ytmcifgaaojgheaa.V.small_r0 ax ay az n) := by
  unfold Go.Proofs.Ytmcifgaaojgheaa.M.small Go.Proofs.Ytmcifgaaojgheaa.V.small_r0
  repeat' first | rfl | (split <;> rename_i h <;> first | simp only [if_pos h] | simp only [if_neg h] | skip)
noncomputable def small_c {α : Type} (ds : List D) (Q : SV → Hp → Option α) : Option α :=
  dI ds fun ax ds => dI ds fun ay ds => dI ds fun az ds => dI ds fun n ds => dE ds (Q (SV.bool (Go.Proofs.Ytmcifgaaojgheaa.V.small_r0 ax ay az n)) ([]))
theorem small_c_ok {α : Type} : FnOk E.P 12 (fEnt (α := α) small_sp small_c) :=
  fEnt_ok E (look_awake_ok) (exec_sound E E_ok (look_awake_ok) (noLps_ok _) 400) fun ds Q r h => by
    unfold small_c at h
    obtain ⟨ax, ds, rfl, h1⟩ := dI_inv h
    obtain ⟨ay, ds, rfl, h2⟩ := dI_inv h1
    obtain ⟨az, ds, rfl, h3⟩ := dI_inv h2
    obtain ⟨n, ds, rfl, h4⟩ := dI_inv h3
    obtain ⟨rfl, hE⟩ := dE_inv h4
    exact ⟨[SV.agg [SV.int IntKind.i64 ax, SV.int IntKind.i64 ay, SV.int IntKind.i64 az], SV.int IntKind.i64 n], [], fun vs => by kernel_rfl, (small_eq ax ay az n Q).trans ((small_val ax ay az n (fun (x0 : Bool) => Q (SV.bool x0) ([]))).trans hE)⟩
noncomputable def small_go {α : Type} (ds : List D) (Q : SV → Hp → Option α) : Option α :=
  dI ds fun ax ds => dI ds fun ay ds => dI ds fun az ds => dI ds fun n ds => dE ds (Go.Proofs.Ytmcifgaaojgheaa.M.small ax ay az n (fun (x0 : Bool) => Q (SV.bool x0) ([])))
theorem small_ok {α : Type} : FnOk E.P 12 (fEnt (α := α) small_sp small_go) :=
  fEnt_ok E (look_awake_ok) (exec_sound E E_ok (look_awake_ok) (noLps_ok _) 400) fun ds Q r h => by
    unfold small_go at h
    obtain ⟨ax, ds, rfl, h1⟩ := dI_inv h
    obtain ⟨ay, ds, rfl, h2⟩ := dI_inv h1
    obtain ⟨az, ds, rfl, h3⟩ := dI_inv h2
    obtain ⟨n, ds, rfl, h4⟩ := dI_inv h3
    obtain ⟨rfl, hE⟩ := dE_inv h4
    exact ⟨[SV.agg [SV.int IntKind.i64 ax, SV.int IntKind.i64 ay, SV.int IntKind.i64 az], SV.int IntKind.i64 n], [], fun vs => by kernel_rfl, (small_eq ax ay az n Q).trans hE⟩
noncomputable def look_small {α : Type} : LookF α := addFn 12 (fEnt small_sp small_c) look_awake
theorem look_small_ok {α : Type} : LookOk E.P (look_small (α := α)) := addFn_ok small_c_ok (look_awake_ok)
noncomputable def _root_.Go.Proofs.Ytmcifgaaojgheaa.M.vsize {α : Type} (n : Int) (k0 : Int → Option α) : Option α :=
  if cLt n (0 : Int) = true then k0 (IntKind.wrap IntKind.i64 ((0 : Int) - n)) else k0 n
theorem vsize_eq {α : Type} (n : Int) (Q : SV → Hp → Option α) : callI E look_small (exec E look_small noLps 400) 20 ([SV.int IntKind.i64 n]) ([]) Q = Go.Proofs.Ytmcifgaaojgheaa.M.vsize n (fun (x1 : Int) => Q (SV.int IntKind.i64 x1) ([])) := by kernel_rfl
def vsize_sp : List AS := [.val (.int .i64 0)]
noncomputable def _root_.Go.Proofs.Ytmcifgaaojgheaa.V.vsize_r0 (n : Int) : Int :=
  if cLt n (0 : Int) = true then IntKind.wrap IntKind.i64 ((0 : Int) - n) else n
theorem vsize_val {α : Type} (n : Int) (k0 : Int → Option α) : Go.Proofs.Ytmcifgaaojgheaa.M.vsize n k0 = k0 (Go.Proofs.Ytmcifgaaojgheaa.V.vsize_r0 n) := by
  unfold Go.Proofs.Ytmcifgaaojgheaa.M.vsize Go.Proofs.Ytmcifgaaojgheaa.V.vsize_r0
  repeat' first | rfl | (split <;> rename_i h <;> first | simp only [if_pos h] | simp only [if_neg h] | skip)
noncomputable def vsize_c {α : Type} (ds : List D) (Q : SV → Hp → Option α) : Option α :=
  dI ds fun n ds => dE ds (Q (SV.int IntKind.i64 (Go.Proofs.Ytmcifgaaojgheaa.V.vsize_r0 n)) ([]))
theorem vsize_c_ok {α : Type} : FnOk E.P 20 (fEnt (α := α) vsize_sp vsize_c) :=
  fEnt_ok E (look_small_ok) (exec_sound E E_ok (look_small_ok) (noLps_ok _) 400) fun ds Q r h => by
    unfold vsize_c at h
    obtain ⟨n, ds, rfl, h1⟩ := dI_inv h
    obtain ⟨rfl, hE⟩ := dE_inv h1
    exact ⟨[SV.int IntKind.i64 n], [], fun vs => by kernel_rfl, (vsize_eq n Q).trans ((vsize_val n (fun (x1 : Int) => Q (SV.int IntKind.i64 x1) ([]))).trans hE)⟩
noncomputable def vsize_go {α : Type} (ds : List D) (Q : SV → Hp → Option α) : Option α :=
  dI ds fun n ds => dE ds (Go.Proofs.Ytmcifgaaojgheaa.M.vsize n (fun (x1 : Int) => Q (SV.int IntKind.i64 x1) ([])))
theorem vsize_ok {α : Type} : FnOk E.P 20 (fEnt (α := α) vsize_sp vsize_go) :=
  fEnt_ok E (look_small_ok) (exec_sound E E_ok (look_small_ok) (noLps_ok _) 400) fun ds Q r h => by
    unfold vsize_go at h
    obtain ⟨n, ds, rfl, h1⟩ := dI_inv h
    obtain ⟨rfl, hE⟩ := dE_inv h1
    exact ⟨[SV.int IntKind.i64 n], [], fun vs => by kernel_rfl, (vsize_eq n Q).trans hE⟩
noncomputable def look_vsize {α : Type} : LookF α := addFn 20 (fEnt vsize_sp vsize_c) look_small
theorem look_vsize_ok {α : Type} : LookOk E.P (look_vsize (α := α)) := addFn_ok vsize_c_ok (look_small_ok)
noncomputable def _root_.Go.Proofs.Ytmcifgaaojgheaa.M.vwholeL {α : Type} (qw : Int) (qx : Int) (qy : Int) (qz : Int) (ax : Int) (ay : Int) (az : Int) (k0 : Bool → Option α) : Option α :=
  if V.on (V.tWhole (qw, qx, qy, qz)) false = true then k0 (cEq (V.w4 (V.tWhole (qw, qx, qy, qz))) (0 : Int) && (cEq (V.x4 (V.tWhole (qw, qx, qy, qz))) (0 : Int) && (cEq (V.y4 (V.tWhole (qw, qx, qy, qz))) (0 : Int) && (cEq (V.z4 (V.tWhole (qw, qx, qy, qz))) (0 : Int) && true))))
else
  if cLt (V.gv (V.mNorm [V.w4 (V.tWhole (qw, qx, qy, qz)), V.x4 (V.tWhole (qw, qx, qy, qz)), V.y4 (V.tWhole (qw, qx, qy, qz)), V.z4 (V.tWhole (qw, qx, qy, qz))])) (4294967292 : Int) = true then k0 false
  else
    if cLt (4294967300 : Int) (V.gv (V.mNorm [V.w4 (V.tWhole (qw, qx, qy, qz)), V.x4 (V.tWhole (qw, qx, qy, qz)), V.y4 (V.tWhole (qw, qx, qy, qz)), V.z4 (V.tWhole (qw, qx, qy, qz))])) = true then k0 false
    else
      if (!V.small_r0 ax ay az (17592186044416 : Int)) = true then k0 true
      else
        if
            (!V.gn (V.tLen (ax, ay, az))
                  (V.on
                    (V.tBack
                      ((V.m0 (V.tRows (V.w4 (V.tWhole (qw, qx, qy, qz)), V.x4 (V.tWhole (qw, qx, qy, qz)), V.y4 (V.tWhole (qw, qx, qy, qz)), V.z4 (V.tWhole (qw, qx, qy, qz)))), V.m1 (V.tRows (V.w4 (V.tWhole (qw, qx, qy, qz)), V.x4 (V.tWhole (qw, qx, qy, qz)), V.y4 (V.tWhole (qw, qx, qy, qz)), V.z4 (V.tWhole (qw, qx, qy, qz)))), V.m2 (V.tRows (V.w4 (V.tWhole (qw, qx, qy, qz)), V.x4 (V.tWhole (qw, qx, qy, qz)), V.y4 (V.tWhole (qw, qx, qy, qz)), V.z4 (V.tWhole (qw, qx, qy, qz))))),
                        (V.m3 (V.tRows (V.w4 (V.tWhole (qw, qx, qy, qz)), V.x4 (V.tWhole (qw, qx, qy, qz)), V.y4 (V.tWhole (qw, qx, qy, qz)), V.z4 (V.tWhole (qw, qx, qy, qz)))), V.m4 (V.tRows (V.w4 (V.tWhole (qw, qx, qy, qz)), V.x4 (V.tWhole (qw, qx, qy, qz)), V.y4 (V.tWhole (qw, qx, qy, qz)), V.z4 (V.tWhole (qw, qx, qy, qz)))), V.m5 (V.tRows (V.w4 (V.tWhole (qw, qx, qy, qz)), V.x4 (V.tWhole (qw, qx, qy, qz)), V.y4 (V.tWhole (qw, qx, qy, qz)), V.z4 (V.tWhole (qw, qx, qy, qz))))),
                        V.m6 (V.tRows (V.w4 (V.tWhole (qw, qx, qy, qz)), V.x4 (V.tWhole (qw, qx, qy, qz)), V.y4 (V.tWhole (qw, qx, qy, qz)), V.z4 (V.tWhole (qw, qx, qy, qz)))), V.m7 (V.tRows (V.w4 (V.tWhole (qw, qx, qy, qz)), V.x4 (V.tWhole (qw, qx, qy, qz)), V.y4 (V.tWhole (qw, qx, qy, qz)), V.z4 (V.tWhole (qw, qx, qy, qz)))), V.m8 (V.tRows (V.w4 (V.tWhole (qw, qx, qy, qz)), V.x4 (V.tWhole (qw, qx, qy, qz)), V.y4 (V.tWhole (qw, qx, qy, qz)), V.z4 (V.tWhole (qw, qx, qy, qz)))))
                      (V.x3
                          (V.tTurn
                            ((V.m0 (V.tRows (V.w4 (V.tWhole (qw, qx, qy, qz)), V.x4 (V.tWhole (qw, qx, qy, qz)), V.y4 (V.tWhole (qw, qx, qy, qz)), V.z4 (V.tWhole (qw, qx, qy, qz)))), V.m1 (V.tRows (V.w4 (V.tWhole (qw, qx, qy, qz)), V.x4 (V.tWhole (qw, qx, qy, qz)), V.y4 (V.tWhole (qw, qx, qy, qz)), V.z4 (V.tWhole (qw, qx, qy, qz)))), V.m2 (V.tRows (V.w4 (V.tWhole (qw, qx, qy, qz)), V.x4 (V.tWhole (qw, qx, qy, qz)), V.y4 (V.tWhole (qw, qx, qy, qz)), V.z4 (V.tWhole (qw, qx, qy, qz))))),
                              (V.m3 (V.tRows (V.w4 (V.tWhole (qw, qx, qy, qz)), V.x4 (V.tWhole (qw, qx, qy, qz)), V.y4 (V.tWhole (qw, qx, qy, qz)), V.z4 (V.tWhole (qw, qx, qy, qz)))), V.m4 (V.tRows (V.w4 (V.tWhole (qw, qx, qy, qz)), V.x4 (V.tWhole (qw, qx, qy, qz)), V.y4 (V.tWhole (qw, qx, qy, qz)), V.z4 (V.tWhole (qw, qx, qy, qz)))), V.m5 (V.tRows (V.w4 (V.tWhole (qw, qx, qy, qz)), V.x4 (V.tWhole (qw, qx, qy, qz)), V.y4 (V.tWhole (qw, qx, qy, qz)), V.z4 (V.tWhole (qw, qx, qy, qz))))),
                              V.m6 (V.tRows (V.w4 (V.tWhole (qw, qx, qy, qz)), V.x4 (V.tWhole (qw, qx, qy, qz)), V.y4 (V.tWhole (qw, qx, qy, qz)), V.z4 (V.tWhole (qw, qx, qy, qz)))), V.m7 (V.tRows (V.w4 (V.tWhole (qw, qx, qy, qz)), V.x4 (V.tWhole (qw, qx, qy, qz)), V.y4 (V.tWhole (qw, qx, qy, qz)), V.z4 (V.tWhole (qw, qx, qy, qz)))), V.m8 (V.tRows (V.w4 (V.tWhole (qw, qx, qy, qz)), V.x4 (V.tWhole (qw, qx, qy, qz)), V.y4 (V.tWhole (qw, qx, qy, qz)), V.z4 (V.tWhole (qw, qx, qy, qz)))))
                            (ax, ay, az)),
                        V.y3
                          (V.tTurn
                            ((V.m0 (V.tRows (V.w4 (V.tWhole (qw, qx, qy, qz)), V.x4 (V.tWhole (qw, qx, qy, qz)), V.y4 (V.tWhole (qw, qx, qy, qz)), V.z4 (V.tWhole (qw, qx, qy, qz)))), V.m1 (V.tRows (V.w4 (V.tWhole (qw, qx, qy, qz)), V.x4 (V.tWhole (qw, qx, qy, qz)), V.y4 (V.tWhole (qw, qx, qy, qz)), V.z4 (V.tWhole (qw, qx, qy, qz)))), V.m2 (V.tRows (V.w4 (V.tWhole (qw, qx, qy, qz)), V.x4 (V.tWhole (qw, qx, qy, qz)), V.y4 (V.tWhole (qw, qx, qy, qz)), V.z4 (V.tWhole (qw, qx, qy, qz))))),
                              (V.m3 (V.tRows (V.w4 (V.tWhole (qw, qx, qy, qz)), V.x4 (V.tWhole (qw, qx, qy, qz)), V.y4 (V.tWhole (qw, qx, qy, qz)), V.z4 (V.tWhole (qw, qx, qy, qz)))), V.m4 (V.tRows (V.w4 (V.tWhole (qw, qx, qy, qz)), V.x4 (V.tWhole (qw, qx, qy, qz)), V.y4 (V.tWhole (qw, qx, qy, qz)), V.z4 (V.tWhole (qw, qx, qy, qz)))), V.m5 (V.tRows (V.w4 (V.tWhole (qw, qx, qy, qz)), V.x4 (V.tWhole (qw, qx, qy, qz)), V.y4 (V.tWhole (qw, qx, qy, qz)), V.z4 (V.tWhole (qw, qx, qy, qz))))),
                              V.m6 (V.tRows (V.w4 (V.tWhole (qw, qx, qy, qz)), V.x4 (V.tWhole (qw, qx, qy, qz)), V.y4 (V.tWhole (qw, qx, qy, qz)), V.z4 (V.tWhole (qw, qx, qy, qz)))), V.m7 (V.tRows (V.w4 (V.tWhole (qw, qx, qy, qz)), V.x4 (V.tWhole (qw, qx, qy, qz)), V.y4 (V.tWhole (qw, qx, qy, qz)), V.z4 (V.tWhole (qw, qx, qy, qz)))), V.m8 (V.tRows (V.w4 (V.tWhole (qw, qx, qy, qz)), V.x4 (V.tWhole (qw, qx, qy, qz)), V.y4 (V.tWhole (qw, qx, qy, qz)), V.z4 (V.tWhole (qw, qx, qy, qz)))))
                            (ax, ay, az)),
                        V.z3
                          (V.tTurn
                            ((V.m0 (V.tRows (V.w4 (V.tWhole (qw, qx, qy, qz)), V.x4 (V.tWhole (qw, qx, qy, qz)), V.y4 (V.tWhole (qw, qx, qy, qz)), V.z4 (V.tWhole (qw, qx, qy, qz)))), V.m1 (V.tRows (V.w4 (V.tWhole (qw, qx, qy, qz)), V.x4 (V.tWhole (qw, qx, qy, qz)), V.y4 (V.tWhole (qw, qx, qy, qz)), V.z4 (V.tWhole (qw, qx, qy, qz)))), V.m2 (V.tRows (V.w4 (V.tWhole (qw, qx, qy, qz)), V.x4 (V.tWhole (qw, qx, qy, qz)), V.y4 (V.tWhole (qw, qx, qy, qz)), V.z4 (V.tWhole (qw, qx, qy, qz))))),
                              (V.m3 (V.tRows (V.w4 (V.tWhole (qw, qx, qy, qz)), V.x4 (V.tWhole (qw, qx, qy, qz)), V.y4 (V.tWhole (qw, qx, qy, qz)), V.z4 (V.tWhole (qw, qx, qy, qz)))), V.m4 (V.tRows (V.w4 (V.tWhole (qw, qx, qy, qz)), V.x4 (V.tWhole (qw, qx, qy, qz)), V.y4 (V.tWhole (qw, qx, qy, qz)), V.z4 (V.tWhole (qw, qx, qy, qz)))), V.m5 (V.tRows (V.w4 (V.tWhole (qw, qx, qy, qz)), V.x4 (V.tWhole (qw, qx, qy, qz)), V.y4 (V.tWhole (qw, qx, qy, qz)), V.z4 (V.tWhole (qw, qx, qy, qz))))),
                              V.m6 (V.tRows (V.w4 (V.tWhole (qw, qx, qy, qz)), V.x4 (V.tWhole (qw, qx, qy, qz)), V.y4 (V.tWhole (qw, qx, qy, qz)), V.z4 (V.tWhole (qw, qx, qy, qz)))), V.m7 (V.tRows (V.w4 (V.tWhole (qw, qx, qy, qz)), V.x4 (V.tWhole (qw, qx, qy, qz)), V.y4 (V.tWhole (qw, qx, qy, qz)), V.z4 (V.tWhole (qw, qx, qy, qz)))), V.m8 (V.tRows (V.w4 (V.tWhole (qw, qx, qy, qz)), V.x4 (V.tWhole (qw, qx, qy, qz)), V.y4 (V.tWhole (qw, qx, qy, qz)), V.z4 (V.tWhole (qw, qx, qy, qz)))))
                            (ax, ay, az))))
                    (V.on
                      (V.tTurn
                        ((V.m0 (V.tRows (V.w4 (V.tWhole (qw, qx, qy, qz)), V.x4 (V.tWhole (qw, qx, qy, qz)), V.y4 (V.tWhole (qw, qx, qy, qz)), V.z4 (V.tWhole (qw, qx, qy, qz)))), V.m1 (V.tRows (V.w4 (V.tWhole (qw, qx, qy, qz)), V.x4 (V.tWhole (qw, qx, qy, qz)), V.y4 (V.tWhole (qw, qx, qy, qz)), V.z4 (V.tWhole (qw, qx, qy, qz)))), V.m2 (V.tRows (V.w4 (V.tWhole (qw, qx, qy, qz)), V.x4 (V.tWhole (qw, qx, qy, qz)), V.y4 (V.tWhole (qw, qx, qy, qz)), V.z4 (V.tWhole (qw, qx, qy, qz))))),
                          (V.m3 (V.tRows (V.w4 (V.tWhole (qw, qx, qy, qz)), V.x4 (V.tWhole (qw, qx, qy, qz)), V.y4 (V.tWhole (qw, qx, qy, qz)), V.z4 (V.tWhole (qw, qx, qy, qz)))), V.m4 (V.tRows (V.w4 (V.tWhole (qw, qx, qy, qz)), V.x4 (V.tWhole (qw, qx, qy, qz)), V.y4 (V.tWhole (qw, qx, qy, qz)), V.z4 (V.tWhole (qw, qx, qy, qz)))), V.m5 (V.tRows (V.w4 (V.tWhole (qw, qx, qy, qz)), V.x4 (V.tWhole (qw, qx, qy, qz)), V.y4 (V.tWhole (qw, qx, qy, qz)), V.z4 (V.tWhole (qw, qx, qy, qz))))),
                          V.m6 (V.tRows (V.w4 (V.tWhole (qw, qx, qy, qz)), V.x4 (V.tWhole (qw, qx, qy, qz)), V.y4 (V.tWhole (qw, qx, qy, qz)), V.z4 (V.tWhole (qw, qx, qy, qz)))), V.m7 (V.tRows (V.w4 (V.tWhole (qw, qx, qy, qz)), V.x4 (V.tWhole (qw, qx, qy, qz)), V.y4 (V.tWhole (qw, qx, qy, qz)), V.z4 (V.tWhole (qw, qx, qy, qz)))), V.m8 (V.tRows (V.w4 (V.tWhole (qw, qx, qy, qz)), V.x4 (V.tWhole (qw, qx, qy, qz)), V.y4 (V.tWhole (qw, qx, qy, qz)), V.z4 (V.tWhole (qw, qx, qy, qz)))))
                        (ax, ay, az))
                      (V.on (V.tRows (V.w4 (V.tWhole (qw, qx, qy, qz)), V.x4 (V.tWhole (qw, qx, qy, qz)), V.y4 (V.tWhole (qw, qx, qy, qz)), V.z4 (V.tWhole (qw, qx, qy, qz)))) (V.gn (V.mNorm [V.w4 (V.tWhole (qw, qx, qy, qz)), V.x4 (V.tWhole (qw, qx, qy, qz)), V.y4 (V.tWhole (qw, qx, qy, qz)), V.z4 (V.tWhole (qw, qx, qy, qz))]) (V.on (V.tWhole (qw, qx, qy, qz)) false)))))) =
              true then
          if
              cLe
                  (V.vsize_r0
                    (IntKind.wrap IntKind.i64
                      (V.x3
                          (V.tBack
                            ((V.m0 (V.tRows (V.w4 (V.tWhole (qw, qx, qy, qz)), V.x4 (V.tWhole (qw, qx, qy, qz)), V.y4 (V.tWhole (qw, qx, qy, qz)), V.z4 (V.tWhole (qw, qx, qy, qz)))), V.m1 (V.tRows (V.w4 (V.tWhole (qw, qx, qy, qz)), V.x4 (V.tWhole (qw, qx, qy, qz)), V.y4 (V.tWhole (qw, qx, qy, qz)), V.z4 (V.tWhole (qw, qx, qy, qz)))), V.m2 (V.tRows (V.w4 (V.tWhole (qw, qx, qy, qz)), V.x4 (V.tWhole (qw, qx, qy, qz)), V.y4 (V.tWhole (qw, qx, qy, qz)), V.z4 (V.tWhole (qw, qx, qy, qz))))),
                              (V.m3 (V.tRows (V.w4 (V.tWhole (qw, qx, qy, qz)), V.x4 (V.tWhole (qw, qx, qy, qz)), V.y4 (V.tWhole (qw, qx, qy, qz)), V.z4 (V.tWhole (qw, qx, qy, qz)))), V.m4 (V.tRows (V.w4 (V.tWhole (qw, qx, qy, qz)), V.x4 (V.tWhole (qw, qx, qy, qz)), V.y4 (V.tWhole (qw, qx, qy, qz)), V.z4 (V.tWhole (qw, qx, qy, qz)))), V.m5 (V.tRows (V.w4 (V.tWhole (qw, qx, qy, qz)), V.x4 (V.tWhole (qw, qx, qy, qz)), V.y4 (V.tWhole (qw, qx, qy, qz)), V.z4 (V.tWhole (qw, qx, qy, qz))))),
                              V.m6 (V.tRows (V.w4 (V.tWhole (qw, qx, qy, qz)), V.x4 (V.tWhole (qw, qx, qy, qz)), V.y4 (V.tWhole (qw, qx, qy, qz)), V.z4 (V.tWhole (qw, qx, qy, qz)))), V.m7 (V.tRows (V.w4 (V.tWhole (qw, qx, qy, qz)), V.x4 (V.tWhole (qw, qx, qy, qz)), V.y4 (V.tWhole (qw, qx, qy, qz)), V.z4 (V.tWhole (qw, qx, qy, qz)))), V.m8 (V.tRows (V.w4 (V.tWhole (qw, qx, qy, qz)), V.x4 (V.tWhole (qw, qx, qy, qz)), V.y4 (V.tWhole (qw, qx, qy, qz)), V.z4 (V.tWhole (qw, qx, qy, qz)))))
                            (V.x3
                                (V.tTurn
                                  ((V.m0 (V.tRows (V.w4 (V.tWhole (qw, qx, qy, qz)), V.x4 (V.tWhole (qw, qx, qy, qz)), V.y4 (V.tWhole (qw, qx, qy, qz)), V.z4 (V.tWhole (qw, qx, qy, qz)))), V.m1 (V.tRows (V.w4 (V.tWhole (qw, qx, qy, qz)), V.x4 (V.tWhole (qw, qx, qy, qz)), V.y4 (V.tWhole (qw, qx, qy, qz)), V.z4 (V.tWhole (qw, qx, qy, qz)))), V.m2 (V.tRows (V.w4 (V.tWhole (qw, qx, qy, qz)), V.x4 (V.tWhole (qw, qx, qy, qz)), V.y4 (V.tWhole (qw, qx, qy, qz)), V.z4 (V.tWhole (qw, qx, qy, qz))))),
                                    (V.m3 (V.tRows (V.w4 (V.tWhole (qw, qx, qy, qz)), V.x4 (V.tWhole (qw, qx, qy, qz)), V.y4 (V.tWhole (qw, qx, qy, qz)), V.z4 (V.tWhole (qw, qx, qy, qz)))), V.m4 (V.tRows (V.w4 (V.tWhole (qw, qx, qy, qz)), V.x4 (V.tWhole (qw, qx, qy, qz)), V.y4 (V.tWhole (qw, qx, qy, qz)), V.z4 (V.tWhole (qw, qx, qy, qz)))), V.m5 (V.tRows (V.w4 (V.tWhole (qw, qx, qy, qz)), V.x4 (V.tWhole (qw, qx, qy, qz)), V.y4 (V.tWhole (qw, qx, qy, qz)), V.z4 (V.tWhole (qw, qx, qy, qz))))),
                                    V.m6 (V.tRows (V.w4 (V.tWhole (qw, qx, qy, qz)), V.x4 (V.tWhole (qw, qx, qy, qz)), V.y4 (V.tWhole (qw, qx, qy, qz)), V.z4 (V.tWhole (qw, qx, qy, qz)))), V.m7 (V.tRows (V.w4 (V.tWhole (qw, qx, qy, qz)), V.x4 (V.tWhole (qw, qx, qy, qz)), V.y4 (V.tWhole (qw, qx, qy, qz)), V.z4 (V.tWhole (qw, qx, qy, qz)))), V.m8 (V.tRows (V.w4 (V.tWhole (qw, qx, qy, qz)), V.x4 (V.tWhole (qw, qx, qy, qz)), V.y4 (V.tWhole (qw, qx, qy, qz)), V.z4 (V.tWhole (qw, qx, qy, qz)))))
                                  (ax, ay, az)),
                              V.y3
                                (V.tTurn
                                  ((V.m0 (V.tRows (V.w4 (V.tWhole (qw, qx, qy, qz)), V.x4 (V.tWhole (qw, qx, qy, qz)), V.y4 (V.tWhole (qw, qx, qy, qz)), V.z4 (V.tWhole (qw, qx, qy, qz)))), V.m1 (V.tRows (V.w4 (V.tWhole (qw, qx, qy, qz)), V.x4 (V.tWhole (qw, qx, qy, qz)), V.y4 (V.tWhole (qw, qx, qy, qz)), V.z4 (V.tWhole (qw, qx, qy, qz)))), V.m2 (V.tRows (V.w4 (V.tWhole (qw, qx, qy, qz)), V.x4 (V.tWhole (qw, qx, qy, qz)), V.y4 (V.tWhole (qw, qx, qy, qz)), V.z4 (V.tWhole (qw, qx, qy, qz))))),
                                    (V.m3 (V.tRows (V.w4 (V.tWhole (qw, qx, qy, qz)), V.x4 (V.tWhole (qw, qx, qy, qz)), V.y4 (V.tWhole (qw, qx, qy, qz)), V.z4 (V.tWhole (qw, qx, qy, qz)))), V.m4 (V.tRows (V.w4 (V.tWhole (qw, qx, qy, qz)), V.x4 (V.tWhole (qw, qx, qy, qz)), V.y4 (V.tWhole (qw, qx, qy, qz)), V.z4 (V.tWhole (qw, qx, qy, qz)))), V.m5 (V.tRows (V.w4 (V.tWhole (qw, qx, qy, qz)), V.x4 (V.tWhole (qw, qx, qy, qz)), V.y4 (V.tWhole (qw, qx, qy, qz)), V.z4 (V.tWhole (qw, qx, qy, qz))))),
                                    V.m6 (V.tRows (V.w4 (V.tWhole (qw, qx, qy, qz)), V.x4 (V.tWhole (qw, qx, qy, qz)), V.y4 (V.tWhole (qw, qx, qy, qz)), V.z4 (V.tWhole (qw, qx, qy, qz)))), V.m7 (V.tRows (V.w4 (V.tWhole (qw, qx, qy, qz)), V.x4 (V.tWhole (qw, qx, qy, qz)), V.y4 (V.tWhole (qw, qx, qy, qz)), V.z4 (V.tWhole (qw, qx, qy, qz)))), V.m8 (V.tRows (V.w4 (V.tWhole (qw, qx, qy, qz)), V.x4 (V.tWhole (qw, qx, qy, qz)), V.y4 (V.tWhole (qw, qx, qy, qz)), V.z4 (V.tWhole (qw, qx, qy, qz)))))
                                  (ax, ay, az)),
                              V.z3
                                (V.tTurn
                                  ((V.m0 (V.tRows (V.w4 (V.tWhole (qw, qx, qy, qz)), V.x4 (V.tWhole (qw, qx, qy, qz)), V.y4 (V.tWhole (qw, qx, qy, qz)), V.z4 (V.tWhole (qw, qx, qy, qz)))), V.m1 (V.tRows (V.w4 (V.tWhole (qw, qx, qy, qz)), V.x4 (V.tWhole (qw, qx, qy, qz)), V.y4 (V.tWhole (qw, qx, qy, qz)), V.z4 (V.tWhole (qw, qx, qy, qz)))), V.m2 (V.tRows (V.w4 (V.tWhole (qw, qx, qy, qz)), V.x4 (V.tWhole (qw, qx, qy, qz)), V.y4 (V.tWhole (qw, qx, qy, qz)), V.z4 (V.tWhole (qw, qx, qy, qz))))),
                                    (V.m3 (V.tRows (V.w4 (V.tWhole (qw, qx, qy, qz)), V.x4 (V.tWhole (qw, qx, qy, qz)), V.y4 (V.tWhole (qw, qx, qy, qz)), V.z4 (V.tWhole (qw, qx, qy, qz)))), V.m4 (V.tRows (V.w4 (V.tWhole (qw, qx, qy, qz)), V.x4 (V.tWhole (qw, qx, qy, qz)), V.y4 (V.tWhole (qw, qx, qy, qz)), V.z4 (V.tWhole (qw, qx, qy, qz)))), V.m5 (V.tRows (V.w4 (V.tWhole (qw, qx, qy, qz)), V.x4 (V.tWhole (qw, qx, qy, qz)), V.y4 (V.tWhole (qw, qx, qy, qz)), V.z4 (V.tWhole (qw, qx, qy, qz))))),
                                    V.m6 (V.tRows (V.w4 (V.tWhole (qw, qx, qy, qz)), V.x4 (V.tWhole (qw, qx, qy, qz)), V.y4 (V.tWhole (qw, qx, qy, qz)), V.z4 (V.tWhole (qw, qx, qy, qz)))), V.m7 (V.tRows (V.w4 (V.tWhole (qw, qx, qy, qz)), V.x4 (V.tWhole (qw, qx, qy, qz)), V.y4 (V.tWhole (qw, qx, qy, qz)), V.z4 (V.tWhole (qw, qx, qy, qz)))), V.m8 (V.tRows (V.w4 (V.tWhole (qw, qx, qy, qz)), V.x4 (V.tWhole (qw, qx, qy, qz)), V.y4 (V.tWhole (qw, qx, qy, qz)), V.z4 (V.tWhole (qw, qx, qy, qz)))))
                                  (ax, ay, az)))) -
                        ax)))
                  (IntKind.wrap IntKind.i64 (Int.fdiv (V.gv (V.tLen (ax, ay, az))) (16777216 : Int) + (64 : Int))) =
                true then
            if
                cLe
                    (V.vsize_r0
                      (IntKind.wrap IntKind.i64
                        (V.y3
                            (V.tBack
                              ((V.m0 (V.tRows (V.w4 (V.tWhole (qw, qx, qy, qz)), V.x4 (V.tWhole (qw, qx, qy, qz)), V.y4 (V.tWhole (qw, qx, qy, qz)), V.z4 (V.tWhole (qw, qx, qy, qz)))), V.m1 (V.tRows (V.w4 (V.tWhole (qw, qx, qy, qz)), V.x4 (V.tWhole (qw, qx, qy, qz)), V.y4 (V.tWhole (qw, qx, qy, qz)), V.z4 (V.tWhole (qw, qx, qy, qz)))), V.m2 (V.tRows (V.w4 (V.tWhole (qw, qx, qy, qz)), V.x4 (V.tWhole (qw, qx, qy, qz)), V.y4 (V.tWhole (qw, qx, qy, qz)), V.z4 (V.tWhole (qw, qx, qy, qz))))),
                                (V.m3 (V.tRows (V.w4 (V.tWhole (qw, qx, qy, qz)), V.x4 (V.tWhole (qw, qx, qy, qz)), V.y4 (V.tWhole (qw, qx, qy, qz)), V.z4 (V.tWhole (qw, qx, qy, qz)))), V.m4 (V.tRows (V.w4 (V.tWhole (qw, qx, qy, qz)), V.x4 (V.tWhole (qw, qx, qy, qz)), V.y4 (V.tWhole (qw, qx, qy, qz)), V.z4 (V.tWhole (qw, qx, qy, qz)))), V.m5 (V.tRows (V.w4 (V.tWhole (qw, qx, qy, qz)), V.x4 (V.tWhole (qw, qx, qy, qz)), V.y4 (V.tWhole (qw, qx, qy, qz)), V.z4 (V.tWhole (qw, qx, qy, qz))))),
                                V.m6 (V.tRows (V.w4 (V.tWhole (qw, qx, qy, qz)), V.x4 (V.tWhole (qw, qx, qy, qz)), V.y4 (V.tWhole (qw, qx, qy, qz)), V.z4 (V.tWhole (qw, qx, qy, qz)))), V.m7 (V.tRows (V.w4 (V.tWhole (qw, qx, qy, qz)), V.x4 (V.tWhole (qw, qx, qy, qz)), V.y4 (V.tWhole (qw, qx, qy, qz)), V.z4 (V.tWhole (qw, qx, qy, qz)))), V.m8 (V.tRows (V.w4 (V.tWhole (qw, qx, qy, qz)), V.x4 (V.tWhole (qw, qx, qy, qz)), V.y4 (V.tWhole (qw, qx, qy, qz)), V.z4 (V.tWhole (qw, qx, qy, qz)))))
                              (V.x3
                                  (V.tTurn
                                    ((V.m0 (V.tRows (V.w4 (V.tWhole (qw, qx, qy, qz)), V.x4 (V.tWhole (qw, qx, qy, qz)), V.y4 (V.tWhole (qw, qx, qy, qz)), V.z4 (V.tWhole (qw, qx, qy, qz)))), V.m1 (V.tRows (V.w4 (V.tWhole (qw, qx, qy, qz)), V.x4 (V.tWhole (qw, qx, qy, qz)), V.y4 (V.tWhole (qw, qx, qy, qz)), V.z4 (V.tWhole (qw, qx, qy, qz)))), V.m2 (V.tRows (V.w4 (V.tWhole (qw, qx, qy, qz)), V.x4 (V.tWhole (qw, qx, qy, qz)), V.y4 (V.tWhole (qw, qx, qy, qz)), V.z4 (V.tWhole (qw, qx, qy, qz))))),
                                      (V.m3 (V.tRows (V.w4 (V.tWhole (qw, qx, qy, qz)), V.x4 (V.tWhole (qw, qx, qy, qz)), V.y4 (V.tWhole (qw, qx, qy, qz)), V.z4 (V.tWhole (qw, qx, qy, qz)))), V.m4 (V.tRows (V.w4 (V.tWhole (qw, qx, qy, qz)), V.x4 (V.tWhole (qw, qx, qy, qz)), V.y4 (V.tWhole (qw, qx, qy, qz)), V.z4 (V.tWhole (qw, qx, qy, qz)))), V.m5 (V.tRows (V.w4 (V.tWhole (qw, qx, qy, qz)), V.x4 (V.tWhole (qw, qx, qy, qz)), V.y4 (V.tWhole (qw, qx, qy, qz)), V.z4 (V.tWhole (qw, qx, qy, qz))))),
                                      V.m6 (V.tRows (V.w4 (V.tWhole (qw, qx, qy, qz)), V.x4 (V.tWhole (qw, qx, qy, qz)), V.y4 (V.tWhole (qw, qx, qy, qz)), V.z4 (V.tWhole (qw, qx, qy, qz)))), V.m7 (V.tRows (V.w4 (V.tWhole (qw, qx, qy, qz)), V.x4 (V.tWhole (qw, qx, qy, qz)), V.y4 (V.tWhole (qw, qx, qy, qz)), V.z4 (V.tWhole (qw, qx, qy, qz)))), V.m8 (V.tRows (V.w4 (V.tWhole (qw, qx, qy, qz)), V.x4 (V.tWhole (qw, qx, qy, qz)), V.y4 (V.tWhole (qw, qx, qy, qz)), V.z4 (V.tWhole (qw, qx, qy, qz)))))
                                    (ax, ay, az)),
                                V.y3
                                  (V.tTurn
                                    ((V.m0 (V.tRows (V.w4 (V.tWhole (qw, qx, qy, qz)), V.x4 (V.tWhole (qw, qx, qy, qz)), V.y4 (V.tWhole (qw, qx, qy, qz)), V.z4 (V.tWhole (qw, qx, qy, qz)))), V.m1 (V.tRows (V.w4 (V.tWhole (qw, qx, qy, qz)), V.x4 (V.tWhole (qw, qx, qy, qz)), V.y4 (V.tWhole (qw, qx, qy, qz)), V.z4 (V.tWhole (qw, qx, qy, qz)))), V.m2 (V.tRows (V.w4 (V.tWhole (qw, qx, qy, qz)), V.x4 (V.tWhole (qw, qx, qy, qz)), V.y4 (V.tWhole (qw, qx, qy, qz)), V.z4 (V.tWhole (qw, qx, qy, qz))))),
                                      (V.m3 (V.tRows (V.w4 (V.tWhole (qw, qx, qy, qz)), V.x4 (V.tWhole (qw, qx, qy, qz)), V.y4 (V.tWhole (qw, qx, qy, qz)), V.z4 (V.tWhole (qw, qx, qy, qz)))), V.m4 (V.tRows (V.w4 (V.tWhole (qw, qx, qy, qz)), V.x4 (V.tWhole (qw, qx, qy, qz)), V.y4 (V.tWhole (qw, qx, qy, qz)), V.z4 (V.tWhole (qw, qx, qy, qz)))), V.m5 (V.tRows (V.w4 (V.tWhole (qw, qx, qy, qz)), V.x4 (V.tWhole (qw, qx, qy, qz)), V.y4 (V.tWhole (qw, qx, qy, qz)), V.z4 (V.tWhole (qw, qx, qy, qz))))),
                                      V.m6 (V.tRows (V.w4 (V.tWhole (qw, qx, qy, qz)), V.x4 (V.tWhole (qw, qx, qy, qz)), V.y4 (V.tWhole (qw, qx, qy, qz)), V.z4 (V.tWhole (qw, qx, qy, qz)))), V.m7 (V.tRows (V.w4 (V.tWhole (qw, qx, qy, qz)), V.x4 (V.tWhole (qw, qx, qy, qz)), V.y4 (V.tWhole (qw, qx, qy, qz)), V.z4 (V.tWhole (qw, qx, qy, qz)))), V.m8 (V.tRows (V.w4 (V.tWhole (qw, qx, qy, qz)), V.x4 (V.tWhole (qw, qx, qy, qz)), V.y4 (V.tWhole (qw, qx, qy, qz)), V.z4 (V.tWhole (qw, qx, qy, qz)))))
                                    (ax, ay, az)),
                                V.z3
                                  (V.tTurn
                                    ((V.m0 (V.tRows (V.w4 (V.tWhole (qw, qx, qy, qz)), V.x4 (V.tWhole (qw, qx, qy, qz)), V.y4 (V.tWhole (qw, qx, qy, qz)), V.z4 (V.tWhole (qw, qx, qy, qz)))), V.m1 (V.tRows (V.w4 (V.tWhole (qw, qx, qy, qz)), V.x4 (V.tWhole (qw, qx, qy, qz)), V.y4 (V.tWhole (qw, qx, qy, qz)), V.z4 (V.tWhole (qw, qx, qy, qz)))), V.m2 (V.tRows (V.w4 (V.tWhole (qw, qx, qy, qz)), V.x4 (V.tWhole (qw, qx, qy, qz)), V.y4 (V.tWhole (qw, qx, qy, qz)), V.z4 (V.tWhole (qw, qx, qy, qz))))),
                                      (V.m3 (V.tRows (V.w4 (V.tWhole (qw, qx, qy, qz)), V.x4 (V.tWhole (qw, qx, qy, qz)), V.y4 (V.tWhole (qw, qx, qy, qz)), V.z4 (V.tWhole (qw, qx, qy, qz)))), V.m4 (V.tRows (V.w4 (V.tWhole (qw, qx, qy, qz)), V.x4 (V.tWhole (qw, qx, qy, qz)), V.y4 (V.tWhole (qw, qx, qy, qz)), V.z4 (V.tWhole (qw, qx, qy, qz)))), V.m5 (V.tRows (V.w4 (V.tWhole (qw, qx, qy, qz)), V.x4 (V.tWhole (qw, qx, qy, qz)), V.y4 (V.tWhole (qw, qx, qy, qz)), V.z4 (V.tWhole (qw, qx, qy, qz))))),
                                      V.m6 (V.tRows (V.w4 (V.tWhole (qw, qx, qy, qz)), V.x4 (V.tWhole (qw, qx, qy, qz)), V.y4 (V.tWhole (qw, qx, qy, qz)), V.z4 (V.tWhole (qw, qx, qy, qz)))), V.m7 (V.tRows (V.w4 (V.tWhole (qw, qx, qy, qz)), V.x4 (V.tWhole (qw, qx, qy, qz)), V.y4 (V.tWhole (qw, qx, qy, qz)), V.z4 (V.tWhole (qw, qx, qy, qz)))), V.m8 (V.tRows (V.w4 (V.tWhole (qw, qx, qy, qz)), V.x4 (V.tWhole (qw, qx, qy, qz)), V.y4 (V.tWhole (qw, qx, qy, qz)), V.z4 (V.tWhole (qw, qx, qy, qz)))))
                                    (ax, ay, az)))) -
                          ay)))
                    (IntKind.wrap IntKind.i64 (Int.fdiv (V.gv (V.tLen (ax, ay, az))) (16777216 : Int) + (64 : Int))) =
                  true then
              k0
                (cLe
                  (V.vsize_r0
                    (IntKind.wrap IntKind.i64
                      (V.z3
                          (V.tBack
                            ((V.m0 (V.tRows (V.w4 (V.tWhole (qw, qx, qy, qz)), V.x4 (V.tWhole (qw, qx, qy, qz)), V.y4 (V.tWhole (qw, qx, qy, qz)), V.z4 (V.tWhole (qw, qx, qy, qz)))), V.m1 (V.tRows (V.w4 (V.tWhole (qw, qx, qy, qz)), V.x4 (V.tWhole (qw, qx, qy, qz)), V.y4 (V.tWhole (qw, qx, qy, qz)), V.z4 (V.tWhole (qw, qx, qy, qz)))), V.m2 (V.tRows (V.w4 (V.tWhole (qw, qx, qy, qz)), V.x4 (V.tWhole (qw, qx, qy, qz)), V.y4 (V.tWhole (qw, qx, qy, qz)), V.z4 (V.tWhole (qw, qx, qy, qz))))),
                              (V.m3 (V.tRows (V.w4 (V.tWhole (qw, qx, qy, qz)), V.x4 (V.tWhole (qw, qx, qy, qz)), V.y4 (V.tWhole (qw, qx, qy, qz)), V.z4 (V.tWhole (qw, qx, qy, qz)))), V.m4 (V.tRows (V.w4 (V.tWhole (qw, qx, qy, qz)), V.x4 (V.tWhole (qw, qx, qy, qz)), V.y4 (V.tWhole (qw, qx, qy, qz)), V.z4 (V.tWhole (qw, qx, qy, qz)))), V.m5 (V.tRows (V.w4 (V.tWhole (qw, qx, qy, qz)), V.x4 (V.tWhole (qw, qx, qy, qz)), V.y4 (V.tWhole (qw, qx, qy, qz)), V.z4 (V.tWhole (qw, qx, qy, qz))))),
                              V.m6 (V.tRows (V.w4 (V.tWhole (qw, qx, qy, qz)), V.x4 (V.tWhole (qw, qx, qy, qz)), V.y4 (V.tWhole (qw, qx, qy, qz)), V.z4 (V.tWhole (qw, qx, qy, qz)))), V.m7 (V.tRows (V.w4 (V.tWhole (qw, qx, qy, qz)), V.x4 (V.tWhole (qw, qx, qy, qz)), V.y4 (V.tWhole (qw, qx, qy, qz)), V.z4 (V.tWhole (qw, qx, qy, qz)))), V.m8 (V.tRows (V.w4 (V.tWhole (qw, qx, qy, qz)), V.x4 (V.tWhole (qw, qx, qy, qz)), V.y4 (V.tWhole (qw, qx, qy, qz)), V.z4 (V.tWhole (qw, qx, qy, qz)))))
                            (V.x3
                                (V.tTurn
                                  ((V.m0 (V.tRows (V.w4 (V.tWhole (qw, qx, qy, qz)), V.x4 (V.tWhole (qw, qx, qy, qz)), V.y4 (V.tWhole (qw, qx, qy, qz)), V.z4 (V.tWhole (qw, qx, qy, qz)))), V.m1 (V.tRows (V.w4 (V.tWhole (qw, qx, qy, qz)), V.x4 (V.tWhole (qw, qx, qy, qz)), V.y4 (V.tWhole (qw, qx, qy, qz)), V.z4 (V.tWhole (qw, qx, qy, qz)))), V.m2 (V.tRows (V.w4 (V.tWhole (qw, qx, qy, qz)), V.x4 (V.tWhole (qw, qx, qy, qz)), V.y4 (V.tWhole (qw, qx, qy, qz)), V.z4 (V.tWhole (qw, qx, qy, qz))))),
                                    (V.m3 (V.tRows (V.w4 (V.tWhole (qw, qx, qy, qz)), V.x4 (V.tWhole (qw, qx, qy, qz)), V.y4 (V.tWhole (qw, qx, qy, qz)), V.z4 (V.tWhole (qw, qx, qy, qz)))), V.m4 (V.tRows (V.w4 (V.tWhole (qw, qx, qy, qz)), V.x4 (V.tWhole (qw, qx, qy, qz)), V.y4 (V.tWhole (qw, qx, qy, qz)), V.z4 (V.tWhole (qw, qx, qy, qz)))), V.m5 (V.tRows (V.w4 (V.tWhole (qw, qx, qy, qz)), V.x4 (V.tWhole (qw, qx, qy, qz)), V.y4 (V.tWhole (qw, qx, qy, qz)), V.z4 (V.tWhole (qw, qx, qy, qz))))),
                                    V.m6 (V.tRows (V.w4 (V.tWhole (qw, qx, qy, qz)), V.x4 (V.tWhole (qw, qx, qy, qz)), V.y4 (V.tWhole (qw, qx, qy, qz)), V.z4 (V.tWhole (qw, qx, qy, qz)))), V.m7 (V.tRows (V.w4 (V.tWhole (qw, qx, qy, qz)), V.x4 (V.tWhole (qw, qx, qy, qz)), V.y4 (V.tWhole (qw, qx, qy, qz)), V.z4 (V.tWhole (qw, qx, qy, qz)))), V.m8 (V.tRows (V.w4 (V.tWhole (qw, qx, qy, qz)), V.x4 (V.tWhole (qw, qx, qy, qz)), V.y4 (V.tWhole (qw, qx, qy, qz)), V.z4 (V.tWhole (qw, qx, qy, qz)))))
                                  (ax, ay, az)),
                              V.y3
                                (V.tTurn
                                  ((V.m0 (V.tRows (V.w4 (V.tWhole (qw, qx, qy, qz)), V.x4 (V.tWhole (qw, qx, qy, qz)), V.y4 (V.tWhole (qw, qx, qy, qz)), V.z4 (V.tWhole (qw, qx, qy, qz)))), V.m1 (V.tRows (V.w4 (V.tWhole (qw, qx, qy, qz)), V.x4 (V.tWhole (qw, qx, qy, qz)), V.y4 (V.tWhole (qw, qx, qy, qz)), V.z4 (V.tWhole (qw, qx, qy, qz)))), V.m2 (V.tRows (V.w4 (V.tWhole (qw, qx, qy, qz)), V.x4 (V.tWhole (qw, qx, qy, qz)), V.y4 (V.tWhole (qw, qx, qy, qz)), V.z4 (V.tWhole (qw, qx, qy, qz))))),
                                    (V.m3 (V.tRows (V.w4 (V.tWhole (qw, qx, qy, qz)), V.x4 (V.tWhole (qw, qx, qy, qz)), V.y4 (V.tWhole (qw, qx, qy, qz)), V.z4 (V.tWhole (qw, qx, qy, qz)))), V.m4 (V.tRows (V.w4 (V.tWhole (qw, qx, qy, qz)), V.x4 (V.tWhole (qw, qx, qy, qz)), V.y4 (V.tWhole (qw, qx, qy, qz)), V.z4 (V.tWhole (qw, qx, qy, qz)))), V.m5 (V.tRows (V.w4 (V.tWhole (qw, qx, qy, qz)), V.x4 (V.tWhole (qw, qx, qy, qz)), V.y4 (V.tWhole (qw, qx, qy, qz)), V.z4 (V.tWhole (qw, qx, qy, qz))))),
                                    V.m6 (V.tRows (V.w4 (V.tWhole (qw, qx, qy, qz)), V.x4 (V.tWhole (qw, qx, qy, qz)), V.y4 (V.tWhole (qw, qx, qy, qz)), V.z4 (V.tWhole (qw, qx, qy, qz)))), V.m7 (V.tRows (V.w4 (V.tWhole (qw, qx, qy, qz)), V.x4 (V.tWhole (qw, qx, qy, qz)), V.y4 (V.tWhole (qw, qx, qy, qz)), V.z4 (V.tWhole (qw, qx, qy, qz)))), V.m8 (V.tRows (V.w4 (V.tWhole (qw, qx, qy, qz)), V.x4 (V.tWhole (qw, qx, qy, qz)), V.y4 (V.tWhole (qw, qx, qy, qz)), V.z4 (V.tWhole (qw, qx, qy, qz)))))
                                  (ax, ay, az)),
                              V.z3
                                (V.tTurn
                                  ((V.m0 (V.tRows (V.w4 (V.tWhole (qw, qx, qy, qz)), V.x4 (V.tWhole (qw, qx, qy, qz)), V.y4 (V.tWhole (qw, qx, qy, qz)), V.z4 (V.tWhole (qw, qx, qy, qz)))), V.m1 (V.tRows (V.w4 (V.tWhole (qw, qx, qy, qz)), V.x4 (V.tWhole (qw, qx, qy, qz)), V.y4 (V.tWhole (qw, qx, qy, qz)), V.z4 (V.tWhole (qw, qx, qy, qz)))), V.m2 (V.tRows (V.w4 (V.tWhole (qw, qx, qy, qz)), V.x4 (V.tWhole (qw, qx, qy, qz)), V.y4 (V.tWhole (qw, qx, qy, qz)), V.z4 (V.tWhole (qw, qx, qy, qz))))),
                                    (V.m3 (V.tRows (V.w4 (V.tWhole (qw, qx, qy, qz)), V.x4 (V.tWhole (qw, qx, qy, qz)), V.y4 (V.tWhole (qw, qx, qy, qz)), V.z4 (V.tWhole (qw, qx, qy, qz)))), V.m4 (V.tRows (V.w4 (V.tWhole (qw, qx, qy, qz)), V.x4 (V.tWhole (qw, qx, qy, qz)), V.y4 (V.tWhole (qw, qx, qy, qz)), V.z4 (V.tWhole (qw, qx, qy, qz)))), V.m5 (V.tRows (V.w4 (V.tWhole (qw, qx, qy, qz)), V.x4 (V.tWhole (qw, qx, qy, qz)), V.y4 (V.tWhole (qw, qx, qy, qz)), V.z4 (V.tWhole (qw, qx, qy, qz))))),
                                    V.m6 (V.tRows (V.w4 (V.tWhole (qw, qx, qy, qz)), V.x4 (V.tWhole (qw, qx, qy, qz)), V.y4 (V.tWhole (qw, qx, qy, qz)), V.z4 (V.tWhole (qw, qx, qy, qz)))), V.m7 (V.tRows (V.w4 (V.tWhole (qw, qx, qy, qz)), V.x4 (V.tWhole (qw, qx, qy, qz)), V.y4 (V.tWhole (qw, qx, qy, qz)), V.z4 (V.tWhole (qw, qx, qy, qz)))), V.m8 (V.tRows (V.w4 (V.tWhole (qw, qx, qy, qz)), V.x4 (V.tWhole (qw, qx, qy, qz)), V.y4 (V.tWhole (qw, qx, qy, qz)), V.z4 (V.tWhole (qw, qx, qy, qz)))))
                                  (ax, ay, az)))) -
                        az)))
                  (IntKind.wrap IntKind.i64 (Int.fdiv (V.gv (V.tLen (ax, ay, az))) (16777216 : Int) + (64 : Int))))
            else k0 false
          else k0 false
        else k0 false
theorem vwholeL_eq {α : Type} (qw : Int) (qx : Int) (qy : Int) (qz : Int) (ax : Int) (ay : Int) (az : Int) (Q : SV → Hp → Option α) : callI E look_vsize (exec E look_vsize noLps 400) 6 ([SV.agg [SV.int IntKind.i64 qw, SV.int IntKind.i64 qx, SV.int IntKind.i64 qy, SV.int IntKind.i64 qz], SV.agg [SV.int IntKind.i64 ax, SV.int IntKind.i64 ay, SV.int IntKind.i64 az]]) ([]) Q = Go.Proofs.Ytmcifgaaojgheaa.M.vwholeL qw qx qy qz ax ay az (fun (x2 : Bool) => Q (SV.bool x2) ([])) := by kernel_rfl
def vwholeL_sp : List AS := [.val (.agg [.int .i64 0, .int .i64 0, .int .i64 0, .int .i64 0]), .val (.agg [.int .i64 0, .int .i64 0, .int .i64 0])]
noncomputable def vwholeL_go {α : Type} (ds : List D) (Q : SV → Hp → Option α) : Option α :=
  dI ds fun qw ds => dI ds fun qx ds => dI ds fun qy ds => dI ds fun qz ds => dI ds fun ax ds => dI ds fun ay ds => dI ds fun az ds => dE ds (Go.Proofs.Ytmcifgaaojgheaa.M.vwholeL qw qx qy qz ax ay az (fun (x2 : Bool) => Q (SV.bool x2) ([])))
theorem vwholeL_ok {α : Type} : FnOk E.P 6 (fEnt (α := α) vwholeL_sp vwholeL_go) :=
  fEnt_ok E (look_vsize_ok) (exec_sound E E_ok (look_vsize_ok) (noLps_ok _) 400) fun ds Q r h => by
    unfold vwholeL_go at h
    obtain ⟨qw, ds, rfl, h1⟩ := dI_inv h
    obtain ⟨qx, ds, rfl, h2⟩ := dI_inv h1
    obtain ⟨qy, ds, rfl, h3⟩ := dI_inv h2
    obtain ⟨qz, ds, rfl, h4⟩ := dI_inv h3
    obtain ⟨ax, ds, rfl, h5⟩ := dI_inv h4
    obtain ⟨ay, ds, rfl, h6⟩ := dI_inv h5
    obtain ⟨az, ds, rfl, h7⟩ := dI_inv h6
    obtain ⟨rfl, hE⟩ := dE_inv h7
    exact ⟨[SV.agg [SV.int IntKind.i64 qw, SV.int IntKind.i64 qx, SV.int IntKind.i64 qy, SV.int IntKind.i64 qz], SV.agg [SV.int IntKind.i64 ax, SV.int IntKind.i64 ay, SV.int IntKind.i64 az]], [], fun vs => by kernel_rfl, (vwholeL_eq qw qx qy qz ax ay az Q).trans hE⟩
--##
theorem small_true {a b c n : Int} (h : V.small_r0 a b c n = true) (hn : 0 ≤ n ∧ n < 9223372036854775808) : (-n ≤ a ∧ a ≤ n) ∧ (-n ≤ b ∧ b ≤ n) ∧ (-n ≤ c ∧ c ≤ n) := by
  unfold V.small_r0 at h
  simp only [cLe_eq, IntWalk.i64_in (0 - n) (by omega)] at h
  by_cases h1 : 0 - n ≤ a <;> by_cases h2 : a ≤ n <;> by_cases h3 : 0 - n ≤ b <;> by_cases h4 : b ≤ n <;> by_cases h5 : 0 - n ≤ c <;> simp only [h1, h2, h3, h4, h5, decide_true, decide_false, if_true, if_false, Bool.false_eq_true, decide_eq_true_eq] at h
  refine ⟨by omega, by omega, by omega⟩
theorem part_ok {a b L : Int} (hL : 0 ≤ L) (hL2 : L ≤ 35184372088832) (ha : -L ≤ a ∧ a ≤ L) (h : -(255 * L + 38654705664) ≤ 4294967296 * (b - a) ∧ 4294967296 * (b - a) ≤ 255 * L + 38654705664) :
    decide (V.vsize_r0 (IntKind.wrap .i64 (b - a)) ≤ IntKind.wrap .i64 (Int.fdiv L 16777216 + 64)) = true := by
  rw [fdiv_pos _ _ (by decide), IntWalk.i64_in (b - a) (by omega), IntWalk.i64_in (L / 16777216 + 64) (by omega)]
  unfold V.vsize_r0
  rw [cLt_eq]
  by_cases h0 : b - a < 0
  · rw [if_pos (by simpa using h0), IntWalk.i64_in _ (by omega)]
    simp only [decide_eq_true_eq]; omega
  · rw [if_neg (by simpa using h0)]
    simp only [decide_eq_true_eq]; omega
theorem norm_near {T : Int} (h1 : 18446744056529682423 ≤ T) (h2 : T ≤ 18446744108069289992) : 4294967292 ≤ V.isq T ∧ V.isq T ≤ 4294967300 := by
  obtain ⟨l0, l1, l2⟩ := isqSpec (show 0 ≤ T by omega)
  constructor
  · by_cases hl : 4294967292 ≤ V.isq T
    · exact hl
    · have : (V.isq T + 1) * (V.isq T + 1) ≤ 4294967292 * 4294967292 := Int.mul_le_mul (by omega) (by omega) (by omega) (by omega)
      omega
  · by_cases hl : V.isq T ≤ 4294967300
    · exact hl
    · have : 4294967301 * 4294967301 ≤ V.isq T * V.isq T := Int.mul_le_mul (by omega) (by omega) (by omega) (by omega)
      omega
theorem len_some {a b c : Int} (ha : -17592186044416 ≤ a ∧ a ≤ 17592186044416) (hb : -17592186044416 ≤ b ∧ b ≤ 17592186044416) (hc : -17592186044416 ≤ c ∧ c ≤ 17592186044416) :
    ∃ L, V.tLen (a, b, c) = some L ∧ 0 ≤ L ∧ L ≤ 35184372088832 ∧ (-L ≤ a ∧ a ≤ L) ∧ (-L ≤ b ∧ b ≤ L) ∧ (-L ≤ c ∧ c ≤ L) := by
  have px := sq_nn a; have py := sq_nn b; have pz := sq_nn c
  have mx := (mul_bd ha.1 ha.2 ha.1 ha.2).2
  have my := (mul_bd hb.1 hb.2 hb.1 hb.2).2
  have mz := (mul_bd hc.1 hc.2 hc.1 hc.2).2
  obtain ⟨q0, q1, q2⟩ := isqSpec (show 0 ≤ a * a + (b * b + c * c) by omega)
  have hl : V.isq (a * a + (b * b + c * c)) ≤ 35184372088832 := by
    by_cases hl : V.isq (a * a + (b * b + c * c)) ≤ 35184372088832
    · exact hl
    · have : 35184372088833 * 35184372088833 ≤ V.isq (a * a + (b * b + c * c)) * V.isq (a * a + (b * b + c * c)) := Int.mul_le_mul (by omega) (by omega) (by omega) (by omega)
      omega
  have ga : Gd a := by unfold Gd; omega
  have gb : Gd b := by unfold Gd; omega
  have gc : Gd c := by unfold Gd; omega
  have hm : V.isq (a * a + (b * b + c * c)) ≤ 4611686018427387903 := by omega
  have la := sq_le (a := a) q0 (by omega)
  have lb := sq_le (a := b) q0 (by omega)
  have lc := sq_le (a := c) q0 (by omega)
  exact ⟨_, mNorm3_some.2 ⟨ga, gb, gc, rfl, hm⟩, q0, hl, la, lb, lc⟩
theorem vwholeL_v {α : Type} (qw qx qy qz ax ay az : Int) (k0 : Bool → Option α) : M.vwholeL qw qx qy qz ax ay az k0 = k0 true := by
  unfold M.vwholeL
  try simp only [V.q4_eta, V.q9_eta, V.q3_eta]
  cases h : V.tWhole (qw, qx, qy, qz) with
  | none => simp [on_none, V.w4, V.x4, V.y4, V.z4, V.q4, cEq_eq]
  | some p =>
    obtain ⟨w, x, y, z⟩ := p
    obtain ⟨T1, T2⟩ := whole_norm h
    simp only at T1 T2
    obtain ⟨f1, f2, f3, f4⟩ := four_sq T2
    obtain ⟨n1, n2⟩ := norm_near T1 T2
    have hn : V.mNorm [w, x, y, z] = some (V.isq (w * w + (x * x + (y * y + z * z)))) := mNorm4_some.2 ⟨by unfold Gd; omega, by unfold Gd; omega, by unfold Gd; omega, by unfold Gd; omega, rfl, by omega⟩
    have e : V.q4 (some (w, x, y, z)) = (w, x, y, z) := rfl
    simp only [e, on_some, V.w4, V.x4, V.y4, V.z4, hn, gv_some, gn_some, cLt_eq, cLe_eq, Bool.false_eq_true, if_false]
    generalize V.isq (w * w + (x * x + (y * y + z * z))) = l at *
    have m1 : decide (l < 4294967292) = false := by simpa using n1
    have m2 : decide (4294967300 < l) = false := by simpa using n2
    simp only [m1, m2, Bool.false_eq_true, if_false]
    cases hs : V.small_r0 ax ay az 17592186044416 with
    | false => rfl
    | true =>
      obtain ⟨s1, s2, s3⟩ := small_true hs (by decide)
      obtain ⟨L, hL, L0, L2, b0, b1, b2⟩ := len_some s1 s2 s3
      obtain ⟨t, b, r1, r2, r3, g0, g1, g2⟩ := turn_back T1 T2 L0 L2 b0 b1 b2
      have e9 : V.q9 (some (rowsM w x y z)) = rowsM w x y z := rfl
      have e3 : ∀ t : V.T3, V.q3 (some t) = t := fun _ => rfl
      simp only [r1, e9, r2, e3, r3, on_some, V.x3, V.y3, V.z3, hL, gn_some, gv_some]
      rw [part_ok L0 L2 b0 g0, part_ok L0 L2 b1 g1, part_ok L0 L2 b2 g2]
      rfl
noncomputable def vwholeL_h {α : Type} (ds : List D) (Q : SV → Hp → Option α) : Option α :=
  dI ds fun qw ds => dI ds fun qx ds => dI ds fun qy ds => dI ds fun qz ds => dI ds fun ax ds => dI ds fun ay ds => dI ds fun az ds => dE ds (Q (.bool true) ([]))
theorem vwholeL_h_ok {α : Type} : FnOk E.P 6 (fEnt (α := α) vwholeL_sp vwholeL_h) :=
  fEnt_ok E (look_vsize_ok) (exec_sound E E_ok (look_vsize_ok) (noLps_ok _) 400) fun ds Q r h => by
    unfold vwholeL_h at h
    obtain ⟨qw, ds, rfl, h1⟩ := dI_inv h
    obtain ⟨qx, ds, rfl, h2⟩ := dI_inv h1
    obtain ⟨qy, ds, rfl, h3⟩ := dI_inv h2
    obtain ⟨qz, ds, rfl, h4⟩ := dI_inv h3
    obtain ⟨ax, ds, rfl, h5⟩ := dI_inv h4
    obtain ⟨ay, ds, rfl, h6⟩ := dI_inv h5
    obtain ⟨az, ds, rfl, h7⟩ := dI_inv h6
    obtain ⟨rfl, hE⟩ := dE_inv h7
    exact ⟨[SV.agg [SV.int IntKind.i64 qw, SV.int IntKind.i64 qx, SV.int IntKind.i64 qy, SV.int IntKind.i64 qz], SV.agg [SV.int IntKind.i64 ax, SV.int IntKind.i64 ay, SV.int IntKind.i64 az]], [], fun vs => by kernel_rfl, (vwholeL_eq qw qx qy qz ax ay az Q).trans ((vwholeL_v qw qx qy qz ax ay az _).trans hE)⟩
end Go.Proofs.Ytmcifgaaojgheaa.Sx
