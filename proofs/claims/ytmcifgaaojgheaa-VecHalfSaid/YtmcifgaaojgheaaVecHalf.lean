/- VecHalf: its run tells true. -/
import Derived.Test.YtmcifgaaojgheaaVecC
namespace Go.Proofs.Ytmcifgaaojgheaa.Sx
open Go
set_option maxRecDepth 20000
set_option linter.unusedVariables false
set_option linter.unusedSimpArgs false
noncomputable def _root_.Go.Proofs.Ytmcifgaaojgheaa.M.small {α : Type} (ax : Int) (ay : Int) (az : Int) (n : Int) (k0 : Bool → Option α) : Option α :=
  if cLe (IntKind.wrap IntKind.i64 ((0 : Int) - n)) ax = true then if cLe ax n = true then if cLe (IntKind.wrap IntKind.i64 ((0 : Int) - n)) ay = true then if cLe ay n = true then if cLe (IntKind.wrap IntKind.i64 ((0 : Int) - n)) az = true then k0 (cLe az n) else k0 false else k0 false else k0 false else k0 false else k0 false
theorem small_eq {α : Type} (ax : Int) (ay : Int) (az : Int) (n : Int) (Q : SV → Hp → Option α) : callI E look_awake (exec E look_awake noLps 400) 12 ([SV.agg [SV.int IntKind.i64 ax, SV.int IntKind.i64 ay, SV.int IntKind.i64 az], SV.int IntKind.i64 n]) ([]) Q = Go.Proofs.Ytmcifgaaojgheaa.M.small ax ay az n (fun (x0 : Bool) => Q (SV.bool x0) ([])) := by kernel_rfl
def small_sp : List AS := [.val (.agg [.int .i64 0, .int .i64 0, .int .i64 0]), .val (.int .i64 0)]
noncomputable def _root_.Go.Proofs.Ytmcifgaaojgheaa.V.small_r0 (ax : Int) (ay : Int) (az : Int) (n : Int) : Bool :=
  if cLe (IntKind.wrap IntKind.i64 ((0 : Int) - n)) ax = true then if cLe ax n = true then if cLe (IntKind.wrap IntKind.i64 ((0 : Int) - n)) ay = true then if cLe ay n = true then if cLe (IntKind.wrap IntKind.i64 ((0 : Int) - n)) az = true then cLe az n else false else false else false else false else false
theorem small_val {α : Type} (ax : Int) (ay : Int) (az : Int) (n : Int) (k0 : Bool → Option α) : Go.Proofs.Ytmcifgaaojgheaa.M.small ax ay az n k0 = k0 (Go.Proofs.Ytmcifgaaojgheaa.V.small_r0 ax ay az n) := by
  unfold Go.Proofs.Ytmcifgaaojgheaa.M.small Go.Proofs.Ytmcifgaaojgheaa.V.small_r0
  repeat' first | rfl | (split <;> rename_i h <;> first | simp only [if_pos h] | simp only [if_neg h] | skip)
noncomputable def small_c {α : Type} (ds : List D) (Q : SV → Hp → Option α) : Option α :=
  dI ds fun ax ds => dI ds fun ay ds => dI ds fun az ds => dI ds fun n ds => dE ds (Q (SV.bool (Go.Proofs.Ytmcifgaaojgheaa.V.small_r0 ax ay az n)) ([]))
theorem small_c_ok {α : Type} : FnOk E.P 12 (fEnt (α := α) small_sp small_c) :=
  fEnt_ok E (look_awake_ok) (exec_sound E E_ok (look_awake_ok) (noLps_ok _) 400) fun ds Q r h => by
    unfold small_c at h
    obtain ⟨ax, ds, rfl, h1⟩ := dI_inv h
    obtain ⟨ay, ds, rfl, h2⟩ := dI_inv h1
    obtain ⟨az, ds, rfl, h3⟩ := dI_inv h2
    obtain ⟨n, ds, rfl, h4⟩ := dI_inv h3
    obtain ⟨rfl, hE⟩ := dE_inv h4
    exact ⟨[SV.agg [SV.int IntKind.i64 ax, SV.int IntKind.i64 ay, SV.int IntKind.i64 az], SV.int IntKind.i64 n], [], fun vs => by kernel_rfl, (small_eq ax ay az n Q).trans ((small_val ax ay az n (fun (x0 : Bool) => Q (SV.bool x0) ([]))).trans hE)⟩
noncomputable def small_go {α : Type} (ds : List D) (Q : SV → Hp → Option α) : Option α :=
  dI ds fun ax ds => dI ds fun ay ds => dI ds fun az ds => dI ds fun n ds => dE ds (Go.Proofs.Ytmcifgaaojgheaa.M.small ax ay az n (fun (x0 : Bool) => Q (SV.bool x0) ([])))
theorem small_ok {α : Type} : FnOk E.P 12 (fEnt (α := α) small_sp small_go) :=
  fEnt_ok E (look_awake_ok) (exec_sound E E_ok (look_awake_ok) (noLps_ok _) 400) fun ds Q r h => by
    unfold small_go at h
    obtain ⟨ax, ds, rfl, h1⟩ := dI_inv h
    obtain ⟨ay, ds, rfl, h2⟩ := dI_inv h1
    obtain ⟨az, ds, rfl, h3⟩ := dI_inv h2
    obtain ⟨n, ds, rfl, h4⟩ := dI_inv h3
    obtain ⟨rfl, hE⟩ := dE_inv h4
    exact ⟨[SV.agg [SV.int IntKind.i64 ax, SV.int IntKind.i64 ay, SV.int IntKind.i64 az], SV.int IntKind.i64 n], [], fun vs => by kernel_rfl, (small_eq ax ay az n Q).trans hE⟩
noncomputable def look_small {α : Type} : LookF α := addFn 12 (fEnt small_sp small_c) look_awake
theorem look_small_ok {α : Type} : LookOk E.P (look_small (α := α)) := addFn_ok small_c_ok (look_awake_ok)
noncomputable def _root_.Go.Proofs.Ytmcifgaaojgheaa.M.vhalfL_l0_step {α : Type} (x11 : Int) (x12 : Int) (x13 : Int) (x15 : List (Int × Int × Int × Int)) (x16 : List (Int × Int × Int)) (kn : Int → Bool → Option α) (k0 : Bool → Option α) (k2 : Bool → Option α) (x10 : Int) (x14 : Bool) : Option α :=
  if cLt x10 (3 : Int) = true then
  if (0 : Int) ≤ x10 ∧ x10 < (↑(List.length x15) : Int) then
    if (0 : Int) ≤ x10 ∧ x10 < (↑(List.length x16) : Int) then
      if
          (!(cEq
                  (V.x3
                    (V.tTurn
                      ((V.m0 (V.tRows (List.getD x15 (Int.toNat x10) ((0 : Int), (0 : Int), (0 : Int), (0 : Int)))), V.m1 (V.tRows (List.getD x15 (Int.toNat x10) ((0 : Int), (0 : Int), (0 : Int), (0 : Int)))), V.m2 (V.tRows (List.getD x15 (Int.toNat x10) ((0 : Int), (0 : Int), (0 : Int), (0 : Int))))),
                        (V.m3 (V.tRows (List.getD x15 (Int.toNat x10) ((0 : Int), (0 : Int), (0 : Int), (0 : Int)))), V.m4 (V.tRows (List.getD x15 (Int.toNat x10) ((0 : Int), (0 : Int), (0 : Int), (0 : Int)))), V.m5 (V.tRows (List.getD x15 (Int.toNat x10) ((0 : Int), (0 : Int), (0 : Int), (0 : Int))))), V.m6 (V.tRows (List.getD x15 (Int.toNat x10) ((0 : Int), (0 : Int), (0 : Int), (0 : Int)))), V.m7 (V.tRows (List.getD x15 (Int.toNat x10) ((0 : Int), (0 : Int), (0 : Int), (0 : Int)))),
                        V.m8 (V.tRows (List.getD x15 (Int.toNat x10) ((0 : Int), (0 : Int), (0 : Int), (0 : Int)))))
                      (x11, x12, x13)))
                  (Prod.fst (List.getD x16 (Int.toNat x10) ((0 : Int), (0 : Int), (0 : Int)))) &&
                (cEq
                    (V.y3
                      (V.tTurn
                        ((V.m0 (V.tRows (List.getD x15 (Int.toNat x10) ((0 : Int), (0 : Int), (0 : Int), (0 : Int)))), V.m1 (V.tRows (List.getD x15 (Int.toNat x10) ((0 : Int), (0 : Int), (0 : Int), (0 : Int)))), V.m2 (V.tRows (List.getD x15 (Int.toNat x10) ((0 : Int), (0 : Int), (0 : Int), (0 : Int))))),
                          (V.m3 (V.tRows (List.getD x15 (Int.toNat x10) ((0 : Int), (0 : Int), (0 : Int), (0 : Int)))), V.m4 (V.tRows (List.getD x15 (Int.toNat x10) ((0 : Int), (0 : Int), (0 : Int), (0 : Int)))), V.m5 (V.tRows (List.getD x15 (Int.toNat x10) ((0 : Int), (0 : Int), (0 : Int), (0 : Int))))), V.m6 (V.tRows (List.getD x15 (Int.toNat x10) ((0 : Int), (0 : Int), (0 : Int), (0 : Int)))), V.m7 (V.tRows (List.getD x15 (Int.toNat x10) ((0 : Int), (0 : Int), (0 : Int), (0 : Int)))),
                          V.m8 (V.tRows (List.getD x15 (Int.toNat x10) ((0 : Int), (0 : Int), (0 : Int), (0 : Int)))))
                        (x11, x12, x13)))
                    (Prod.fst (Prod.snd (List.getD x16 (Int.toNat x10) ((0 : Int), (0 : Int), (0 : Int))))) &&
                  (cEq
                      (V.z3
                        (V.tTurn
                          ((V.m0 (V.tRows (List.getD x15 (Int.toNat x10) ((0 : Int), (0 : Int), (0 : Int), (0 : Int)))), V.m1 (V.tRows (List.getD x15 (Int.toNat x10) ((0 : Int), (0 : Int), (0 : Int), (0 : Int)))), V.m2 (V.tRows (List.getD x15 (Int.toNat x10) ((0 : Int), (0 : Int), (0 : Int), (0 : Int))))),
                            (V.m3 (V.tRows (List.getD x15 (Int.toNat x10) ((0 : Int), (0 : Int), (0 : Int), (0 : Int)))), V.m4 (V.tRows (List.getD x15 (Int.toNat x10) ((0 : Int), (0 : Int), (0 : Int), (0 : Int)))), V.m5 (V.tRows (List.getD x15 (Int.toNat x10) ((0 : Int), (0 : Int), (0 : Int), (0 : Int))))), V.m6 (V.tRows (List.getD x15 (Int.toNat x10) ((0 : Int), (0 : Int), (0 : Int), (0 : Int)))), V.m7 (V.tRows (List.getD x15 (Int.toNat x10) ((0 : Int), (0 : Int), (0 : Int), (0 : Int)))),
                            V.m8 (V.tRows (List.getD x15 (Int.toNat x10) ((0 : Int), (0 : Int), (0 : Int), (0 : Int)))))
                          (x11, x12, x13)))
                      (Prod.snd (Prod.snd (List.getD x16 (Int.toNat x10) ((0 : Int), (0 : Int), (0 : Int))))) &&
                    true)))) =
            true then
        k0
          (V.on
            (V.tTurn
              ((V.m0 (V.tRows (List.getD x15 (Int.toNat x10) ((0 : Int), (0 : Int), (0 : Int), (0 : Int)))), V.m1 (V.tRows (List.getD x15 (Int.toNat x10) ((0 : Int), (0 : Int), (0 : Int), (0 : Int)))), V.m2 (V.tRows (List.getD x15 (Int.toNat x10) ((0 : Int), (0 : Int), (0 : Int), (0 : Int))))),
                (V.m3 (V.tRows (List.getD x15 (Int.toNat x10) ((0 : Int), (0 : Int), (0 : Int), (0 : Int)))), V.m4 (V.tRows (List.getD x15 (Int.toNat x10) ((0 : Int), (0 : Int), (0 : Int), (0 : Int)))), V.m5 (V.tRows (List.getD x15 (Int.toNat x10) ((0 : Int), (0 : Int), (0 : Int), (0 : Int))))), V.m6 (V.tRows (List.getD x15 (Int.toNat x10) ((0 : Int), (0 : Int), (0 : Int), (0 : Int)))), V.m7 (V.tRows (List.getD x15 (Int.toNat x10) ((0 : Int), (0 : Int), (0 : Int), (0 : Int)))),
                V.m8 (V.tRows (List.getD x15 (Int.toNat x10) ((0 : Int), (0 : Int), (0 : Int), (0 : Int)))))
              (x11, x12, x13))
            (V.on (V.tRows (List.getD x15 (Int.toNat x10) ((0 : Int), (0 : Int), (0 : Int), (0 : Int)))) x14))
      else
        if
            (!(cEq
                    (V.x3
                      (V.tTurn
                        ((V.m0 (V.tRows (List.getD x15 (Int.toNat x10) ((0 : Int), (0 : Int), (0 : Int), (0 : Int)))), V.m1 (V.tRows (List.getD x15 (Int.toNat x10) ((0 : Int), (0 : Int), (0 : Int), (0 : Int)))), V.m2 (V.tRows (List.getD x15 (Int.toNat x10) ((0 : Int), (0 : Int), (0 : Int), (0 : Int))))),
                          (V.m3 (V.tRows (List.getD x15 (Int.toNat x10) ((0 : Int), (0 : Int), (0 : Int), (0 : Int)))), V.m4 (V.tRows (List.getD x15 (Int.toNat x10) ((0 : Int), (0 : Int), (0 : Int), (0 : Int)))), V.m5 (V.tRows (List.getD x15 (Int.toNat x10) ((0 : Int), (0 : Int), (0 : Int), (0 : Int))))), V.m6 (V.tRows (List.getD x15 (Int.toNat x10) ((0 : Int), (0 : Int), (0 : Int), (0 : Int)))), V.m7 (V.tRows (List.getD x15 (Int.toNat x10) ((0 : Int), (0 : Int), (0 : Int), (0 : Int)))),
                          V.m8 (V.tRows (List.getD x15 (Int.toNat x10) ((0 : Int), (0 : Int), (0 : Int), (0 : Int)))))
                        (V.x3
                            (V.tTurn
                              ((V.m0 (V.tRows (List.getD x15 (Int.toNat x10) ((0 : Int), (0 : Int), (0 : Int), (0 : Int)))), V.m1 (V.tRows (List.getD x15 (Int.toNat x10) ((0 : Int), (0 : Int), (0 : Int), (0 : Int)))), V.m2 (V.tRows (List.getD x15 (Int.toNat x10) ((0 : Int), (0 : Int), (0 : Int), (0 : Int))))),
                                (V.m3 (V.tRows (List.getD x15 (Int.toNat x10) ((0 : Int), (0 : Int), (0 : Int), (0 : Int)))), V.m4 (V.tRows (List.getD x15 (Int.toNat x10) ((0 : Int), (0 : Int), (0 : Int), (0 : Int)))), V.m5 (V.tRows (List.getD x15 (Int.toNat x10) ((0 : Int), (0 : Int), (0 : Int), (0 : Int))))), V.m6 (V.tRows (List.getD x15 (Int.toNat x10) ((0 : Int), (0 : Int), (0 : Int), (0 : Int)))), V.m7 (V.tRows (List.getD x15 (Int.toNat x10) ((0 : Int), (0 : Int), (0 : Int), (0 : Int)))),
                                V.m8 (V.tRows (List.getD x15 (Int.toNat x10) ((0 : Int), (0 : Int), (0 : Int), (0 : Int)))))
                              (x11, x12, x13)),
                          V.y3
                            (V.tTurn
                              ((V.m0 (V.tRows (List.getD x15 (Int.toNat x10) ((0 : Int), (0 : Int), (0 : Int), (0 : Int)))), V.m1 (V.tRows (List.getD x15 (Int.toNat x10) ((0 : Int), (0 : Int), (0 : Int), (0 : Int)))), V.m2 (V.tRows (List.getD x15 (Int.toNat x10) ((0 : Int), (0 : Int), (0 : Int), (0 : Int))))),
                                (V.m3 (V.tRows (List.getD x15 (Int.toNat x10) ((0 : Int), (0 : Int), (0 : Int), (0 : Int)))), V.m4 (V.tRows (List.getD x15 (Int.toNat x10) ((0 : Int), (0 : Int), (0 : Int), (0 : Int)))), V.m5 (V.tRows (List.getD x15 (Int.toNat x10) ((0 : Int), (0 : Int), (0 : Int), (0 : Int))))), V.m6 (V.tRows (List.getD x15 (Int.toNat x10) ((0 : Int), (0 : Int), (0 : Int), (0 : Int)))), V.m7 (V.tRows (List.getD x15 (Int.toNat x10) ((0 : Int), (0 : Int), (0 : Int), (0 : Int)))),
                                V.m8 (V.tRows (List.getD x15 (Int.toNat x10) ((0 : Int), (0 : Int), (0 : Int), (0 : Int)))))
                              (x11, x12, x13)),
                          V.z3
                            (V.tTurn
                              ((V.m0 (V.tRows (List.getD x15 (Int.toNat x10) ((0 : Int), (0 : Int), (0 : Int), (0 : Int)))), V.m1 (V.tRows (List.getD x15 (Int.toNat x10) ((0 : Int), (0 : Int), (0 : Int), (0 : Int)))), V.m2 (V.tRows (List.getD x15 (Int.toNat x10) ((0 : Int), (0 : Int), (0 : Int), (0 : Int))))),
                                (V.m3 (V.tRows (List.getD x15 (Int.toNat x10) ((0 : Int), (0 : Int), (0 : Int), (0 : Int)))), V.m4 (V.tRows (List.getD x15 (Int.toNat x10) ((0 : Int), (0 : Int), (0 : Int), (0 : Int)))), V.m5 (V.tRows (List.getD x15 (Int.toNat x10) ((0 : Int), (0 : Int), (0 : Int), (0 : Int))))), V.m6 (V.tRows (List.getD x15 (Int.toNat x10) ((0 : Int), (0 : Int), (0 : Int), (0 : Int)))), V.m7 (V.tRows (List.getD x15 (Int.toNat x10) ((0 : Int), (0 : Int), (0 : Int), (0 : Int)))),
                                V.m8 (V.tRows (List.getD x15 (Int.toNat x10) ((0 : Int), (0 : Int), (0 : Int), (0 : Int)))))
                              (x11, x12, x13)))))
                    x11 &&
                  (cEq
                      (V.y3
                        (V.tTurn
                          ((V.m0 (V.tRows (List.getD x15 (Int.toNat x10) ((0 : Int), (0 : Int), (0 : Int), (0 : Int)))), V.m1 (V.tRows (List.getD x15 (Int.toNat x10) ((0 : Int), (0 : Int), (0 : Int), (0 : Int)))), V.m2 (V.tRows (List.getD x15 (Int.toNat x10) ((0 : Int), (0 : Int), (0 : Int), (0 : Int))))),
                            (V.m3 (V.tRows (List.getD x15 (Int.toNat x10) ((0 : Int), (0 : Int), (0 : Int), (0 : Int)))), V.m4 (V.tRows (List.getD x15 (Int.toNat x10) ((0 : Int), (0 : Int), (0 : Int), (0 : Int)))), V.m5 (V.tRows (List.getD x15 (Int.toNat x10) ((0 : Int), (0 : Int), (0 : Int), (0 : Int))))), V.m6 (V.tRows (List.getD x15 (Int.toNat x10) ((0 : Int), (0 : Int), (0 : Int), (0 : Int)))), V.m7 (V.tRows (List.getD x15 (Int.toNat x10) ((0 : Int), (0 : Int), (0 : Int), (0 : Int)))),
                            V.m8 (V.tRows (List.getD x15 (Int.toNat x10) ((0 : Int), (0 : Int), (0 : Int), (0 : Int)))))
                          (V.x3
                              (V.tTurn
                                ((V.m0 (V.tRows (List.getD x15 (Int.toNat x10) ((0 : Int), (0 : Int), (0 : Int), (0 : Int)))), V.m1 (V.tRows (List.getD x15 (Int.toNat x10) ((0 : Int), (0 : Int), (0 : Int), (0 : Int)))), V.m2 (V.tRows (List.getD x15 (Int.toNat x10) ((0 : Int), (0 : Int), (0 : Int), (0 : Int))))),
                                  (V.m3 (V.tRows (List.getD x15 (Int.toNat x10) ((0 : Int), (0 : Int), (0 : Int), (0 : Int)))), V.m4 (V.tRows (List.getD x15 (Int.toNat x10) ((0 : Int), (0 : Int), (0 : Int), (0 : Int)))), V.m5 (V.tRows (List.getD x15 (Int.toNat x10) ((0 : Int), (0 : Int), (0 : Int), (0 : Int))))), V.m6 (V.tRows (List.getD x15 (Int.toNat x10) ((0 : Int), (0 : Int), (0 : Int), (0 : Int)))), V.m7 (V.tRows (List.getD x15 (Int.toNat x10) ((0 : Int), (0 : Int), (0 : Int), (0 : Int)))),
                                  V.m8 (V.tRows (List.getD x15 (Int.toNat x10) ((0 : Int), (0 : Int), (0 : Int), (0 : Int)))))
                                (x11, x12, x13)),
                            V.y3
                              (V.tTurn
                                ((V.m0 (V.tRows (List.getD x15 (Int.toNat x10) ((0 : Int), (0 : Int), (0 : Int), (0 : Int)))), V.m1 (V.tRows (List.getD x15 (Int.toNat x10) ((0 : Int), (0 : Int), (0 : Int), (0 : Int)))), V.m2 (V.tRows (List.getD x15 (Int.toNat x10) ((0 : Int), (0 : Int), (0 : Int), (0 : Int))))),
                                  (V.m3 (V.tRows (List.getD x15 (Int.toNat x10) ((0 : Int), (0 : Int), (0 : Int), (0 : Int)))), V.m4 (V.tRows (List.getD x15 (Int.toNat x10) ((0 : Int), (0 : Int), (0 : Int), (0 : Int)))), V.m5 (V.tRows (List.getD x15 (Int.toNat x10) ((0 : Int), (0 : Int), (0 : Int), (0 : Int))))), V.m6 (V.tRows (List.getD x15 (Int.toNat x10) ((0 : Int), (0 : Int), (0 : Int), (0 : Int)))), V.m7 (V.tRows (List.getD x15 (Int.toNat x10) ((0 : Int), (0 : Int), (0 : Int), (0 : Int)))),
                                  V.m8 (V.tRows (List.getD x15 (Int.toNat x10) ((0 : Int), (0 : Int), (0 : Int), (0 : Int)))))
                                (x11, x12, x13)),
                            V.z3
                              (V.tTurn
                                ((V.m0 (V.tRows (List.getD x15 (Int.toNat x10) ((0 : Int), (0 : Int), (0 : Int), (0 : Int)))), V.m1 (V.tRows (List.getD x15 (Int.toNat x10) ((0 : Int), (0 : Int), (0 : Int), (0 : Int)))), V.m2 (V.tRows (List.getD x15 (Int.toNat x10) ((0 : Int), (0 : Int), (0 : Int), (0 : Int))))),
                                  (V.m3 (V.tRows (List.getD x15 (Int.toNat x10) ((0 : Int), (0 : Int), (0 : Int), (0 : Int)))), V.m4 (V.tRows (List.getD x15 (Int.toNat x10) ((0 : Int), (0 : Int), (0 : Int), (0 : Int)))), V.m5 (V.tRows (List.getD x15 (Int.toNat x10) ((0 : Int), (0 : Int), (0 : Int), (0 : Int))))), V.m6 (V.tRows (List.getD x15 (Int.toNat x10) ((0 : Int), (0 : Int), (0 : Int), (0 : Int)))), V.m7 (V.tRows (List.getD x15 (Int.toNat x10) ((0 : Int), (0 : Int), (0 : Int), (0 : Int)))),
                                  V.m8 (V.tRows (List.getD x15 (Int.toNat x10) ((0 : Int), (0 : Int), (0 : Int), (0 : Int)))))
                                (x11, x12, x13)))))
                      x12 &&
                    (cEq
                        (V.z3
                          (V.tTurn
                            ((V.m0 (V.tRows (List.getD x15 (Int.toNat x10) ((0 : Int), (0 : Int), (0 : Int), (0 : Int)))), V.m1 (V.tRows (List.getD x15 (Int.toNat x10) ((0 : Int), (0 : Int), (0 : Int), (0 : Int)))), V.m2 (V.tRows (List.getD x15 (Int.toNat x10) ((0 : Int), (0 : Int), (0 : Int), (0 : Int))))),
                              (V.m3 (V.tRows (List.getD x15 (Int.toNat x10) ((0 : Int), (0 : Int), (0 : Int), (0 : Int)))), V.m4 (V.tRows (List.getD x15 (Int.toNat x10) ((0 : Int), (0 : Int), (0 : Int), (0 : Int)))), V.m5 (V.tRows (List.getD x15 (Int.toNat x10) ((0 : Int), (0 : Int), (0 : Int), (0 : Int))))), V.m6 (V.tRows (List.getD x15 (Int.toNat x10) ((0 : Int), (0 : Int), (0 : Int), (0 : Int)))), V.m7 (V.tRows (List.getD x15 (Int.toNat x10) ((0 : Int), (0 : Int), (0 : Int), (0 : Int)))),
                              V.m8 (V.tRows (List.getD x15 (Int.toNat x10) ((0 : Int), (0 : Int), (0 : Int), (0 : Int)))))
                            (V.x3
                                (V.tTurn
                                  ((V.m0 (V.tRows (List.getD x15 (Int.toNat x10) ((0 : Int), (0 : Int), (0 : Int), (0 : Int)))), V.m1 (V.tRows (List.getD x15 (Int.toNat x10) ((0 : Int), (0 : Int), (0 : Int), (0 : Int)))), V.m2 (V.tRows (List.getD x15 (Int.toNat x10) ((0 : Int), (0 : Int), (0 : Int), (0 : Int))))),
                                    (V.m3 (V.tRows (List.getD x15 (Int.toNat x10) ((0 : Int), (0 : Int), (0 : Int), (0 : Int)))), V.m4 (V.tRows (List.getD x15 (Int.toNat x10) ((0 : Int), (0 : Int), (0 : Int), (0 : Int)))), V.m5 (V.tRows (List.getD x15 (Int.toNat x10) ((0 : Int), (0 : Int), (0 : Int), (0 : Int))))), V.m6 (V.tRows (List.getD x15 (Int.toNat x10) ((0 : Int), (0 : Int), (0 : Int), (0 : Int)))),
                                    V.m7 (V.tRows (List.getD x15 (Int.toNat x10) ((0 : Int), (0 : Int), (0 : Int), (0 : Int)))), V.m8 (V.tRows (List.getD x15 (Int.toNat x10) ((0 : Int), (0 : Int), (0 : Int), (0 : Int)))))
                                  (x11, x12, x13)),
                              V.y3
                                (V.tTurn
                                  ((V.m0 (V.tRows (List.getD x15 (Int.toNat x10) ((0 : Int), (0 : Int), (0 : Int), (0 : Int)))), V.m1 (V.tRows (List.getD x15 (Int.toNat x10) ((0 : Int), (0 : Int), (0 : Int), (0 : Int)))), V.m2 (V.tRows (List.getD x15 (Int.toNat x10) ((0 : Int), (0 : Int), (0 : Int), (0 : Int))))),
                                    (V.m3 (V.tRows (List.getD x15 (Int.toNat x10) ((0 : Int), (0 : Int), (0 : Int), (0 : Int)))), V.m4 (V.tRows (List.getD x15 (Int.toNat x10) ((0 : Int), (0 : Int), (0 : Int), (0 : Int)))), V.m5 (V.tRows (List.getD x15 (Int.toNat x10) ((0 : Int), (0 : Int), (0 : Int), (0 : Int))))), V.m6 (V.tRows (List.getD x15 (Int.toNat x10) ((0 : Int), (0 : Int), (0 : Int), (0 : Int)))),
                                    V.m7 (V.tRows (List.getD x15 (Int.toNat x10) ((0 : Int), (0 : Int), (0 : Int), (0 : Int)))), V.m8 (V.tRows (List.getD x15 (Int.toNat x10) ((0 : Int), (0 : Int), (0 : Int), (0 : Int)))))
                                  (x11, x12, x13)),
                              V.z3
                                (V.tTurn
                                  ((V.m0 (V.tRows (List.getD x15 (Int.toNat x10) ((0 : Int), (0 : Int), (0 : Int), (0 : Int)))), V.m1 (V.tRows (List.getD x15 (Int.toNat x10) ((0 : Int), (0 : Int), (0 : Int), (0 : Int)))), V.m2 (V.tRows (List.getD x15 (Int.toNat x10) ((0 : Int), (0 : Int), (0 : Int), (0 : Int))))),
                                    (V.m3 (V.tRows (List.getD x15 (Int.toNat x10) ((0 : Int), (0 : Int), (0 : Int), (0 : Int)))), V.m4 (V.tRows (List.getD x15 (Int.toNat x10) ((0 : Int), (0 : Int), (0 : Int), (0 : Int)))), V.m5 (V.tRows (List.getD x15 (Int.toNat x10) ((0 : Int), (0 : Int), (0 : Int), (0 : Int))))), V.m6 (V.tRows (List.getD x15 (Int.toNat x10) ((0 : Int), (0 : Int), (0 : Int), (0 : Int)))),
                                    V.m7 (V.tRows (List.getD x15 (Int.toNat x10) ((0 : Int), (0 : Int), (0 : Int), (0 : Int)))), V.m8 (V.tRows (List.getD x15 (Int.toNat x10) ((0 : Int), (0 : Int), (0 : Int), (0 : Int)))))
                                  (x11, x12, x13)))))
                        x13 &&
                      true)))) =
              true then
          k0
            (V.on
              (V.tTurn
                ((V.m0 (V.tRows (List.getD x15 (Int.toNat x10) ((0 : Int), (0 : Int), (0 : Int), (0 : Int)))), V.m1 (V.tRows (List.getD x15 (Int.toNat x10) ((0 : Int), (0 : Int), (0 : Int), (0 : Int)))), V.m2 (V.tRows (List.getD x15 (Int.toNat x10) ((0 : Int), (0 : Int), (0 : Int), (0 : Int))))),
                  (V.m3 (V.tRows (List.getD x15 (Int.toNat x10) ((0 : Int), (0 : Int), (0 : Int), (0 : Int)))), V.m4 (V.tRows (List.getD x15 (Int.toNat x10) ((0 : Int), (0 : Int), (0 : Int), (0 : Int)))), V.m5 (V.tRows (List.getD x15 (Int.toNat x10) ((0 : Int), (0 : Int), (0 : Int), (0 : Int))))), V.m6 (V.tRows (List.getD x15 (Int.toNat x10) ((0 : Int), (0 : Int), (0 : Int), (0 : Int)))), V.m7 (V.tRows (List.getD x15 (Int.toNat x10) ((0 : Int), (0 : Int), (0 : Int), (0 : Int)))),
                  V.m8 (V.tRows (List.getD x15 (Int.toNat x10) ((0 : Int), (0 : Int), (0 : Int), (0 : Int)))))
                (V.x3
                    (V.tTurn
                      ((V.m0 (V.tRows (List.getD x15 (Int.toNat x10) ((0 : Int), (0 : Int), (0 : Int), (0 : Int)))), V.m1 (V.tRows (List.getD x15 (Int.toNat x10) ((0 : Int), (0 : Int), (0 : Int), (0 : Int)))), V.m2 (V.tRows (List.getD x15 (Int.toNat x10) ((0 : Int), (0 : Int), (0 : Int), (0 : Int))))),
                        (V.m3 (V.tRows (List.getD x15 (Int.toNat x10) ((0 : Int), (0 : Int), (0 : Int), (0 : Int)))), V.m4 (V.tRows (List.getD x15 (Int.toNat x10) ((0 : Int), (0 : Int), (0 : Int), (0 : Int)))), V.m5 (V.tRows (List.getD x15 (Int.toNat x10) ((0 : Int), (0 : Int), (0 : Int), (0 : Int))))), V.m6 (V.tRows (List.getD x15 (Int.toNat x10) ((0 : Int), (0 : Int), (0 : Int), (0 : Int)))), V.m7 (V.tRows (List.getD x15 (Int.toNat x10) ((0 : Int), (0 : Int), (0 : Int), (0 : Int)))),
                        V.m8 (V.tRows (List.getD x15 (Int.toNat x10) ((0 : Int), (0 : Int), (0 : Int), (0 : Int)))))
                      (x11, x12, x13)),
                  V.y3
                    (V.tTurn
                      ((V.m0 (V.tRows (List.getD x15 (Int.toNat x10) ((0 : Int), (0 : Int), (0 : Int), (0 : Int)))), V.m1 (V.tRows (List.getD x15 (Int.toNat x10) ((0 : Int), (0 : Int), (0 : Int), (0 : Int)))), V.m2 (V.tRows (List.getD x15 (Int.toNat x10) ((0 : Int), (0 : Int), (0 : Int), (0 : Int))))),
                        (V.m3 (V.tRows (List.getD x15 (Int.toNat x10) ((0 : Int), (0 : Int), (0 : Int), (0 : Int)))), V.m4 (V.tRows (List.getD x15 (Int.toNat x10) ((0 : Int), (0 : Int), (0 : Int), (0 : Int)))), V.m5 (V.tRows (List.getD x15 (Int.toNat x10) ((0 : Int), (0 : Int), (0 : Int), (0 : Int))))), V.m6 (V.tRows (List.getD x15 (Int.toNat x10) ((0 : Int), (0 : Int), (0 : Int), (0 : Int)))), V.m7 (V.tRows (List.getD x15 (Int.toNat x10) ((0 : Int), (0 : Int), (0 : Int), (0 : Int)))),
                        V.m8 (V.tRows (List.getD x15 (Int.toNat x10) ((0 : Int), (0 : Int), (0 : Int), (0 : Int)))))
                      (x11, x12, x13)),
                  V.z3
                    (V.tTurn
                      ((V.m0 (V.tRows (List.getD x15 (Int.toNat x10) ((0 : Int), (0 : Int), (0 : Int), (0 : Int)))), V.m1 (V.tRows (List.getD x15 (Int.toNat x10) ((0 : Int), (0 : Int), (0 : Int), (0 : Int)))), V.m2 (V.tRows (List.getD x15 (Int.toNat x10) ((0 : Int), (0 : Int), (0 : Int), (0 : Int))))),
                        (V.m3 (V.tRows (List.getD x15 (Int.toNat x10) ((0 : Int), (0 : Int), (0 : Int), (0 : Int)))), V.m4 (V.tRows (List.getD x15 (Int.toNat x10) ((0 : Int), (0 : Int), (0 : Int), (0 : Int)))), V.m5 (V.tRows (List.getD x15 (Int.toNat x10) ((0 : Int), (0 : Int), (0 : Int), (0 : Int))))), V.m6 (V.tRows (List.getD x15 (Int.toNat x10) ((0 : Int), (0 : Int), (0 : Int), (0 : Int)))), V.m7 (V.tRows (List.getD x15 (Int.toNat x10) ((0 : Int), (0 : Int), (0 : Int), (0 : Int)))),
                        V.m8 (V.tRows (List.getD x15 (Int.toNat x10) ((0 : Int), (0 : Int), (0 : Int), (0 : Int)))))
                      (x11, x12, x13))))
              (V.on
                (V.tTurn
                  ((V.m0 (V.tRows (List.getD x15 (Int.toNat x10) ((0 : Int), (0 : Int), (0 : Int), (0 : Int)))), V.m1 (V.tRows (List.getD x15 (Int.toNat x10) ((0 : Int), (0 : Int), (0 : Int), (0 : Int)))), V.m2 (V.tRows (List.getD x15 (Int.toNat x10) ((0 : Int), (0 : Int), (0 : Int), (0 : Int))))),
                    (V.m3 (V.tRows (List.getD x15 (Int.toNat x10) ((0 : Int), (0 : Int), (0 : Int), (0 : Int)))), V.m4 (V.tRows (List.getD x15 (Int.toNat x10) ((0 : Int), (0 : Int), (0 : Int), (0 : Int)))), V.m5 (V.tRows (List.getD x15 (Int.toNat x10) ((0 : Int), (0 : Int), (0 : Int), (0 : Int))))), V.m6 (V.tRows (List.getD x15 (Int.toNat x10) ((0 : Int), (0 : Int), (0 : Int), (0 : Int)))), V.m7 (V.tRows (List.getD x15 (Int.toNat x10) ((0 : Int), (0 : Int), (0 : Int), (0 : Int)))),
                    V.m8 (V.tRows (List.getD x15 (Int.toNat x10) ((0 : Int), (0 : Int), (0 : Int), (0 : Int)))))
                  (x11, x12, x13))
                (V.on (V.tRows (List.getD x15 (Int.toNat x10) ((0 : Int), (0 : Int), (0 : Int), (0 : Int)))) x14)))
        else
          if
              (!(cEq
                      (V.x3
                        (V.tBack
                          ((V.m0 (V.tRows (List.getD x15 (Int.toNat x10) ((0 : Int), (0 : Int), (0 : Int), (0 : Int)))), V.m1 (V.tRows (List.getD x15 (Int.toNat x10) ((0 : Int), (0 : Int), (0 : Int), (0 : Int)))), V.m2 (V.tRows (List.getD x15 (Int.toNat x10) ((0 : Int), (0 : Int), (0 : Int), (0 : Int))))),
                            (V.m3 (V.tRows (List.getD x15 (Int.toNat x10) ((0 : Int), (0 : Int), (0 : Int), (0 : Int)))), V.m4 (V.tRows (List.getD x15 (Int.toNat x10) ((0 : Int), (0 : Int), (0 : Int), (0 : Int)))), V.m5 (V.tRows (List.getD x15 (Int.toNat x10) ((0 : Int), (0 : Int), (0 : Int), (0 : Int))))), V.m6 (V.tRows (List.getD x15 (Int.toNat x10) ((0 : Int), (0 : Int), (0 : Int), (0 : Int)))), V.m7 (V.tRows (List.getD x15 (Int.toNat x10) ((0 : Int), (0 : Int), (0 : Int), (0 : Int)))),
                            V.m8 (V.tRows (List.getD x15 (Int.toNat x10) ((0 : Int), (0 : Int), (0 : Int), (0 : Int)))))
                          (V.x3
                              (V.tTurn
                                ((V.m0 (V.tRows (List.getD x15 (Int.toNat x10) ((0 : Int), (0 : Int), (0 : Int), (0 : Int)))), V.m1 (V.tRows (List.getD x15 (Int.toNat x10) ((0 : Int), (0 : Int), (0 : Int), (0 : Int)))), V.m2 (V.tRows (List.getD x15 (Int.toNat x10) ((0 : Int), (0 : Int), (0 : Int), (0 : Int))))),
                                  (V.m3 (V.tRows (List.getD x15 (Int.toNat x10) ((0 : Int), (0 : Int), (0 : Int), (0 : Int)))), V.m4 (V.tRows (List.getD x15 (Int.toNat x10) ((0 : Int), (0 : Int), (0 : Int), (0 : Int)))), V.m5 (V.tRows (List.getD x15 (Int.toNat x10) ((0 : Int), (0 : Int), (0 : Int), (0 : Int))))), V.m6 (V.tRows (List.getD x15 (Int.toNat x10) ((0 : Int), (0 : Int), (0 : Int), (0 : Int)))), V.m7 (V.tRows (List.getD x15 (Int.toNat x10) ((0 : Int), (0 : Int), (0 : Int), (0 : Int)))),
                                  V.m8 (V.tRows (List.getD x15 (Int.toNat x10) ((0 : Int), (0 : Int), (0 : Int), (0 : Int)))))
                                (x11, x12, x13)),
                            V.y3
                              (V.tTurn
                                ((V.m0 (V.tRows (List.getD x15 (Int.toNat x10) ((0 : Int), (0 : Int), (0 : Int), (0 : Int)))), V.m1 (V.tRows (List.getD x15 (Int.toNat x10) ((0 : Int), (0 : Int), (0 : Int), (0 : Int)))), V.m2 (V.tRows (List.getD x15 (Int.toNat x10) ((0 : Int), (0 : Int), (0 : Int), (0 : Int))))),
                                  (V.m3 (V.tRows (List.getD x15 (Int.toNat x10) ((0 : Int), (0 : Int), (0 : Int), (0 : Int)))), V.m4 (V.tRows (List.getD x15 (Int.toNat x10) ((0 : Int), (0 : Int), (0 : Int), (0 : Int)))), V.m5 (V.tRows (List.getD x15 (Int.toNat x10) ((0 : Int), (0 : Int), (0 : Int), (0 : Int))))), V.m6 (V.tRows (List.getD x15 (Int.toNat x10) ((0 : Int), (0 : Int), (0 : Int), (0 : Int)))), V.m7 (V.tRows (List.getD x15 (Int.toNat x10) ((0 : Int), (0 : Int), (0 : Int), (0 : Int)))),
                                  V.m8 (V.tRows (List.getD x15 (Int.toNat x10) ((0 : Int), (0 : Int), (0 : Int), (0 : Int)))))
                                (x11, x12, x13)),
                            V.z3
                              (V.tTurn
                                ((V.m0 (V.tRows (List.getD x15 (Int.toNat x10) ((0 : Int), (0 : Int), (0 : Int), (0 : Int)))), V.m1 (V.tRows (List.getD x15 (Int.toNat x10) ((0 : Int), (0 : Int), (0 : Int), (0 : Int)))), V.m2 (V.tRows (List.getD x15 (Int.toNat x10) ((0 : Int), (0 : Int), (0 : Int), (0 : Int))))),
                                  (V.m3 (V.tRows (List.getD x15 (Int.toNat x10) ((0 : Int), (0 : Int), (0 : Int), (0 : Int)))), V.m4 (V.tRows (List.getD x15 (Int.toNat x10) ((0 : Int), (0 : Int), (0 : Int), (0 : Int)))), V.m5 (V.tRows (List.getD x15 (Int.toNat x10) ((0 : Int), (0 : Int), (0 : Int), (0 : Int))))), V.m6 (V.tRows (List.getD x15 (Int.toNat x10) ((0 : Int), (0 : Int), (0 : Int), (0 : Int)))), V.m7 (V.tRows (List.getD x15 (Int.toNat x10) ((0 : Int), (0 : Int), (0 : Int), (0 : Int)))),
                                  V.m8 (V.tRows (List.getD x15 (Int.toNat x10) ((0 : Int), (0 : Int), (0 : Int), (0 : Int)))))
                                (x11, x12, x13)))))
                      x11 &&
                    (cEq
                        (V.y3
                          (V.tBack
                            ((V.m0 (V.tRows (List.getD x15 (Int.toNat x10) ((0 : Int), (0 : Int), (0 : Int), (0 : Int)))), V.m1 (V.tRows (List.getD x15 (Int.toNat x10) ((0 : Int), (0 : Int), (0 : Int), (0 : Int)))), V.m2 (V.tRows (List.getD x15 (Int.toNat x10) ((0 : Int), (0 : Int), (0 : Int), (0 : Int))))),
                              (V.m3 (V.tRows (List.getD x15 (Int.toNat x10) ((0 : Int), (0 : Int), (0 : Int), (0 : Int)))), V.m4 (V.tRows (List.getD x15 (Int.toNat x10) ((0 : Int), (0 : Int), (0 : Int), (0 : Int)))), V.m5 (V.tRows (List.getD x15 (Int.toNat x10) ((0 : Int), (0 : Int), (0 : Int), (0 : Int))))), V.m6 (V.tRows (List.getD x15 (Int.toNat x10) ((0 : Int), (0 : Int), (0 : Int), (0 : Int)))), V.m7 (V.tRows (List.getD x15 (Int.toNat x10) ((0 : Int), (0 : Int), (0 : Int), (0 : Int)))),
                              V.m8 (V.tRows (List.getD x15 (Int.toNat x10) ((0 : Int), (0 : Int), (0 : Int), (0 : Int)))))
                            (V.x3
                                (V.tTurn
                                  ((V.m0 (V.tRows (List.getD x15 (Int.toNat x10) ((0 : Int), (0 : Int), (0 : Int), (0 : Int)))), V.m1 (V.tRows (List.getD x15 (Int.toNat x10) ((0 : Int), (0 : Int), (0 : Int), (0 : Int)))), V.m2 (V.tRows (List.getD x15 (Int.toNat x10) ((0 : Int), (0 : Int), (0 : Int), (0 : Int))))),
                                    (V.m3 (V.tRows (List.getD x15 (Int.toNat x10) ((0 : Int), (0 : Int), (0 : Int), (0 : Int)))), V.m4 (V.tRows (List.getD x15 (Int.toNat x10) ((0 : Int), (0 : Int), (0 : Int), (0 : Int)))), V.m5 (V.tRows (List.getD x15 (Int.toNat x10) ((0 : Int), (0 : Int), (0 : Int), (0 : Int))))), V.m6 (V.tRows (List.getD x15 (Int.toNat x10) ((0 : Int), (0 : Int), (0 : Int), (0 : Int)))),
                                    V.m7 (V.tRows (List.getD x15 (Int.toNat x10) ((0 : Int), (0 : Int), (0 : Int), (0 : Int)))), V.m8 (V.tRows (List.getD x15 (Int.toNat x10) ((0 : Int), (0 : Int), (0 : Int), (0 : Int)))))
                                  (x11, x12, x13)),
                              V.y3
                                (V.tTurn
                                  ((V.m0 (V.tRows (List.getD x15 (Int.toNat x10) ((0 : Int), (0 : Int), (0 : Int), (0 : Int)))), V.m1 (V.tRows (List.getD x15 (Int.toNat x10) ((0 : Int), (0 : Int), (0 : Int), (0 : Int)))), V.m2 (V.tRows (List.getD x15 (Int.toNat x10) ((0 : Int), (0 : Int), (0 : Int), (0 : Int))))),
                                    (V.m3 (V.tRows (List.getD x15 (Int.toNat x10) ((0 : Int), (0 : Int), (0 : Int), (0 : Int)))), V.m4 (V.tRows (List.getD x15 (Int.toNat x10) ((0 : Int), (0 : Int), (0 : Int), (0 : Int)))), V.m5 (V.tRows (List.getD x15 (Int.toNat x10) ((0 : Int), (0 : Int), (0 : Int), (0 : Int))))), V.m6 (V.tRows (List.getD x15 (Int.toNat x10) ((0 : Int), (0 : Int), (0 : Int), (0 : Int)))),
                                    V.m7 (V.tRows (List.getD x15 (Int.toNat x10) ((0 : Int), (0 : Int), (0 : Int), (0 : Int)))), V.m8 (V.tRows (List.getD x15 (Int.toNat x10) ((0 : Int), (0 : Int), (0 : Int), (0 : Int)))))
                                  (x11, x12, x13)),
                              V.z3
                                (V.tTurn
                                  ((V.m0 (V.tRows (List.getD x15 (Int.toNat x10) ((0 : Int), (0 : Int), (0 : Int), (0 : Int)))), V.m1 (V.tRows (List.getD x15 (Int.toNat x10) ((0 : Int), (0 : Int), (0 : Int), (0 : Int)))), V.m2 (V.tRows (List.getD x15 (Int.toNat x10) ((0 : Int), (0 : Int), (0 : Int), (0 : Int))))),
                                    (V.m3 (V.tRows (List.getD x15 (Int.toNat x10) ((0 : Int), (0 : Int), (0 : Int), (0 : Int)))), V.m4 (V.tRows (List.getD x15 (Int.toNat x10) ((0 : Int), (0 : Int), (0 : Int), (0 : Int)))), V.m5 (V.tRows (List.getD x15 (Int.toNat x10) ((0 : Int), (0 : Int), (0 : Int), (0 : Int))))), V.m6 (V.tRows (List.getD x15 (Int.toNat x10) ((0 : Int), (0 : Int), (0 : Int), (0 : Int)))),
                                    V.m7 (V.tRows (List.getD x15 (Int.toNat x10) ((0 : Int), (0 : Int), (0 : Int), (0 : Int)))), V.m8 (V.tRows (List.getD x15 (Int.toNat x10) ((0 : Int), (0 : Int), (0 : Int), (0 : Int)))))
                                  (x11, x12, x13)))))
                        x12 &&
                      (cEq
                          (V.z3
                            (V.tBack
                              ((V.m0 (V.tRows (List.getD x15 (Int.toNat x10) ((0 : Int), (0 : Int), (0 : Int), (0 : Int)))), V.m1 (V.tRows (List.getD x15 (Int.toNat x10) ((0 : Int), (0 : Int), (0 : Int), (0 : Int)))), V.m2 (V.tRows (List.getD x15 (Int.toNat x10) ((0 : Int), (0 : Int), (0 : Int), (0 : Int))))),
                                (V.m3 (V.tRows (List.getD x15 (Int.toNat x10) ((0 : Int), (0 : Int), (0 : Int), (0 : Int)))), V.m4 (V.tRows (List.getD x15 (Int.toNat x10) ((0 : Int), (0 : Int), (0 : Int), (0 : Int)))), V.m5 (V.tRows (List.getD x15 (Int.toNat x10) ((0 : Int), (0 : Int), (0 : Int), (0 : Int))))), V.m6 (V.tRows (List.getD x15 (Int.toNat x10) ((0 : Int), (0 : Int), (0 : Int), (0 : Int)))), V.m7 (V.tRows (List.getD x15 (Int.toNat x10) ((0 : Int), (0 : Int), (0 : Int), (0 : Int)))),
                                V.m8 (V.tRows (List.getD x15 (Int.toNat x10) ((0 : Int), (0 : Int), (0 : Int), (0 : Int)))))
                              (V.x3
                                  (V.tTurn
                                    ((V.m0 (V.tRows (List.getD x15 (Int.toNat x10) ((0 : Int), (0 : Int), (0 : Int), (0 : Int)))), V.m1 (V.tRows (List.getD x15 (Int.toNat x10) ((0 : Int), (0 : Int), (0 : Int), (0 : Int)))), V.m2 (V.tRows (List.getD x15 (Int.toNat x10) ((0 : Int), (0 : Int), (0 : Int), (0 : Int))))),
                                      (V.m3 (V.tRows (List.getD x15 (Int.toNat x10) ((0 : Int), (0 : Int), (0 : Int), (0 : Int)))), V.m4 (V.tRows (List.getD x15 (Int.toNat x10) ((0 : Int), (0 : Int), (0 : Int), (0 : Int)))), V.m5 (V.tRows (List.getD x15 (Int.toNat x10) ((0 : Int), (0 : Int), (0 : Int), (0 : Int))))), V.m6 (V.tRows (List.getD x15 (Int.toNat x10) ((0 : Int), (0 : Int), (0 : Int), (0 : Int)))),
                                      V.m7 (V.tRows (List.getD x15 (Int.toNat x10) ((0 : Int), (0 : Int), (0 : Int), (0 : Int)))), V.m8 (V.tRows (List.getD x15 (Int.toNat x10) ((0 : Int), (0 : Int), (0 : Int), (0 : Int)))))
                                    (x11, x12, x13)),
                                V.y3
                                  (V.tTurn
                                    ((V.m0 (V.tRows (List.getD x15 (Int.toNat x10) ((0 : Int), (0 : Int), (0 : Int), (0 : Int)))), V.m1 (V.tRows (List.getD x15 (Int.toNat x10) ((0 : Int), (0 : Int), (0 : Int), (0 : Int)))), V.m2 (V.tRows (List.getD x15 (Int.toNat x10) ((0 : Int), (0 : Int), (0 : Int), (0 : Int))))),
                                      (V.m3 (V.tRows (List.getD x15 (Int.toNat x10) ((0 : Int), (0 : Int), (0 : Int), (0 : Int)))), V.m4 (V.tRows (List.getD x15 (Int.toNat x10) ((0 : Int), (0 : Int), (0 : Int), (0 : Int)))), V.m5 (V.tRows (List.getD x15 (Int.toNat x10) ((0 : Int), (0 : Int), (0 : Int), (0 : Int))))), V.m6 (V.tRows (List.getD x15 (Int.toNat x10) ((0 : Int), (0 : Int), (0 : Int), (0 : Int)))),
                                      V.m7 (V.tRows (List.getD x15 (Int.toNat x10) ((0 : Int), (0 : Int), (0 : Int), (0 : Int)))), V.m8 (V.tRows (List.getD x15 (Int.toNat x10) ((0 : Int), (0 : Int), (0 : Int), (0 : Int)))))
                                    (x11, x12, x13)),
                                V.z3
                                  (V.tTurn
                                    ((V.m0 (V.tRows (List.getD x15 (Int.toNat x10) ((0 : Int), (0 : Int), (0 : Int), (0 : Int)))), V.m1 (V.tRows (List.getD x15 (Int.toNat x10) ((0 : Int), (0 : Int), (0 : Int), (0 : Int)))), V.m2 (V.tRows (List.getD x15 (Int.toNat x10) ((0 : Int), (0 : Int), (0 : Int), (0 : Int))))),
                                      (V.m3 (V.tRows (List.getD x15 (Int.toNat x10) ((0 : Int), (0 : Int), (0 : Int), (0 : Int)))), V.m4 (V.tRows (List.getD x15 (Int.toNat x10) ((0 : Int), (0 : Int), (0 : Int), (0 : Int)))), V.m5 (V.tRows (List.getD x15 (Int.toNat x10) ((0 : Int), (0 : Int), (0 : Int), (0 : Int))))), V.m6 (V.tRows (List.getD x15 (Int.toNat x10) ((0 : Int), (0 : Int), (0 : Int), (0 : Int)))),
                                      V.m7 (V.tRows (List.getD x15 (Int.toNat x10) ((0 : Int), (0 : Int), (0 : Int), (0 : Int)))), V.m8 (V.tRows (List.getD x15 (Int.toNat x10) ((0 : Int), (0 : Int), (0 : Int), (0 : Int)))))
                                    (x11, x12, x13)))))
                          x13 &&
                        true)))) =
                true then
            k0
              (V.on
                (V.tBack
                  ((V.m0 (V.tRows (List.getD x15 (Int.toNat x10) ((0 : Int), (0 : Int), (0 : Int), (0 : Int)))), V.m1 (V.tRows (List.getD x15 (Int.toNat x10) ((0 : Int), (0 : Int), (0 : Int), (0 : Int)))), V.m2 (V.tRows (List.getD x15 (Int.toNat x10) ((0 : Int), (0 : Int), (0 : Int), (0 : Int))))),
                    (V.m3 (V.tRows (List.getD x15 (Int.toNat x10) ((0 : Int), (0 : Int), (0 : Int), (0 : Int)))), V.m4 (V.tRows (List.getD x15 (Int.toNat x10) ((0 : Int), (0 : Int), (0 : Int), (0 : Int)))), V.m5 (V.tRows (List.getD x15 (Int.toNat x10) ((0 : Int), (0 : Int), (0 : Int), (0 : Int))))), V.m6 (V.tRows (List.getD x15 (Int.toNat x10) ((0 : Int), (0 : Int), (0 : Int), (0 : Int)))), V.m7 (V.tRows (List.getD x15 (Int.toNat x10) ((0 : Int), (0 : Int), (0 : Int), (0 : Int)))),
                    V.m8 (V.tRows (List.getD x15 (Int.toNat x10) ((0 : Int), (0 : Int), (0 : Int), (0 : Int)))))
                  (V.x3
                      (V.tTurn
                        ((V.m0 (V.tRows (List.getD x15 (Int.toNat x10) ((0 : Int), (0 : Int), (0 : Int), (0 : Int)))), V.m1 (V.tRows (List.getD x15 (Int.toNat x10) ((0 : Int), (0 : Int), (0 : Int), (0 : Int)))), V.m2 (V.tRows (List.getD x15 (Int.toNat x10) ((0 : Int), (0 : Int), (0 : Int), (0 : Int))))),
                          (V.m3 (V.tRows (List.getD x15 (Int.toNat x10) ((0 : Int), (0 : Int), (0 : Int), (0 : Int)))), V.m4 (V.tRows (List.getD x15 (Int.toNat x10) ((0 : Int), (0 : Int), (0 : Int), (0 : Int)))), V.m5 (V.tRows (List.getD x15 (Int.toNat x10) ((0 : Int), (0 : Int), (0 : Int), (0 : Int))))), V.m6 (V.tRows (List.getD x15 (Int.toNat x10) ((0 : Int), (0 : Int), (0 : Int), (0 : Int)))), V.m7 (V.tRows (List.getD x15 (Int.toNat x10) ((0 : Int), (0 : Int), (0 : Int), (0 : Int)))),
                          V.m8 (V.tRows (List.getD x15 (Int.toNat x10) ((0 : Int), (0 : Int), (0 : Int), (0 : Int)))))
                        (x11, x12, x13)),
                    V.y3
                      (V.tTurn
                        ((V.m0 (V.tRows (List.getD x15 (Int.toNat x10) ((0 : Int), (0 : Int), (0 : Int), (0 : Int)))), V.m1 (V.tRows (List.getD x15 (Int.toNat x10) ((0 : Int), (0 : Int), (0 : Int), (0 : Int)))), V.m2 (V.tRows (List.getD x15 (Int.toNat x10) ((0 : Int), (0 : Int), (0 : Int), (0 : Int))))),
                          (V.m3 (V.tRows (List.getD x15 (Int.toNat x10) ((0 : Int), (0 : Int), (0 : Int), (0 : Int)))), V.m4 (V.tRows (List.getD x15 (Int.toNat x10) ((0 : Int), (0 : Int), (0 : Int), (0 : Int)))), V.m5 (V.tRows (List.getD x15 (Int.toNat x10) ((0 : Int), (0 : Int), (0 : Int), (0 : Int))))), V.m6 (V.tRows (List.getD x15 (Int.toNat x10) ((0 : Int), (0 : Int), (0 : Int), (0 : Int)))), V.m7 (V.tRows (List.getD x15 (Int.toNat x10) ((0 : Int), (0 : Int), (0 : Int), (0 : Int)))),
                          V.m8 (V.tRows (List.getD x15 (Int.toNat x10) ((0 : Int), (0 : Int), (0 : Int), (0 : Int)))))
                        (x11, x12, x13)),
                    V.z3
                      (V.tTurn
                        ((V.m0 (V.tRows (List.getD x15 (Int.toNat x10) ((0 : Int), (0 : Int), (0 : Int), (0 : Int)))), V.m1 (V.tRows (List.getD x15 (Int.toNat x10) ((0 : Int), (0 : Int), (0 : Int), (0 : Int)))), V.m2 (V.tRows (List.getD x15 (Int.toNat x10) ((0 : Int), (0 : Int), (0 : Int), (0 : Int))))),
                          (V.m3 (V.tRows (List.getD x15 (Int.toNat x10) ((0 : Int), (0 : Int), (0 : Int), (0 : Int)))), V.m4 (V.tRows (List.getD x15 (Int.toNat x10) ((0 : Int), (0 : Int), (0 : Int), (0 : Int)))), V.m5 (V.tRows (List.getD x15 (Int.toNat x10) ((0 : Int), (0 : Int), (0 : Int), (0 : Int))))), V.m6 (V.tRows (List.getD x15 (Int.toNat x10) ((0 : Int), (0 : Int), (0 : Int), (0 : Int)))), V.m7 (V.tRows (List.getD x15 (Int.toNat x10) ((0 : Int), (0 : Int), (0 : Int), (0 : Int)))),
                          V.m8 (V.tRows (List.getD x15 (Int.toNat x10) ((0 : Int), (0 : Int), (0 : Int), (0 : Int)))))
                        (x11, x12, x13))))
                (V.on
                  (V.tTurn
                    ((V.m0 (V.tRows (List.getD x15 (Int.toNat x10) ((0 : Int), (0 : Int), (0 : Int), (0 : Int)))), V.m1 (V.tRows (List.getD x15 (Int.toNat x10) ((0 : Int), (0 : Int), (0 : Int), (0 : Int)))), V.m2 (V.tRows (List.getD x15 (Int.toNat x10) ((0 : Int), (0 : Int), (0 : Int), (0 : Int))))),
                      (V.m3 (V.tRows (List.getD x15 (Int.toNat x10) ((0 : Int), (0 : Int), (0 : Int), (0 : Int)))), V.m4 (V.tRows (List.getD x15 (Int.toNat x10) ((0 : Int), (0 : Int), (0 : Int), (0 : Int)))), V.m5 (V.tRows (List.getD x15 (Int.toNat x10) ((0 : Int), (0 : Int), (0 : Int), (0 : Int))))), V.m6 (V.tRows (List.getD x15 (Int.toNat x10) ((0 : Int), (0 : Int), (0 : Int), (0 : Int)))), V.m7 (V.tRows (List.getD x15 (Int.toNat x10) ((0 : Int), (0 : Int), (0 : Int), (0 : Int)))),
                      V.m8 (V.tRows (List.getD x15 (Int.toNat x10) ((0 : Int), (0 : Int), (0 : Int), (0 : Int)))))
                    (V.x3
                        (V.tTurn
                          ((V.m0 (V.tRows (List.getD x15 (Int.toNat x10) ((0 : Int), (0 : Int), (0 : Int), (0 : Int)))), V.m1 (V.tRows (List.getD x15 (Int.toNat x10) ((0 : Int), (0 : Int), (0 : Int), (0 : Int)))), V.m2 (V.tRows (List.getD x15 (Int.toNat x10) ((0 : Int), (0 : Int), (0 : Int), (0 : Int))))),
                            (V.m3 (V.tRows (List.getD x15 (Int.toNat x10) ((0 : Int), (0 : Int), (0 : Int), (0 : Int)))), V.m4 (V.tRows (List.getD x15 (Int.toNat x10) ((0 : Int), (0 : Int), (0 : Int), (0 : Int)))), V.m5 (V.tRows (List.getD x15 (Int.toNat x10) ((0 : Int), (0 : Int), (0 : Int), (0 : Int))))), V.m6 (V.tRows (List.getD x15 (Int.toNat x10) ((0 : Int), (0 : Int), (0 : Int), (0 : Int)))), V.m7 (V.tRows (List.getD x15 (Int.toNat x10) ((0 : Int), (0 : Int), (0 : Int), (0 : Int)))),
                            V.m8 (V.tRows (List.getD x15 (Int.toNat x10) ((0 : Int), (0 : Int), (0 : Int), (0 : Int)))))
                          (x11, x12, x13)),
                      V.y3
                        (V.tTurn
                          ((V.m0 (V.tRows (List.getD x15 (Int.toNat x10) ((0 : Int), (0 : Int), (0 : Int), (0 : Int)))), V.m1 (V.tRows (List.getD x15 (Int.toNat x10) ((0 : Int), (0 : Int), (0 : Int), (0 : Int)))), V.m2 (V.tRows (List.getD x15 (Int.toNat x10) ((0 : Int), (0 : Int), (0 : Int), (0 : Int))))),
                            (V.m3 (V.tRows (List.getD x15 (Int.toNat x10) ((0 : Int), (0 : Int), (0 : Int), (0 : Int)))), V.m4 (V.tRows (List.getD x15 (Int.toNat x10) ((0 : Int), (0 : Int), (0 : Int), (0 : Int)))), V.m5 (V.tRows (List.getD x15 (Int.toNat x10) ((0 : Int), (0 : Int), (0 : Int), (0 : Int))))), V.m6 (V.tRows (List.getD x15 (Int.toNat x10) ((0 : Int), (0 : Int), (0 : Int), (0 : Int)))), V.m7 (V.tRows (List.getD x15 (Int.toNat x10) ((0 : Int), (0 : Int), (0 : Int), (0 : Int)))),
                            V.m8 (V.tRows (List.getD x15 (Int.toNat x10) ((0 : Int), (0 : Int), (0 : Int), (0 : Int)))))
                          (x11, x12, x13)),
                      V.z3
                        (V.tTurn
                          ((V.m0 (V.tRows (List.getD x15 (Int.toNat x10) ((0 : Int), (0 : Int), (0 : Int), (0 : Int)))), V.m1 (V.tRows (List.getD x15 (Int.toNat x10) ((0 : Int), (0 : Int), (0 : Int), (0 : Int)))), V.m2 (V.tRows (List.getD x15 (Int.toNat x10) ((0 : Int), (0 : Int), (0 : Int), (0 : Int))))),
                            (V.m3 (V.tRows (List.getD x15 (Int.toNat x10) ((0 : Int), (0 : Int), (0 : Int), (0 : Int)))), V.m4 (V.tRows (List.getD x15 (Int.toNat x10) ((0 : Int), (0 : Int), (0 : Int), (0 : Int)))), V.m5 (V.tRows (List.getD x15 (Int.toNat x10) ((0 : Int), (0 : Int), (0 : Int), (0 : Int))))), V.m6 (V.tRows (List.getD x15 (Int.toNat x10) ((0 : Int), (0 : Int), (0 : Int), (0 : Int)))), V.m7 (V.tRows (List.getD x15 (Int.toNat x10) ((0 : Int), (0 : Int), (0 : Int), (0 : Int)))),
                            V.m8 (V.tRows (List.getD x15 (Int.toNat x10) ((0 : Int), (0 : Int), (0 : Int), (0 : Int)))))
                          (x11, x12, x13))))
                  (V.on
                    (V.tTurn
                      ((V.m0 (V.tRows (List.getD x15 (Int.toNat x10) ((0 : Int), (0 : Int), (0 : Int), (0 : Int)))), V.m1 (V.tRows (List.getD x15 (Int.toNat x10) ((0 : Int), (0 : Int), (0 : Int), (0 : Int)))), V.m2 (V.tRows (List.getD x15 (Int.toNat x10) ((0 : Int), (0 : Int), (0 : Int), (0 : Int))))),
                        (V.m3 (V.tRows (List.getD x15 (Int.toNat x10) ((0 : Int), (0 : Int), (0 : Int), (0 : Int)))), V.m4 (V.tRows (List.getD x15 (Int.toNat x10) ((0 : Int), (0 : Int), (0 : Int), (0 : Int)))), V.m5 (V.tRows (List.getD x15 (Int.toNat x10) ((0 : Int), (0 : Int), (0 : Int), (0 : Int))))), V.m6 (V.tRows (List.getD x15 (Int.toNat x10) ((0 : Int), (0 : Int), (0 : Int), (0 : Int)))), V.m7 (V.tRows (List.getD x15 (Int.toNat x10) ((0 : Int), (0 : Int), (0 : Int), (0 : Int)))),
                        V.m8 (V.tRows (List.getD x15 (Int.toNat x10) ((0 : Int), (0 : Int), (0 : Int), (0 : Int)))))
                      (x11, x12, x13))
                    (V.on (V.tRows (List.getD x15 (Int.toNat x10) ((0 : Int), (0 : Int), (0 : Int), (0 : Int)))) x14))))
          else
            kn (IntKind.wrap IntKind.i64 (x10 + (1 : Int)))
              (V.on
                (V.tBack
                  ((V.m0 (V.tRows (List.getD x15 (Int.toNat x10) ((0 : Int), (0 : Int), (0 : Int), (0 : Int)))), V.m1 (V.tRows (List.getD x15 (Int.toNat x10) ((0 : Int), (0 : Int), (0 : Int), (0 : Int)))), V.m2 (V.tRows (List.getD x15 (Int.toNat x10) ((0 : Int), (0 : Int), (0 : Int), (0 : Int))))),
                    (V.m3 (V.tRows (List.getD x15 (Int.toNat x10) ((0 : Int), (0 : Int), (0 : Int), (0 : Int)))), V.m4 (V.tRows (List.getD x15 (Int.toNat x10) ((0 : Int), (0 : Int), (0 : Int), (0 : Int)))), V.m5 (V.tRows (List.getD x15 (Int.toNat x10) ((0 : Int), (0 : Int), (0 : Int), (0 : Int))))), V.m6 (V.tRows (List.getD x15 (Int.toNat x10) ((0 : Int), (0 : Int), (0 : Int), (0 : Int)))), V.m7 (V.tRows (List.getD x15 (Int.toNat x10) ((0 : Int), (0 : Int), (0 : Int), (0 : Int)))),
                    V.m8 (V.tRows (List.getD x15 (Int.toNat x10) ((0 : Int), (0 : Int), (0 : Int), (0 : Int)))))
                  (V.x3
                      (V.tTurn
                        ((V.m0 (V.tRows (List.getD x15 (Int.toNat x10) ((0 : Int), (0 : Int), (0 : Int), (0 : Int)))), V.m1 (V.tRows (List.getD x15 (Int.toNat x10) ((0 : Int), (0 : Int), (0 : Int), (0 : Int)))), V.m2 (V.tRows (List.getD x15 (Int.toNat x10) ((0 : Int), (0 : Int), (0 : Int), (0 : Int))))),
                          (V.m3 (V.tRows (List.getD x15 (Int.toNat x10) ((0 : Int), (0 : Int), (0 : Int), (0 : Int)))), V.m4 (V.tRows (List.getD x15 (Int.toNat x10) ((0 : Int), (0 : Int), (0 : Int), (0 : Int)))), V.m5 (V.tRows (List.getD x15 (Int.toNat x10) ((0 : Int), (0 : Int), (0 : Int), (0 : Int))))), V.m6 (V.tRows (List.getD x15 (Int.toNat x10) ((0 : Int), (0 : Int), (0 : Int), (0 : Int)))), V.m7 (V.tRows (List.getD x15 (Int.toNat x10) ((0 : Int), (0 : Int), (0 : Int), (0 : Int)))),
                          V.m8 (V.tRows (List.getD x15 (Int.toNat x10) ((0 : Int), (0 : Int), (0 : Int), (0 : Int)))))
                        (x11, x12, x13)),
                    V.y3
                      (V.tTurn
                        ((V.m0 (V.tRows (List.getD x15 (Int.toNat x10) ((0 : Int), (0 : Int), (0 : Int), (0 : Int)))), V.m1 (V.tRows (List.getD x15 (Int.toNat x10) ((0 : Int), (0 : Int), (0 : Int), (0 : Int)))), V.m2 (V.tRows (List.getD x15 (Int.toNat x10) ((0 : Int), (0 : Int), (0 : Int), (0 : Int))))),
                          (V.m3 (V.tRows (List.getD x15 (Int.toNat x10) ((0 : Int), (0 : Int), (0 : Int), (0 : Int)))), V.m4 (V.tRows (List.getD x15 (Int.toNat x10) ((0 : Int), (0 : Int), (0 : Int), (0 : Int)))), V.m5 (V.tRows (List.getD x15 (Int.toNat x10) ((0 : Int), (0 : Int), (0 : Int), (0 : Int))))), V.m6 (V.tRows (List.getD x15 (Int.toNat x10) ((0 : Int), (0 : Int), (0 : Int), (0 : Int)))), V.m7 (V.tRows (List.getD x15 (Int.toNat x10) ((0 : Int), (0 : Int), (0 : Int), (0 : Int)))),
                          V.m8 (V.tRows (List.getD x15 (Int.toNat x10) ((0 : Int), (0 : Int), (0 : Int), (0 : Int)))))
                        (x11, x12, x13)),
                    V.z3
                      (V.tTurn
                        ((V.m0 (V.tRows (List.getD x15 (Int.toNat x10) ((0 : Int), (0 : Int), (0 : Int), (0 : Int)))), V.m1 (V.tRows (List.getD x15 (Int.toNat x10) ((0 : Int), (0 : Int), (0 : Int), (0 : Int)))), V.m2 (V.tRows (List.getD x15 (Int.toNat x10) ((0 : Int), (0 : Int), (0 : Int), (0 : Int))))),
                          (V.m3 (V.tRows (List.getD x15 (Int.toNat x10) ((0 : Int), (0 : Int), (0 : Int), (0 : Int)))), V.m4 (V.tRows (List.getD x15 (Int.toNat x10) ((0 : Int), (0 : Int), (0 : Int), (0 : Int)))), V.m5 (V.tRows (List.getD x15 (Int.toNat x10) ((0 : Int), (0 : Int), (0 : Int), (0 : Int))))), V.m6 (V.tRows (List.getD x15 (Int.toNat x10) ((0 : Int), (0 : Int), (0 : Int), (0 : Int)))), V.m7 (V.tRows (List.getD x15 (Int.toNat x10) ((0 : Int), (0 : Int), (0 : Int), (0 : Int)))),
                          V.m8 (V.tRows (List.getD x15 (Int.toNat x10) ((0 : Int), (0 : Int), (0 : Int), (0 : Int)))))
                        (x11, x12, x13))))
                (V.on
                  (V.tTurn
                    ((V.m0 (V.tRows (List.getD x15 (Int.toNat x10) ((0 : Int), (0 : Int), (0 : Int), (0 : Int)))), V.m1 (V.tRows (List.getD x15 (Int.toNat x10) ((0 : Int), (0 : Int), (0 : Int), (0 : Int)))), V.m2 (V.tRows (List.getD x15 (Int.toNat x10) ((0 : Int), (0 : Int), (0 : Int), (0 : Int))))),
                      (V.m3 (V.tRows (List.getD x15 (Int.toNat x10) ((0 : Int), (0 : Int), (0 : Int), (0 : Int)))), V.m4 (V.tRows (List.getD x15 (Int.toNat x10) ((0 : Int), (0 : Int), (0 : Int), (0 : Int)))), V.m5 (V.tRows (List.getD x15 (Int.toNat x10) ((0 : Int), (0 : Int), (0 : Int), (0 : Int))))), V.m6 (V.tRows (List.getD x15 (Int.toNat x10) ((0 : Int), (0 : Int), (0 : Int), (0 : Int)))), V.m7 (V.tRows (List.getD x15 (Int.toNat x10) ((0 : Int), (0 : Int), (0 : Int), (0 : Int)))),
                      V.m8 (V.tRows (List.getD x15 (Int.toNat x10) ((0 : Int), (0 : Int), (0 : Int), (0 : Int)))))
                    (V.x3
                        (V.tTurn
                          ((V.m0 (V.tRows (List.getD x15 (Int.toNat x10) ((0 : Int), (0 : Int), (0 : Int), (0 : Int)))), V.m1 (V.tRows (List.getD x15 (Int.toNat x10) ((0 : Int), (0 : Int), (0 : Int), (0 : Int)))), V.m2 (V.tRows (List.getD x15 (Int.toNat x10) ((0 : Int), (0 : Int), (0 : Int), (0 : Int))))),
                            (V.m3 (V.tRows (List.getD x15 (Int.toNat x10) ((0 : Int), (0 : Int), (0 : Int), (0 : Int)))), V.m4 (V.tRows (List.getD x15 (Int.toNat x10) ((0 : Int), (0 : Int), (0 : Int), (0 : Int)))), V.m5 (V.tRows (List.getD x15 (Int.toNat x10) ((0 : Int), (0 : Int), (0 : Int), (0 : Int))))), V.m6 (V.tRows (List.getD x15 (Int.toNat x10) ((0 : Int), (0 : Int), (0 : Int), (0 : Int)))), V.m7 (V.tRows (List.getD x15 (Int.toNat x10) ((0 : Int), (0 : Int), (0 : Int), (0 : Int)))),
                            V.m8 (V.tRows (List.getD x15 (Int.toNat x10) ((0 : Int), (0 : Int), (0 : Int), (0 : Int)))))
                          (x11, x12, x13)),
                      V.y3
                        (V.tTurn
                          ((V.m0 (V.tRows (List.getD x15 (Int.toNat x10) ((0 : Int), (0 : Int), (0 : Int), (0 : Int)))), V.m1 (V.tRows (List.getD x15 (Int.toNat x10) ((0 : Int), (0 : Int), (0 : Int), (0 : Int)))), V.m2 (V.tRows (List.getD x15 (Int.toNat x10) ((0 : Int), (0 : Int), (0 : Int), (0 : Int))))),
                            (V.m3 (V.tRows (List.getD x15 (Int.toNat x10) ((0 : Int), (0 : Int), (0 : Int), (0 : Int)))), V.m4 (V.tRows (List.getD x15 (Int.toNat x10) ((0 : Int), (0 : Int), (0 : Int), (0 : Int)))), V.m5 (V.tRows (List.getD x15 (Int.toNat x10) ((0 : Int), (0 : Int), (0 : Int), (0 : Int))))), V.m6 (V.tRows (List.getD x15 (Int.toNat x10) ((0 : Int), (0 : Int), (0 : Int), (0 : Int)))), V.m7 (V.tRows (List.getD x15 (Int.toNat x10) ((0 : Int), (0 : Int), (0 : Int), (0 : Int)))),
                            V.m8 (V.tRows (List.getD x15 (Int.toNat x10) ((0 : Int), (0 : Int), (0 : Int), (0 : Int)))))
                          (x11, x12, x13)),
                      V.z3
                        (V.tTurn
                          ((V.m0 (V.tRows (List.getD x15 (Int.toNat x10) ((0 : Int), (0 : Int), (0 : Int), (0 : Int)))), V.m1 (V.tRows (List.getD x15 (Int.toNat x10) ((0 : Int), (0 : Int), (0 : Int), (0 : Int)))), V.m2 (V.tRows (List.getD x15 (Int.toNat x10) ((0 : Int), (0 : Int), (0 : Int), (0 : Int))))),
                            (V.m3 (V.tRows (List.getD x15 (Int.toNat x10) ((0 : Int), (0 : Int), (0 : Int), (0 : Int)))), V.m4 (V.tRows (List.getD x15 (Int.toNat x10) ((0 : Int), (0 : Int), (0 : Int), (0 : Int)))), V.m5 (V.tRows (List.getD x15 (Int.toNat x10) ((0 : Int), (0 : Int), (0 : Int), (0 : Int))))), V.m6 (V.tRows (List.getD x15 (Int.toNat x10) ((0 : Int), (0 : Int), (0 : Int), (0 : Int)))), V.m7 (V.tRows (List.getD x15 (Int.toNat x10) ((0 : Int), (0 : Int), (0 : Int), (0 : Int)))),
                            V.m8 (V.tRows (List.getD x15 (Int.toNat x10) ((0 : Int), (0 : Int), (0 : Int), (0 : Int)))))
                          (x11, x12, x13))))
                  (V.on
                    (V.tTurn
                      ((V.m0 (V.tRows (List.getD x15 (Int.toNat x10) ((0 : Int), (0 : Int), (0 : Int), (0 : Int)))), V.m1 (V.tRows (List.getD x15 (Int.toNat x10) ((0 : Int), (0 : Int), (0 : Int), (0 : Int)))), V.m2 (V.tRows (List.getD x15 (Int.toNat x10) ((0 : Int), (0 : Int), (0 : Int), (0 : Int))))),
                        (V.m3 (V.tRows (List.getD x15 (Int.toNat x10) ((0 : Int), (0 : Int), (0 : Int), (0 : Int)))), V.m4 (V.tRows (List.getD x15 (Int.toNat x10) ((0 : Int), (0 : Int), (0 : Int), (0 : Int)))), V.m5 (V.tRows (List.getD x15 (Int.toNat x10) ((0 : Int), (0 : Int), (0 : Int), (0 : Int))))), V.m6 (V.tRows (List.getD x15 (Int.toNat x10) ((0 : Int), (0 : Int), (0 : Int), (0 : Int)))), V.m7 (V.tRows (List.getD x15 (Int.toNat x10) ((0 : Int), (0 : Int), (0 : Int), (0 : Int)))),
                        V.m8 (V.tRows (List.getD x15 (Int.toNat x10) ((0 : Int), (0 : Int), (0 : Int), (0 : Int)))))
                      (x11, x12, x13))
                    (V.on (V.tRows (List.getD x15 (Int.toNat x10) ((0 : Int), (0 : Int), (0 : Int), (0 : Int)))) x14))))
    else none
  else none
else k2 x14
noncomputable def _root_.Go.Proofs.Ytmcifgaaojgheaa.M.vhalfL_l0 {α : Type} (x11 : Int) (x12 : Int) (x13 : Int) (x15 : List (Int × Int × Int × Int)) (x16 : List (Int × Int × Int)) (k0 : Bool → Option α) (k2 : Bool → Option α) : Nat → Int → Bool → Option α
  | 0, _, _ => none
  | n + 1, x10, x14 => Go.Proofs.Ytmcifgaaojgheaa.M.vhalfL_l0_step x11 x12 x13 x15 x16 (Go.Proofs.Ytmcifgaaojgheaa.M.vhalfL_l0 x11 x12 x13 x15 x16 k0 k2 n) k0 k2 x10 x14
theorem vhalfL_l0_step_eq {α : Type} (x9 : Bool) (x10 : Int) (x11 : Int) (x12 : Int) (x13 : Int) (x14 : Bool) (x15 : List (Int × Int × Int × Int)) (x16 : List (Int × Int × Int)) (Q : Ex → St → Option α) : (loopStep E (exec E look_small noLps 400) 4 [false, true, false, true, true, true, true, true, true, true] 0 (codeAt E.P 4 [false, true, false, true, true, true, true, true, true, true])) (St.mk
  [none, some (SV.ptr (nat_lit 0) (nat_lit 0)), none, some (SV.bool x9), none, some (SV.ptr (nat_lit 1) (nat_lit 0)), some (SV.sl (nat_lit 2)), some (SV.sl (nat_lit 3)), some (SV.int IntKind.i64 x10), none, none, none, none, none, none, none, none, none, none, none, none, none, none, none, none, none, none, none, none, none, none, none, none, none, none, none, none, none, none, none, none, none, none, none, none, none, none, none, none, none, none, none, none, none, none, none, none, none, none,
    none, none, none, none, none, none, none, none, none, none, none, none, none, none, none, none, none, none, none, none, none, none, none, none, none, none, none, none, none, none, none, none, none, none, none, none]
  [SObj.cells [SV.int IntKind.i64 x11, SV.int IntKind.i64 x12, SV.int IntKind.i64 x13] (nat_lit 23), SObj.cells [SV.bool x14] (nat_lit 27), SObj.seq (K.st (LK.i IntKind.i64) [LK.i IntKind.i64, LK.i IntKind.i64, LK.i IntKind.i64]) x15 (nat_lit 33), SObj.seq (K.st (LK.i IntKind.i64) [LK.i IntKind.i64, LK.i IntKind.i64]) x16 (nat_lit 23)]) Q = Go.Proofs.Ytmcifgaaojgheaa.M.vhalfL_l0_step x11 x12 x13 x15 x16 (fun (x19 : Int) (x20 : Bool) => Q .normal (St.mk
  [none, some (SV.ptr (nat_lit 0) (nat_lit 0)), none, some (SV.bool x9), none, some (SV.ptr (nat_lit 1) (nat_lit 0)), some (SV.sl (nat_lit 2)), some (SV.sl (nat_lit 3)), some (SV.int IntKind.i64 x19), none, none, none, none, none, none, none, none, none, none, none, none, none, none, none, none, none, none, none, none, none, none, none, none, none, none, none, none, none, none, none, none, none, none, none, none, none, none, none, none, none, none, none, none, none, none, none, none, none, none,
    none, none, none, none, none, none, none, none, none, none, none, none, none, none, none, none, none, none, none, none, none, none, none, none, none, none, none, none, none, none, none, none, none, none, none, none]
  [SObj.cells [SV.int IntKind.i64 x11, SV.int IntKind.i64 x12, SV.int IntKind.i64 x13] (nat_lit 23), SObj.cells [SV.bool x20] (nat_lit 27), SObj.seq (K.st (LK.i IntKind.i64) [LK.i IntKind.i64, LK.i IntKind.i64, LK.i IntKind.i64]) x15 (nat_lit 33), SObj.seq (K.st (LK.i IntKind.i64) [LK.i IntKind.i64, LK.i IntKind.i64]) x16 (nat_lit 23)])) (fun (x17 : Bool) => Q .ret (St.mk
  [none, none, some (SV.bool false), some (SV.bool x9), none, some (SV.ptr (nat_lit 0) (nat_lit 0)), none, none, none, none, none, none, none, none, none, none, none, none, none, none, none, none, none, none, none, none, none, none, none, none, none, none, none, none, none, none, none, none, none, none, none, none, none, none, none, none, none, none, none, none, none, none, none, none, none, none, none, none, none, none, none, none, none, none, none, none, none, none, none, none, none, none,
    none, none, none, none, none, none, none, none, none, none, none, none, none, none, none, none, none, none, none, none, none, none, none]
  [SObj.cells [SV.bool x17] (nat_lit 27)])) (fun (x18 : Bool) => Q (.exit 0) (St.mk
  [none, none, none, some (SV.bool x9), none, some (SV.ptr (nat_lit 0) (nat_lit 0)), none, none, none, none, none, none, none, none, none, none, none, none, none, none, none, none, none, none, none, none, none, none, none, none, none, none, none, none, none, none, none, none, none, none, none, none, none, none, none, none, none, none, none, none, none, none, none, none, none, none, none, none, none, none, none, none, none, none, none, none, none, none, none, none, none, none, none, none, none,
    none, none, none, none, none, none, none, none, none, none, none, none, none, none, none, none, none, none, none, none]
  [SObj.cells [SV.bool x18] (nat_lit 27)])) x10 x14 := by kernel_rfl
theorem vhalfL_l0_iter {α : Type} (x9 : Bool) (x11 : Int) (x12 : Int) (x13 : Int) (x15 : List (Int × Int × Int × Int)) (x16 : List (Int × Int × Int)) (Q : Ex → St → Option α) : ∀ (n : Nat) (x10 : Int) (x14 : Bool), iter (loopStep E (exec E look_small noLps 400) 4 [false, true, false, true, true, true, true, true, true, true] 0 (codeAt E.P 4 [false, true, false, true, true, true, true, true, true, true])) n (St.mk
  [none, some (SV.ptr (nat_lit 0) (nat_lit 0)), none, some (SV.bool x9), none, some (SV.ptr (nat_lit 1) (nat_lit 0)), some (SV.sl (nat_lit 2)), some (SV.sl (nat_lit 3)), some (SV.int IntKind.i64 x10), none, none, none, none, none, none, none, none, none, none, none, none, none, none, none, none, none, none, none, none, none, none, none, none, none, none, none, none, none, none, none, none, none, none, none, none, none, none, none, none, none, none, none, none, none, none, none, none, none, none,
    none, none, none, none, none, none, none, none, none, none, none, none, none, none, none, none, none, none, none, none, none, none, none, none, none, none, none, none, none, none, none, none, none, none, none, none]
  [SObj.cells [SV.int IntKind.i64 x11, SV.int IntKind.i64 x12, SV.int IntKind.i64 x13] (nat_lit 23), SObj.cells [SV.bool x14] (nat_lit 27), SObj.seq (K.st (LK.i IntKind.i64) [LK.i IntKind.i64, LK.i IntKind.i64, LK.i IntKind.i64]) x15 (nat_lit 33), SObj.seq (K.st (LK.i IntKind.i64) [LK.i IntKind.i64, LK.i IntKind.i64]) x16 (nat_lit 23)]) Q = Go.Proofs.Ytmcifgaaojgheaa.M.vhalfL_l0 x11 x12 x13 x15 x16 (fun (x17 : Bool) => Q .ret (St.mk
  [none, none, some (SV.bool false), some (SV.bool x9), none, some (SV.ptr (nat_lit 0) (nat_lit 0)), none, none, none, none, none, none, none, none, none, none, none, none, none, none, none, none, none, none, none, none, none, none, none, none, none, none, none, none, none, none, none, none, none, none, none, none, none, none, none, none, none, none, none, none, none, none, none, none, none, none, none, none, none, none, none, none, none, none, none, none, none, none, none, none, none, none,
    none, none, none, none, none, none, none, none, none, none, none, none, none, none, none, none, none, none, none, none, none, none, none]
  [SObj.cells [SV.bool x17] (nat_lit 27)])) (fun (x18 : Bool) => Q (.exit 0) (St.mk
  [none, none, none, some (SV.bool x9), none, some (SV.ptr (nat_lit 0) (nat_lit 0)), none, none, none, none, none, none, none, none, none, none, none, none, none, none, none, none, none, none, none, none, none, none, none, none, none, none, none, none, none, none, none, none, none, none, none, none, none, none, none, none, none, none, none, none, none, none, none, none, none, none, none, none, none, none, none, none, none, none, none, none, none, none, none, none, none, none, none, none, none,
    none, none, none, none, none, none, none, none, none, none, none, none, none, none, none, none, none, none, none, none]
  [SObj.cells [SV.bool x18] (nat_lit 27)])) n x10 x14
  | 0, _, _ => rfl
  | n + 1, x10, x14 => (vhalfL_l0_step_eq x9 x10 x11 x12 x13 x14 x15 x16 (iterK (loopStep E (exec E look_small noLps 400) 4 [false, true, false, true, true, true, true, true, true, true] 0 (codeAt E.P 4 [false, true, false, true, true, true, true, true, true, true])) n Q)).trans (congrArg (fun kn => Go.Proofs.Ytmcifgaaojgheaa.M.vhalfL_l0_step x11 x12 x13 x15 x16 kn (fun (x17 : Bool) => Q .ret (St.mk
  [none, none, some (SV.bool false), some (SV.bool x9), none, some (SV.ptr (nat_lit 0) (nat_lit 0)), none, none, none, none, none, none, none, none, none, none, none, none, none, none, none, none, none, none, none, none, none, none, none, none, none, none, none, none, none, none, none, none, none, none, none, none, none, none, none, none, none, none, none, none, none, none, none, none, none, none, none, none, none, none, none, none, none, none, none, none, none, none, none, none, none, none,
    none, none, none, none, none, none, none, none, none, none, none, none, none, none, none, none, none, none, none, none, none, none, none]
  [SObj.cells [SV.bool x17] (nat_lit 27)])) (fun (x18 : Bool) => Q (.exit 0) (St.mk
  [none, none, none, some (SV.bool x9), none, some (SV.ptr (nat_lit 0) (nat_lit 0)), none, none, none, none, none, none, none, none, none, none, none, none, none, none, none, none, none, none, none, none, none, none, none, none, none, none, none, none, none, none, none, none, none, none, none, none, none, none, none, none, none, none, none, none, none, none, none, none, none, none, none, none, none, none, none, none, none, none, none, none, none, none, none, none, none, none, none, none, none,
    none, none, none, none, none, none, none, none, none, none, none, none, none, none, none, none, none, none, none, none]
  [SObj.cells [SV.bool x18] (nat_lit 27)])) x10 x14) (funext fun x10 => funext fun x14 => vhalfL_l0_iter x9 x11 x12 x13 x15 x16 Q n x10 x14))
noncomputable def vhalfL_l0_go {α : Type} (ds : List D) (Q : Ex → St → Option α) : Option α :=
  dB ds fun x9 ds => dI ds fun x10 ds => dI ds fun x11 ds => dI ds fun x12 ds => dI ds fun x13 ds => dB ds fun x14 ds => dL (K.st (LK.i IntKind.i64) [LK.i IntKind.i64, LK.i IntKind.i64, LK.i IntKind.i64]) ds fun x15 ds => dL (K.st (LK.i IntKind.i64) [LK.i IntKind.i64, LK.i IntKind.i64]) ds fun x16 ds => dE ds (Go.Proofs.Ytmcifgaaojgheaa.M.vhalfL_l0 x11 x12 x13 x15 x16 (fun (x17 : Bool) => Q .ret (St.mk
  [none, none, some (SV.bool false), some (SV.bool x9), none, some (SV.ptr (nat_lit 0) (nat_lit 0)), none, none, none, none, none, none, none, none, none, none, none, none, none, none, none, none, none, none, none, none, none, none, none, none, none, none, none, none, none, none, none, none, none, none, none, none, none, none, none, none, none, none, none, none, none, none, none, none, none, none, none, none, none, none, none, none, none, none, none, none, none, none, none, none, none, none,
    none, none, none, none, none, none, none, none, none, none, none, none, none, none, none, none, none, none, none, none, none, none, none]
  [SObj.cells [SV.bool x17] (nat_lit 27)])) (fun (x18 : Bool) => Q (.exit 0) (St.mk
  [none, none, none, some (SV.bool x9), none, some (SV.ptr (nat_lit 0) (nat_lit 0)), none, none, none, none, none, none, none, none, none, none, none, none, none, none, none, none, none, none, none, none, none, none, none, none, none, none, none, none, none, none, none, none, none, none, none, none, none, none, none, none, none, none, none, none, none, none, none, none, none, none, none, none, none, none, none, none, none, none, none, none, none, none, none, none, none, none, none, none, none,
    none, none, none, none, none, none, none, none, none, none, none, none, none, none, none, none, none, none, none, none]
  [SObj.cells [SV.bool x18] (nat_lit 27)])) (100 + x15.length + x16.length) x10 x14)
theorem vhalfL_l0_ok {α : Type} : LoopOk E.P 4 [false, true, false, true, true, true, true, true, true, true] 0 (lEnt (α := α) (St.mk
  [none, some (SV.ptr (nat_lit 0) (nat_lit 0)), none, some (SV.bool false), none, some (SV.ptr (nat_lit 1) (nat_lit 0)), some (SV.sl (nat_lit 2)), some (SV.sl (nat_lit 3)), some (SV.int IntKind.i64 (0 : Int)), none, none, none, none, none, none, none, none, none, none, none, none, none, none, none, none, none, none, none, none, none, none, none, none, none, none, none, none, none, none, none, none, none, none, none, none, none, none, none, none, none, none, none, none, none, none, none, none,
    none, none, none, none, none, none, none, none, none, none, none, none, none, none, none, none, none, none, none, none, none, none, none, none, none, none, none, none, none, none, none, none, none, none, none, none, none, none]
  [SObj.cells [SV.int IntKind.i64 (0 : Int), SV.int IntKind.i64 (0 : Int), SV.int IntKind.i64 (0 : Int)] (nat_lit 23), SObj.cells [SV.bool false] (nat_lit 27), SObj.seq (K.st (LK.i IntKind.i64) [LK.i IntKind.i64, LK.i IntKind.i64, LK.i IntKind.i64]) [] (nat_lit 33), SObj.seq (K.st (LK.i IntKind.i64) [LK.i IntKind.i64, LK.i IntKind.i64]) [] (nat_lit 23)]) vhalfL_l0_go) :=
  lEnt_ok E (exec_sound E E_ok (look_small_ok) (noLps_ok _) 400) fun ds Q r h S hS => by
    unfold vhalfL_l0_go at h
    obtain ⟨x9, ds, rfl, h1⟩ := dB_inv h
    obtain ⟨x10, ds, rfl, h2⟩ := dI_inv h1
    obtain ⟨x11, ds, rfl, h3⟩ := dI_inv h2
    obtain ⟨x12, ds, rfl, h4⟩ := dI_inv h3
    obtain ⟨x13, ds, rfl, h5⟩ := dI_inv h4
    obtain ⟨x14, ds, rfl, h6⟩ := dB_inv h5
    obtain ⟨x15, ds, rfl, h7⟩ := dL_inv h6
    obtain ⟨x16, ds, rfl, h8⟩ := dL_inv h7
    obtain ⟨rfl, hE⟩ := dE_inv h8
    have e : fillS (St.mk
  [none, some (SV.ptr (nat_lit 0) (nat_lit 0)), none, some (SV.bool false), none, some (SV.ptr (nat_lit 1) (nat_lit 0)), some (SV.sl (nat_lit 2)), some (SV.sl (nat_lit 3)), some (SV.int IntKind.i64 (0 : Int)), none, none, none, none, none, none, none, none, none, none, none, none, none, none, none, none, none, none, none, none, none, none, none, none, none, none, none, none, none, none, none, none, none, none, none, none, none, none, none, none, none, none, none, none, none, none, none, none,
    none, none, none, none, none, none, none, none, none, none, none, none, none, none, none, none, none, none, none, none, none, none, none, none, none, none, none, none, none, none, none, none, none, none, none, none, none, none]
  [SObj.cells [SV.int IntKind.i64 (0 : Int), SV.int IntKind.i64 (0 : Int), SV.int IntKind.i64 (0 : Int)] (nat_lit 23), SObj.cells [SV.bool false] (nat_lit 27), SObj.seq (K.st (LK.i IntKind.i64) [LK.i IntKind.i64, LK.i IntKind.i64, LK.i IntKind.i64]) [] (nat_lit 33), SObj.seq (K.st (LK.i IntKind.i64) [LK.i IntKind.i64, LK.i IntKind.i64]) [] (nat_lit 23)]) [.b x9, .i x10, .i x11, .i x12, .i x13, .b x14, .l (K.st (LK.i IntKind.i64) [LK.i IntKind.i64, LK.i IntKind.i64, LK.i IntKind.i64]) x15, .l (K.st (LK.i IntKind.i64) [LK.i IntKind.i64, LK.i IntKind.i64]) x16] = some (St.mk
  [none, some (SV.ptr (nat_lit 0) (nat_lit 0)), none, some (SV.bool x9), none, some (SV.ptr (nat_lit 1) (nat_lit 0)), some (SV.sl (nat_lit 2)), some (SV.sl (nat_lit 3)), some (SV.int IntKind.i64 x10), none, none, none, none, none, none, none, none, none, none, none, none, none, none, none, none, none, none, none, none, none, none, none, none, none, none, none, none, none, none, none, none, none, none, none, none, none, none, none, none, none, none, none, none, none, none, none, none, none, none,
    none, none, none, none, none, none, none, none, none, none, none, none, none, none, none, none, none, none, none, none, none, none, none, none, none, none, none, none, none, none, none, none, none, none, none, none]
  [SObj.cells [SV.int IntKind.i64 x11, SV.int IntKind.i64 x12, SV.int IntKind.i64 x13] (nat_lit 23), SObj.cells [SV.bool x14] (nat_lit 27), SObj.seq (K.st (LK.i IntKind.i64) [LK.i IntKind.i64, LK.i IntKind.i64, LK.i IntKind.i64]) x15 (nat_lit 33), SObj.seq (K.st (LK.i IntKind.i64) [LK.i IntKind.i64, LK.i IntKind.i64]) x16 (nat_lit 23)]) := by kernel_rfl
    rw [e] at hS
    cases hS
    exact ⟨_, (vhalfL_l0_iter x9 x11 x12 x13 x15 x16 Q _ x10 x14).trans hE⟩
noncomputable def vhalfL_l0_lps {α : Type} : LookL α := addLp 4 [false, true, false, true, true, true, true, true, true, true] 0 (lEnt (St.mk
  [none, some (SV.ptr (nat_lit 0) (nat_lit 0)), none, some (SV.bool false), none, some (SV.ptr (nat_lit 1) (nat_lit 0)), some (SV.sl (nat_lit 2)), some (SV.sl (nat_lit 3)), some (SV.int IntKind.i64 (0 : Int)), none, none, none, none, none, none, none, none, none, none, none, none, none, none, none, none, none, none, none, none, none, none, none, none, none, none, none, none, none, none, none, none, none, none, none, none, none, none, none, none, none, none, none, none, none, none, none, none,
    none, none, none, none, none, none, none, none, none, none, none, none, none, none, none, none, none, none, none, none, none, none, none, none, none, none, none, none, none, none, none, none, none, none, none, none, none, none]
  [SObj.cells [SV.int IntKind.i64 (0 : Int), SV.int IntKind.i64 (0 : Int), SV.int IntKind.i64 (0 : Int)] (nat_lit 23), SObj.cells [SV.bool false] (nat_lit 27), SObj.seq (K.st (LK.i IntKind.i64) [LK.i IntKind.i64, LK.i IntKind.i64, LK.i IntKind.i64]) [] (nat_lit 33), SObj.seq (K.st (LK.i IntKind.i64) [LK.i IntKind.i64, LK.i IntKind.i64]) [] (nat_lit 23)]) vhalfL_l0_go) noLps
theorem vhalfL_l0_lps_ok {α : Type} : LoopsOk E.P (vhalfL_l0_lps (α := α)) := addLp_ok vhalfL_l0_ok (noLps_ok _)

noncomputable def _root_.Go.Proofs.Ytmcifgaaojgheaa.M.vhalfL {α : Type} (ax : Int) (ay : Int) (az : Int) (k0 : Bool → Option α) : Option α :=
  if (!V.small_r0 ax ay az (1152921504606846976 : Int)) = true then k0 true
else
  M.vhalfL_l0 ax ay az [((0 : Int), (4294967296 : Int), (0 : Int), (0 : Int)), ((0 : Int), (0 : Int), (4294967296 : Int), (0 : Int)), ((0 : Int), (0 : Int), (0 : Int), (4294967296 : Int))] [(ax, IntKind.wrap IntKind.i64 ((0 : Int) - ay), IntKind.wrap IntKind.i64 ((0 : Int) - az)), (IntKind.wrap IntKind.i64 ((0 : Int) - ax), ay, IntKind.wrap IntKind.i64 ((0 : Int) - az)), (IntKind.wrap IntKind.i64 ((0 : Int) - ax), IntKind.wrap IntKind.i64 ((0 : Int) - ay), az)] (fun (x21 : Bool) ↦ k0 false)
    (fun (x22 : Bool) ↦ k0 !x22) ((103 : Nat) + ((2 : Nat) + (1 : Nat))) (0 : Int) false
theorem vhalfL_eq {α : Type} (ax : Int) (ay : Int) (az : Int) (Q : SV → Hp → Option α) : callI E look_small (exec E look_small vhalfL_l0_lps 400) 4 ([SV.agg [SV.int IntKind.i64 ax, SV.int IntKind.i64 ay, SV.int IntKind.i64 az]]) ([]) Q = Go.Proofs.Ytmcifgaaojgheaa.M.vhalfL ax ay az (fun (x23 : Bool) => Q (SV.bool x23) ([])) := by kernel_rfl
def vhalfL_sp : List AS := [.val (.agg [.int .i64 0, .int .i64 0, .int .i64 0])]
noncomputable def vhalfL_go {α : Type} (ds : List D) (Q : SV → Hp → Option α) : Option α :=
  dI ds fun ax ds => dI ds fun ay ds => dI ds fun az ds => dE ds (Go.Proofs.Ytmcifgaaojgheaa.M.vhalfL ax ay az (fun (x23 : Bool) => Q (SV.bool x23) ([])))
theorem vhalfL_ok {α : Type} : FnOk E.P 4 (fEnt (α := α) vhalfL_sp vhalfL_go) :=
  fEnt_ok E (look_small_ok) (exec_sound E E_ok (look_small_ok) (vhalfL_l0_lps_ok) 400) fun ds Q r h => by
    unfold vhalfL_go at h
    obtain ⟨ax, ds, rfl, h1⟩ := dI_inv h
    obtain ⟨ay, ds, rfl, h2⟩ := dI_inv h1
    obtain ⟨az, ds, rfl, h3⟩ := dI_inv h2
    obtain ⟨rfl, hE⟩ := dE_inv h3
    exact ⟨[SV.agg [SV.int IntKind.i64 ax, SV.int IntKind.i64 ay, SV.int IntKind.i64 az]], [], fun vs => by kernel_rfl, (vhalfL_eq ax ay az Q).trans hE⟩
--##
theorem turn_diag {s0 s1 s2 a b c : Int} (h0 : s0 = 1 ∨ s0 = -1) (h1 : s1 = 1 ∨ s1 = -1) (h2 : s2 = 1 ∨ s2 = -1) (ga : Gd a) (gb : Gd b) (gc : Gd c) :
    V.tTurn ((4294967296 * s0, 0, 0), (0, 4294967296 * s1, 0), (0, 0, 4294967296 * s2)) (a, b, c) = some (s0 * a, s1 * b, s2 * c) := by
  have z : Gd 0 := by decide
  unfold Gd at ga gb gc
  rw [tTurn_some]
  refine ⟨mDot3_some.2 ⟨?_, z, z, ga, gb, gc, ?_, ?_⟩, mDot3_some.2 ⟨z, ?_, z, ga, gb, gc, ?_, ?_⟩, mDot3_some.2 ⟨z, z, ?_, ga, gb, gc, ?_, ?_⟩⟩ <;>
    rcases h0 with rfl | rfl <;> rcases h1 with rfl | rfl <;> rcases h2 with rfl | rfl <;> first | decide | (simp only [Gd]; omega) | (simp only []; omega)
theorem half_rows0 : V.tRows (0, 4294967296, 0, 0) = some ((4294967296, 0, 0), (0, -4294967296, 0), (0, 0, -4294967296)) := by decide +kernel
theorem half_rows1 : V.tRows (0, 0, 4294967296, 0) = some ((-4294967296, 0, 0), (0, 4294967296, 0), (0, 0, -4294967296)) := by decide +kernel
theorem half_rows2 : V.tRows (0, 0, 0, 4294967296) = some ((-4294967296, 0, 0), (0, -4294967296, 0), (0, 0, 4294967296)) := by decide +kernel
theorem half_turn0 {a b c : Int} (ga : Gd a) (gb : Gd b) (gc : Gd c) : V.tTurn ((4294967296, 0, 0), (0, -4294967296, 0), (0, 0, -4294967296)) (a, b, c) = some (a, -b, -c) := by
  have := turn_diag (s0 := 1) (s1 := -1) (s2 := -1) (.inl rfl) (.inr rfl) (.inr rfl) ga gb gc
  simpa using this
theorem half_turn1 {a b c : Int} (ga : Gd a) (gb : Gd b) (gc : Gd c) : V.tTurn ((-4294967296, 0, 0), (0, 4294967296, 0), (0, 0, -4294967296)) (a, b, c) = some (-a, b, -c) := by
  have := turn_diag (s0 := -1) (s1 := 1) (s2 := -1) (.inr rfl) (.inl rfl) (.inr rfl) ga gb gc
  simpa using this
theorem half_turn2 {a b c : Int} (ga : Gd a) (gb : Gd b) (gc : Gd c) : V.tTurn ((-4294967296, 0, 0), (0, -4294967296, 0), (0, 0, 4294967296)) (a, b, c) = some (-a, -b, c) := by
  have := turn_diag (s0 := -1) (s1 := -1) (s2 := 1) (.inr rfl) (.inr rfl) (.inl rfl) ga gb gc
  simpa using this
theorem small_true {a b c n : Int} (h : V.small_r0 a b c n = true) (hn : 0 ≤ n ∧ n < 9223372036854775808) : (-n ≤ a ∧ a ≤ n) ∧ (-n ≤ b ∧ b ≤ n) ∧ (-n ≤ c ∧ c ≤ n) := by
  unfold V.small_r0 at h
  simp only [cLe_eq, IntWalk.i64_in (0 - n) (by omega)] at h
  by_cases h1 : 0 - n ≤ a <;> by_cases h2 : a ≤ n <;> by_cases h3 : 0 - n ≤ b <;> by_cases h4 : b ≤ n <;> by_cases h5 : 0 - n ≤ c <;> simp only [h1, h2, h3, h4, h5, decide_true, decide_false, if_true, if_false, Bool.false_eq_true, decide_eq_true_eq] at h
  refine ⟨by omega, by omega, by omega⟩
theorem half_loop {α : Type} {a b c : Int} (ga : Gd a) (gb : Gd b) (gc : Gd c) (k0 k2 : Bool → Option α) (n : Nat) :
    M.vhalfL_l0 a b c [(0, 4294967296, 0, 0), (0, 0, 4294967296, 0), (0, 0, 0, 4294967296)] [(a, -b, -c), (-a, b, -c), (-a, -b, c)] k0 k2 (n + 4) 0 false = k2 false := by
  have na : Gd (-a) := by unfold Gd at *; omega
  have nb : Gd (-b) := by unfold Gd at *; omega
  have nc : Gd (-c) := by unfold Gd at *; omega
  have w1 : IntKind.wrap .i64 1 = 1 := by decide
  have w2 : IntKind.wrap .i64 2 = 2 := by decide
  have w3 : IntKind.wrap .i64 3 = 3 := by decide
  have t0 := half_turn0 ga gb gc; have t1 := half_turn1 ga gb gc; have t2 := half_turn2 ga gb gc
  have u0 := half_turn0 ga nb nc; have u1 := half_turn1 na gb nc; have u2 := half_turn2 na nb gc
  simp [M.vhalfL_l0, M.vhalfL_l0_step, cLt_eq, cEq_eq, w1, w2, w3, half_rows0, half_rows1, half_rows2, V.m0, V.m1, V.m2, V.m3, V.m4, V.m5, V.m6, V.m7, V.m8, V.q9, V.x3, V.y3, V.z3, V.q3, t0, t1, t2, u0, u1, u2, V.tBack, V.tr, on_some]
theorem vhalfL_v {α : Type} (ax ay az : Int) (k0 : Bool → Option α) : M.vhalfL ax ay az k0 = k0 true := by
  unfold M.vhalfL
  split
  · rfl
  · rename_i h
    have hs : V.small_r0 ax ay az 1152921504606846976 = true := by cases hh : V.small_r0 ax ay az 1152921504606846976 <;> simp_all
    obtain ⟨h1, h2, h3⟩ := small_true hs (by decide)
    have e1 := IntWalk.i64_in (0 - ax) (by omega)
    have e2 := IntWalk.i64_in (0 - ay) (by omega)
    have e3 := IntWalk.i64_in (0 - az) (by omega)
    rw [e1, e2, e3, Int.zero_sub, Int.zero_sub, Int.zero_sub, show (103 : Nat) + (2 + 1) = 102 + 4 from rfl, half_loop (by unfold Gd; omega) (by unfold Gd; omega) (by unfold Gd; omega)]
    rfl
noncomputable def vhalfL_h {α : Type} (ds : List D) (Q : SV → Hp → Option α) : Option α :=
  dI ds fun ax ds => dI ds fun ay ds => dI ds fun az ds => dE ds (Q (.bool true) ([]))
theorem vhalfL_h_ok {α : Type} : FnOk E.P 4 (fEnt (α := α) vhalfL_sp vhalfL_h) :=
  fEnt_ok E (look_small_ok) (exec_sound E E_ok (look_small_ok) (vhalfL_l0_lps_ok) 400) fun ds Q r h => by
    unfold vhalfL_h at h
    obtain ⟨ax, ds, rfl, h1⟩ := dI_inv h
    obtain ⟨ay, ds, rfl, h2⟩ := dI_inv h1
    obtain ⟨az, ds, rfl, h3⟩ := dI_inv h2
    obtain ⟨rfl, hE⟩ := dE_inv h3
    exact ⟨[SV.agg [SV.int IntKind.i64 ax, SV.int IntKind.i64 ay, SV.int IntKind.i64 az]], [], fun vs => by kernel_rfl, (vhalfL_eq ax ay az Q).trans ((vhalfL_v ax ay az _).trans hE)⟩
end Go.Proofs.Ytmcifgaaojgheaa.Sx
