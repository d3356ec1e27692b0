/- VecParts: its run tells true. -/
import Derived.Test.YtmcifgaaojgheaaVecC
import Derived.Test.YtmcifgaaojgheaaVecRB
namespace Go.Proofs.Ytmcifgaaojgheaa.Sx
open Go
set_option maxRecDepth 20000
set_option linter.unusedVariables false
set_option linter.unusedSimpArgs false
noncomputable def look_VecParts_awake {α : Type} : LookF α := addFn 10 (fEnt awake_sp awake_h) look_dvspin
theorem look_VecParts_awake_ok {α : Type} : LookOk E.P (look_VecParts_awake (α := α)) := addFn_ok awake_h_ok (look_dvspin_ok)
noncomputable def look_VecParts_vadd {α : Type} : LookF α := addFn 16 (fEnt vadd_sp vadd_h) look_VecParts_awake
theorem look_VecParts_vadd_ok {α : Type} : LookOk E.P (look_VecParts_vadd (α := α)) := addFn_ok vadd_h_ok (look_VecParts_awake_ok)
noncomputable def look_VecParts_vsub {α : Type} : LookF α := addFn 22 (fEnt vsub_sp vsub_h) look_VecParts_vadd
theorem look_VecParts_vsub_ok {α : Type} : LookOk E.P (look_VecParts_vsub (α := α)) := addFn_ok vsub_h_ok (look_VecParts_vadd_ok)
noncomputable def look_VecParts_vscale {α : Type} : LookF α := addFn 26 (fEnt vscale_sp vscale_h) look_VecParts_vsub
theorem look_VecParts_vscale_ok {α : Type} : LookOk E.P (look_VecParts_vscale (α := α)) := addFn_ok vscale_h_ok (look_VecParts_vsub_ok)
noncomputable def look_VecParts_vdot {α : Type} : LookF α := addFn 21 (fEnt vdot_sp vdot_h) look_VecParts_vscale
theorem look_VecParts_vdot_ok {α : Type} : LookOk E.P (look_VecParts_vdot (α := α)) := addFn_ok vdot_h_ok (look_VecParts_vscale_ok)
noncomputable def look_VecParts_vcross {α : Type} : LookF α := addFn 11 (fEnt vcross_sp vcross_h) look_VecParts_vdot
theorem look_VecParts_vcross_ok {α : Type} : LookOk E.P (look_VecParts_vcross (α := α)) := addFn_ok vcross_h_ok (look_VecParts_vdot_ok)
noncomputable def look_VecParts_vlen {α : Type} : LookF α := addFn 19 (fEnt vlen_sp vlen_h) look_VecParts_vcross
theorem look_VecParts_vlen_ok {α : Type} : LookOk E.P (look_VecParts_vlen (α := α)) := addFn_ok vlen_h_ok (look_VecParts_vcross_ok)
noncomputable def look_VecParts_vunit {α : Type} : LookF α := addFn 23 (fEnt vunit_sp vunit_h) look_VecParts_vlen
theorem look_VecParts_vunit_ok {α : Type} : LookOk E.P (look_VecParts_vunit (α := α)) := addFn_ok vunit_h_ok (look_VecParts_vlen_ok)
noncomputable def _root_.Go.Proofs.Ytmcifgaaojgheaa.M.vpartsL_l0_step {α : Type} (x10 : Int) (x11 : Bool) (x14 : Int) (x15 : Int) (x16 : Int) (x17 : Int) (x18 : Int) (x19 : Int) (kn : Int → Option α) (k0 : Option α) (k2 : Option α) (x13 : Int) : Option α :=
  if cLt x13 (7 : Int) = true then
  if cEq x13 (0 : Int) = true then
    if (!(cEq (V.x3 (V.tAdd (x14, x15, x16) (x17, x18, x19))) (V.x3 (V.tAdd (x14, x15, x16) (x17, x18, x19))) && (cEq (V.y3 (V.tAdd (x14, x15, x16) (x17, x18, x19))) (V.y3 (V.tAdd (x14, x15, x16) (x17, x18, x19))) && (cEq (V.z3 (V.tAdd (x14, x15, x16) (x17, x18, x19))) (V.z3 (V.tAdd (x14, x15, x16) (x17, x18, x19))) && true)))) = true then k0
    else if (!V.on (V.tAdd (x14, x15, x16) (x17, x18, x19)) x11 == V.on (V.tAdd (x14, x15, x16) (x17, x18, x19)) x11) = true then k0 else kn (IntKind.wrap IntKind.i64 (x13 + (1 : Int)))
  else
    if cEq x13 (1 : Int) = true then
      if (!(cEq (V.x3 (V.tSub (x14, x15, x16) (x17, x18, x19))) (V.x3 (V.tSub (x14, x15, x16) (x17, x18, x19))) && (cEq (V.y3 (V.tSub (x14, x15, x16) (x17, x18, x19))) (V.y3 (V.tSub (x14, x15, x16) (x17, x18, x19))) && (cEq (V.z3 (V.tSub (x14, x15, x16) (x17, x18, x19))) (V.z3 (V.tSub (x14, x15, x16) (x17, x18, x19))) && true)))) = true then k0
      else if (!V.on (V.tSub (x14, x15, x16) (x17, x18, x19)) x11 == V.on (V.tSub (x14, x15, x16) (x17, x18, x19)) x11) = true then k0 else kn (IntKind.wrap IntKind.i64 (x13 + (1 : Int)))
    else
      if cEq x13 (2 : Int) = true then if (!(cEq (V.x3 (V.tScale (x14, x15, x16) x10)) (V.x3 (V.tScale (x14, x15, x16) x10)) && (cEq (V.y3 (V.tScale (x14, x15, x16) x10)) (V.y3 (V.tScale (x14, x15, x16) x10)) && (cEq (V.z3 (V.tScale (x14, x15, x16) x10)) (V.z3 (V.tScale (x14, x15, x16) x10)) && true)))) = true then k0 else if (!V.on (V.tScale (x14, x15, x16) x10) x11 == V.on (V.tScale (x14, x15, x16) x10) x11) = true then k0 else kn (IntKind.wrap IntKind.i64 (x13 + (1 : Int)))
      else
        if cEq x13 (3 : Int) = true then if (!(cEq (V.gv (V.tDot (x14, x15, x16) (x17, x18, x19))) (V.gv (V.tDot (x14, x15, x16) (x17, x18, x19))) && (cEq (0 : Int) (0 : Int) && (cEq (0 : Int) (0 : Int) && true)))) = true then k0 else if (!V.gn (V.tDot (x14, x15, x16) (x17, x18, x19)) x11 == V.gn (V.tDot (x14, x15, x16) (x17, x18, x19)) x11) = true then k0 else kn (IntKind.wrap IntKind.i64 (x13 + (1 : Int)))
        else
          if cEq x13 (4 : Int) = true then
            if (!(cEq (V.x3 (V.tCross (x14, x15, x16) (x17, x18, x19))) (V.x3 (V.tCross (x14, x15, x16) (x17, x18, x19))) && (cEq (V.y3 (V.tCross (x14, x15, x16) (x17, x18, x19))) (V.y3 (V.tCross (x14, x15, x16) (x17, x18, x19))) && (cEq (V.z3 (V.tCross (x14, x15, x16) (x17, x18, x19))) (V.z3 (V.tCross (x14, x15, x16) (x17, x18, x19))) && true)))) = true then k0
            else if (!V.on (V.tCross (x14, x15, x16) (x17, x18, x19)) x11 == V.on (V.tCross (x14, x15, x16) (x17, x18, x19)) x11) = true then k0 else kn (IntKind.wrap IntKind.i64 (x13 + (1 : Int)))
          else
            if cEq x13 (5 : Int) = true then if (!(cEq (V.gv (V.tLen (x14, x15, x16))) (V.gv (V.tLen (x14, x15, x16))) && (cEq (0 : Int) (0 : Int) && (cEq (0 : Int) (0 : Int) && true)))) = true then k0 else if (!V.gn (V.tLen (x14, x15, x16)) x11 == V.gn (V.tLen (x14, x15, x16)) x11) = true then k0 else kn (IntKind.wrap IntKind.i64 (x13 + (1 : Int)))
            else if (!(cEq (V.x3 (V.tUnit (x14, x15, x16))) (V.x3 (V.tUnit (x14, x15, x16))) && (cEq (V.y3 (V.tUnit (x14, x15, x16))) (V.y3 (V.tUnit (x14, x15, x16))) && (cEq (V.z3 (V.tUnit (x14, x15, x16))) (V.z3 (V.tUnit (x14, x15, x16))) && true)))) = true then k0 else if (!V.on (V.tUnit (x14, x15, x16)) x11 == V.on (V.tUnit (x14, x15, x16)) x11) = true then k0 else kn (IntKind.wrap IntKind.i64 (x13 + (1 : Int)))
else k2
noncomputable def _root_.Go.Proofs.Ytmcifgaaojgheaa.M.vpartsL_l0 {α : Type} (x10 : Int) (x11 : Bool) (x14 : Int) (x15 : Int) (x16 : Int) (x17 : Int) (x18 : Int) (x19 : Int) (k0 : Option α) (k2 : Option α) : Nat → Int → Option α
  | 0, _ => none
  | n + 1, x13 => Go.Proofs.Ytmcifgaaojgheaa.M.vpartsL_l0_step x10 x11 x14 x15 x16 x17 x18 x19 (Go.Proofs.Ytmcifgaaojgheaa.M.vpartsL_l0 x10 x11 x14 x15 x16 x17 x18 x19 k0 k2 n) k0 k2 x13
theorem vpartsL_l0_step_eq {α : Type} (x10 : Int) (x11 : Bool) (x12 : Bool) (x13 : Int) (x14 : Int) (x15 : Int) (x16 : Int) (x17 : Int) (x18 : Int) (x19 : Int) (Q : Ex → St → Option α) : (loopStep E (exec E look_VecParts_vunit noLps 400) 8 [false, true, false, true, true] 0 (codeAt E.P 8 [false, true, false, true, true])) (St.mk
  [none, none, some (SV.int IntKind.i64 x10), some (SV.bool x11), some (SV.ptr (nat_lit 0) (nat_lit 0)), some (SV.ptr (nat_lit 1) (nat_lit 0)), none, none, none, some (SV.bool x12), some (SV.int IntKind.i64 x13), none, none, none, none, none, none, none, none, none, none, none, none, none, none, none, none, none, none, none, none, none, none, none, none, none, none, none, none, none, none, none, none, none, none, none, none, none, none, none, none, none, none, none, none, none, none, none, none,
    none, none, none, none, none, none, none, none, none, none, none, none, none, none, none, none, none, none, none, none, none, none, none, none, none, none, none, none, none, none, none, none, none, none, none, none, none, none, none, none, none, none, none, none, none, none, none, none, none, none, none]
  [SObj.cells [SV.int IntKind.i64 x14, SV.int IntKind.i64 x15, SV.int IntKind.i64 x16] (nat_lit 23), SObj.cells [SV.int IntKind.i64 x17, SV.int IntKind.i64 x18, SV.int IntKind.i64 x19] (nat_lit 23)]) Q = Go.Proofs.Ytmcifgaaojgheaa.M.vpartsL_l0_step x10 x11 x14 x15 x16 x17 x18 x19 (fun (x20 : Int) => Q .normal (St.mk
  [none, none, some (SV.int IntKind.i64 x10), some (SV.bool x11), some (SV.ptr (nat_lit 0) (nat_lit 0)), some (SV.ptr (nat_lit 1) (nat_lit 0)), none, none, none, some (SV.bool x12), some (SV.int IntKind.i64 x20), none, none, none, none, none, none, none, none, none, none, none, none, none, none, none, none, none, none, none, none, none, none, none, none, none, none, none, none, none, none, none, none, none, none, none, none, none, none, none, none, none, none, none, none, none, none, none, none,
    none, none, none, none, none, none, none, none, none, none, none, none, none, none, none, none, none, none, none, none, none, none, none, none, none, none, none, none, none, none, none, none, none, none, none, none, none, none, none, none, none, none, none, none, none, none, none, none, none, none, none]
  [SObj.cells [SV.int IntKind.i64 x14, SV.int IntKind.i64 x15, SV.int IntKind.i64 x16] (nat_lit 23), SObj.cells [SV.int IntKind.i64 x17, SV.int IntKind.i64 x18, SV.int IntKind.i64 x19] (nat_lit 23)])) (Q .ret (St.mk
  [none, none, none, none, none, none, none, none, some (SV.bool false), some (SV.bool x12), none, none, none, none, none, none, none, none, none, none, none, none, none, none, none, none, none, none, none, none, none, none, none, none, none, none, none, none, none, none, none, none, none, none, none, none, none, none, none, none, none, none, none, none, none, none, none, none, none, none, none, none, none, none, none, none, none, none, none, none, none, none, none, none, none, none, none, none,
    none, none, none, none, none, none, none, none, none, none, none, none, none, none, none, none, none, none, none, none, none, none, none, none, none, none, none, none, none, none, none, none]
  [])) (Q (.exit 0) (St.mk
  [none, none, none, none, none, none, none, none, none, some (SV.bool x12), none, none, none, none, none, none, none, none, none, none, none, none, none, none, none, none, none, none, none, none, none, none, none, none, none, none, none, none, none, none, none, none, none, none, none, none, none, none, none, none, none, none, none, none, none, none, none, none, none, none, none, none, none, none, none, none, none, none, none, none, none, none, none, none, none, none, none, none, none, none,
    none, none, none, none, none, none, none, none, none, none, none, none, none, none, none, none, none, none, none, none, none, none, none, none, none, none, none, none, none, none]
  [])) x13 := by kernel_rfl
theorem vpartsL_l0_iter {α : Type} (x10 : Int) (x11 : Bool) (x12 : Bool) (x14 : Int) (x15 : Int) (x16 : Int) (x17 : Int) (x18 : Int) (x19 : Int) (Q : Ex → St → Option α) : ∀ (n : Nat) (x13 : Int), iter (loopStep E (exec E look_VecParts_vunit noLps 400) 8 [false, true, false, true, true] 0 (codeAt E.P 8 [false, true, false, true, true])) n (St.mk
  [none, none, some (SV.int IntKind.i64 x10), some (SV.bool x11), some (SV.ptr (nat_lit 0) (nat_lit 0)), some (SV.ptr (nat_lit 1) (nat_lit 0)), none, none, none, some (SV.bool x12), some (SV.int IntKind.i64 x13), none, none, none, none, none, none, none, none, none, none, none, none, none, none, none, none, none, none, none, none, none, none, none, none, none, none, none, none, none, none, none, none, none, none, none, none, none, none, none, none, none, none, none, none, none, none, none, none,
    none, none, none, none, none, none, none, none, none, none, none, none, none, none, none, none, none, none, none, none, none, none, none, none, none, none, none, none, none, none, none, none, none, none, none, none, none, none, none, none, none, none, none, none, none, none, none, none, none, none, none]
  [SObj.cells [SV.int IntKind.i64 x14, SV.int IntKind.i64 x15, SV.int IntKind.i64 x16] (nat_lit 23), SObj.cells [SV.int IntKind.i64 x17, SV.int IntKind.i64 x18, SV.int IntKind.i64 x19] (nat_lit 23)]) Q = Go.Proofs.Ytmcifgaaojgheaa.M.vpartsL_l0 x10 x11 x14 x15 x16 x17 x18 x19 (Q .ret (St.mk
  [none, none, none, none, none, none, none, none, some (SV.bool false), some (SV.bool x12), none, none, none, none, none, none, none, none, none, none, none, none, none, none, none, none, none, none, none, none, none, none, none, none, none, none, none, none, none, none, none, none, none, none, none, none, none, none, none, none, none, none, none, none, none, none, none, none, none, none, none, none, none, none, none, none, none, none, none, none, none, none, none, none, none, none, none, none,
    none, none, none, none, none, none, none, none, none, none, none, none, none, none, none, none, none, none, none, none, none, none, none, none, none, none, none, none, none, none, none, none]
  [])) (Q (.exit 0) (St.mk
  [none, none, none, none, none, none, none, none, none, some (SV.bool x12), none, none, none, none, none, none, none, none, none, none, none, none, none, none, none, none, none, none, none, none, none, none, none, none, none, none, none, none, none, none, none, none, none, none, none, none, none, none, none, none, none, none, none, none, none, none, none, none, none, none, none, none, none, none, none, none, none, none, none, none, none, none, none, none, none, none, none, none, none, none,
    none, none, none, none, none, none, none, none, none, none, none, none, none, none, none, none, none, none, none, none, none, none, none, none, none, none, none, none, none, none]
  [])) n x13
  | 0, _ => rfl
  | n + 1, x13 => (vpartsL_l0_step_eq x10 x11 x12 x13 x14 x15 x16 x17 x18 x19 (iterK (loopStep E (exec E look_VecParts_vunit noLps 400) 8 [false, true, false, true, true] 0 (codeAt E.P 8 [false, true, false, true, true])) n Q)).trans (congrArg (fun kn => Go.Proofs.Ytmcifgaaojgheaa.M.vpartsL_l0_step x10 x11 x14 x15 x16 x17 x18 x19 kn (Q .ret (St.mk
  [none, none, none, none, none, none, none, none, some (SV.bool false), some (SV.bool x12), none, none, none, none, none, none, none, none, none, none, none, none, none, none, none, none, none, none, none, none, none, none, none, none, none, none, none, none, none, none, none, none, none, none, none, none, none, none, none, none, none, none, none, none, none, none, none, none, none, none, none, none, none, none, none, none, none, none, none, none, none, none, none, none, none, none, none, none,
    none, none, none, none, none, none, none, none, none, none, none, none, none, none, none, none, none, none, none, none, none, none, none, none, none, none, none, none, none, none, none, none]
  [])) (Q (.exit 0) (St.mk
  [none, none, none, none, none, none, none, none, none, some (SV.bool x12), none, none, none, none, none, none, none, none, none, none, none, none, none, none, none, none, none, none, none, none, none, none, none, none, none, none, none, none, none, none, none, none, none, none, none, none, none, none, none, none, none, none, none, none, none, none, none, none, none, none, none, none, none, none, none, none, none, none, none, none, none, none, none, none, none, none, none, none, none, none,
    none, none, none, none, none, none, none, none, none, none, none, none, none, none, none, none, none, none, none, none, none, none, none, none, none, none, none, none, none, none]
  [])) x13) (funext fun x13 => vpartsL_l0_iter x10 x11 x12 x14 x15 x16 x17 x18 x19 Q n x13))
noncomputable def vpartsL_l0_go {α : Type} (ds : List D) (Q : Ex → St → Option α) : Option α :=
  dI ds fun x10 ds => dB ds fun x11 ds => dB ds fun x12 ds => dI ds fun x13 ds => dI ds fun x14 ds => dI ds fun x15 ds => dI ds fun x16 ds => dI ds fun x17 ds => dI ds fun x18 ds => dI ds fun x19 ds => dE ds (Go.Proofs.Ytmcifgaaojgheaa.M.vpartsL_l0 x10 x11 x14 x15 x16 x17 x18 x19 (Q .ret (St.mk
  [none, none, none, none, none, none, none, none, some (SV.bool false), some (SV.bool x12), none, none, none, none, none, none, none, none, none, none, none, none, none, none, none, none, none, none, none, none, none, none, none, none, none, none, none, none, none, none, none, none, none, none, none, none, none, none, none, none, none, none, none, none, none, none, none, none, none, none, none, none, none, none, none, none, none, none, none, none, none, none, none, none, none, none, none, none,
    none, none, none, none, none, none, none, none, none, none, none, none, none, none, none, none, none, none, none, none, none, none, none, none, none, none, none, none, none, none, none, none]
  [])) (Q (.exit 0) (St.mk
  [none, none, none, none, none, none, none, none, none, some (SV.bool x12), none, none, none, none, none, none, none, none, none, none, none, none, none, none, none, none, none, none, none, none, none, none, none, none, none, none, none, none, none, none, none, none, none, none, none, none, none, none, none, none, none, none, none, none, none, none, none, none, none, none, none, none, none, none, none, none, none, none, none, none, none, none, none, none, none, none, none, none, none, none,
    none, none, none, none, none, none, none, none, none, none, none, none, none, none, none, none, none, none, none, none, none, none, none, none, none, none, none, none, none, none]
  [])) (100) x13)
theorem vpartsL_l0_ok {α : Type} : LoopOk E.P 8 [false, true, false, true, true] 0 (lEnt (α := α) (St.mk
  [none, none, some (SV.int IntKind.i64 (0 : Int)), some (SV.bool false), some (SV.ptr (nat_lit 0) (nat_lit 0)), some (SV.ptr (nat_lit 1) (nat_lit 0)), none, none, none, some (SV.bool false), some (SV.int IntKind.i64 (0 : Int)), none, none, none, none, none, none, none, none, none, none, none, none, none, none, none, none, none, none, none, none, none, none, none, none, none, none, none, none, none, none, none, none, none, none, none, none, none, none, none, none, none, none, none, none, none,
    none, none, none, none, none, none, none, none, none, none, none, none, none, none, none, none, none, none, none, none, none, none, none, none, none, none, none, none, none, none, none, none, none, none, none, none, none, none, none, none, none, none, none, none, none, none, none, none, none, none, none, none, none, none]
  [SObj.cells [SV.int IntKind.i64 (0 : Int), SV.int IntKind.i64 (0 : Int), SV.int IntKind.i64 (0 : Int)] (nat_lit 23), SObj.cells [SV.int IntKind.i64 (0 : Int), SV.int IntKind.i64 (0 : Int), SV.int IntKind.i64 (0 : Int)] (nat_lit 23)]) vpartsL_l0_go) :=
  lEnt_ok E (exec_sound E E_ok (look_VecParts_vunit_ok) (noLps_ok _) 400) fun ds Q r h S hS => by
    unfold vpartsL_l0_go at h
    obtain ⟨x10, ds, rfl, h1⟩ := dI_inv h
    obtain ⟨x11, ds, rfl, h2⟩ := dB_inv h1
    obtain ⟨x12, ds, rfl, h3⟩ := dB_inv h2
    obtain ⟨x13, ds, rfl, h4⟩ := dI_inv h3
    obtain ⟨x14, ds, rfl, h5⟩ := dI_inv h4
    obtain ⟨x15, ds, rfl, h6⟩ := dI_inv h5
    obtain ⟨x16, ds, rfl, h7⟩ := dI_inv h6
    obtain ⟨x17, ds, rfl, h8⟩ := dI_inv h7
    obtain ⟨x18, ds, rfl, h9⟩ := dI_inv h8
    obtain ⟨x19, ds, rfl, h10⟩ := dI_inv h9
    obtain ⟨rfl, hE⟩ := dE_inv h10
    have e : fillS (St.mk
  [none, none, some (SV.int IntKind.i64 (0 : Int)), some (SV.bool false), some (SV.ptr (nat_lit 0) (nat_lit 0)), some (SV.ptr (nat_lit 1) (nat_lit 0)), none, none, none, some (SV.bool false), some (SV.int IntKind.i64 (0 : Int)), none, none, none, none, none, none, none, none, none, none, none, none, none, none, none, none, none, none, none, none, none, none, none, none, none, none, none, none, none, none, none, none, none, none, none, none, none, none, none, none, none, none, none, none, none,
    none, none, none, none, none, none, none, none, none, none, none, none, none, none, none, none, none, none, none, none, none, none, none, none, none, none, none, none, none, none, none, none, none, none, none, none, none, none, none, none, none, none, none, none, none, none, none, none, none, none, none, none, none, none]
  [SObj.cells [SV.int IntKind.i64 (0 : Int), SV.int IntKind.i64 (0 : Int), SV.int IntKind.i64 (0 : Int)] (nat_lit 23), SObj.cells [SV.int IntKind.i64 (0 : Int), SV.int IntKind.i64 (0 : Int), SV.int IntKind.i64 (0 : Int)] (nat_lit 23)]) [.i x10, .b x11, .b x12, .i x13, .i x14, .i x15, .i x16, .i x17, .i x18, .i x19] = some (St.mk
  [none, none, some (SV.int IntKind.i64 x10), some (SV.bool x11), some (SV.ptr (nat_lit 0) (nat_lit 0)), some (SV.ptr (nat_lit 1) (nat_lit 0)), none, none, none, some (SV.bool x12), some (SV.int IntKind.i64 x13), none, none, none, none, none, none, none, none, none, none, none, none, none, none, none, none, none, none, none, none, none, none, none, none, none, none, none, none, none, none, none, none, none, none, none, none, none, none, none, none, none, none, none, none, none, none, none, none,
    none, none, none, none, none, none, none, none, none, none, none, none, none, none, none, none, none, none, none, none, none, none, none, none, none, none, none, none, none, none, none, none, none, none, none, none, none, none, none, none, none, none, none, none, none, none, none, none, none, none, none]
  [SObj.cells [SV.int IntKind.i64 x14, SV.int IntKind.i64 x15, SV.int IntKind.i64 x16] (nat_lit 23), SObj.cells [SV.int IntKind.i64 x17, SV.int IntKind.i64 x18, SV.int IntKind.i64 x19] (nat_lit 23)]) := by kernel_rfl
    rw [e] at hS
    cases hS
    exact ⟨_, (vpartsL_l0_iter x10 x11 x12 x14 x15 x16 x17 x18 x19 Q _ x13).trans hE⟩
noncomputable def vpartsL_l0_lps {α : Type} : LookL α := addLp 8 [false, true, false, true, true] 0 (lEnt (St.mk
  [none, none, some (SV.int IntKind.i64 (0 : Int)), some (SV.bool false), some (SV.ptr (nat_lit 0) (nat_lit 0)), some (SV.ptr (nat_lit 1) (nat_lit 0)), none, none, none, some (SV.bool false), some (SV.int IntKind.i64 (0 : Int)), none, none, none, none, none, none, none, none, none, none, none, none, none, none, none, none, none, none, none, none, none, none, none, none, none, none, none, none, none, none, none, none, none, none, none, none, none, none, none, none, none, none, none, none, none,
    none, none, none, none, none, none, none, none, none, none, none, none, none, none, none, none, none, none, none, none, none, none, none, none, none, none, none, none, none, none, none, none, none, none, none, none, none, none, none, none, none, none, none, none, none, none, none, none, none, none, none, none, none, none]
  [SObj.cells [SV.int IntKind.i64 (0 : Int), SV.int IntKind.i64 (0 : Int), SV.int IntKind.i64 (0 : Int)] (nat_lit 23), SObj.cells [SV.int IntKind.i64 (0 : Int), SV.int IntKind.i64 (0 : Int), SV.int IntKind.i64 (0 : Int)] (nat_lit 23)]) vpartsL_l0_go) noLps
theorem vpartsL_l0_lps_ok {α : Type} : LoopsOk E.P (vpartsL_l0_lps (α := α)) := addLp_ok vpartsL_l0_ok (noLps_ok _)

noncomputable def _root_.Go.Proofs.Ytmcifgaaojgheaa.M.vpartsL {α : Type} (ax : Int) (ay : Int) (az : Int) (bx : Int) (b_y : Int) (bz : Int) (n : Int) (bad : Bool) (k0 : Bool → Option α) : Option α :=
  M.vpartsL_l0 n bad ax ay az bx b_y bz (k0 false) (k0 true) (100 : Nat) (0 : Int)
theorem vpartsL_eq {α : Type} (ax : Int) (ay : Int) (az : Int) (bx : Int) (b_y : Int) (bz : Int) (n : Int) (bad : Bool) (Q : SV → Hp → Option α) : callI E look_VecParts_vunit (exec E look_VecParts_vunit vpartsL_l0_lps 400) 8 ([SV.agg [SV.int IntKind.i64 ax, SV.int IntKind.i64 ay, SV.int IntKind.i64 az], SV.agg [SV.int IntKind.i64 bx, SV.int IntKind.i64 b_y, SV.int IntKind.i64 bz], SV.int IntKind.i64 n, SV.bool bad]) ([]) Q = Go.Proofs.Ytmcifgaaojgheaa.M.vpartsL ax ay az bx b_y bz n bad (fun (x21 : Bool) => Q (SV.bool x21) ([])) := by kernel_rfl
def vpartsL_sp : List AS := [.val (.agg [.int .i64 0, .int .i64 0, .int .i64 0]), .val (.agg [.int .i64 0, .int .i64 0, .int .i64 0]), .val (.int .i64 0), .val (.bool false)]
noncomputable def vpartsL_go {α : Type} (ds : List D) (Q : SV → Hp → Option α) : Option α :=
  dI ds fun ax ds => dI ds fun ay ds => dI ds fun az ds => dI ds fun bx ds => dI ds fun b_y ds => dI ds fun bz ds => dI ds fun n ds => dB ds fun bad ds => dE ds (Go.Proofs.Ytmcifgaaojgheaa.M.vpartsL ax ay az bx b_y bz n bad (fun (x21 : Bool) => Q (SV.bool x21) ([])))
theorem vpartsL_ok {α : Type} : FnOk E.P 8 (fEnt (α := α) vpartsL_sp vpartsL_go) :=
  fEnt_ok E (look_VecParts_vunit_ok) (exec_sound E E_ok (look_VecParts_vunit_ok) (vpartsL_l0_lps_ok) 400) fun ds Q r h => by
    unfold vpartsL_go at h
    obtain ⟨ax, ds, rfl, h1⟩ := dI_inv h
    obtain ⟨ay, ds, rfl, h2⟩ := dI_inv h1
    obtain ⟨az, ds, rfl, h3⟩ := dI_inv h2
    obtain ⟨bx, ds, rfl, h4⟩ := dI_inv h3
    obtain ⟨b_y, ds, rfl, h5⟩ := dI_inv h4
    obtain ⟨bz, ds, rfl, h6⟩ := dI_inv h5
    obtain ⟨n, ds, rfl, h7⟩ := dI_inv h6
    obtain ⟨bad, ds, rfl, h8⟩ := dB_inv h7
    obtain ⟨rfl, hE⟩ := dE_inv h8
    exact ⟨[SV.agg [SV.int IntKind.i64 ax, SV.int IntKind.i64 ay, SV.int IntKind.i64 az], SV.agg [SV.int IntKind.i64 bx, SV.int IntKind.i64 b_y, SV.int IntKind.i64 bz], SV.int IntKind.i64 n, SV.bool bad], [], fun vs => by kernel_rfl, (vpartsL_eq ax ay az bx b_y bz n bad Q).trans hE⟩
--##
theorem parts_step {α : Type} (n : Int) (bad : Bool) (ax ay az bx b_y bz : Int) (kn : Int → Option α) (k0 k2 : Option α) (i : Int) : M.vpartsL_l0_step n bad ax ay az bx b_y bz kn k0 k2 i = if i < 7 then kn (IntKind.wrap .i64 (i + 1)) else k2 := by
  unfold M.vpartsL_l0_step
  simp only [cEq_eq, cLt_eq, beq_self_eq_true, Bool.and_self, Bool.not_true, Bool.false_eq_true, if_false, ite_self, decide_eq_true_eq]
theorem vpartsL_v {α : Type} (ax ay az bx b_y bz n : Int) (bad : Bool) (k0 : Bool → Option α) : M.vpartsL ax ay az bx b_y bz n bad k0 = k0 true := by
  have w1 : IntKind.wrap .i64 1 = 1 := by decide
  have w2 : IntKind.wrap .i64 2 = 2 := by decide
  have w3 : IntKind.wrap .i64 3 = 3 := by decide
  have w4 : IntKind.wrap .i64 4 = 4 := by decide
  have w5 : IntKind.wrap .i64 5 = 5 := by decide
  have w6 : IntKind.wrap .i64 6 = 6 := by decide
  have w7 : IntKind.wrap .i64 7 = 7 := by decide
  unfold M.vpartsL
  rw [show (100 : Nat) = 92 + 8 from rfl]
  simp [M.vpartsL_l0, parts_step, w1, w2, w3, w4, w5, w6, w7]
noncomputable def vpartsL_h {α : Type} (ds : List D) (Q : SV → Hp → Option α) : Option α :=
  dI ds fun ax ds => dI ds fun ay ds => dI ds fun az ds => dI ds fun bx ds => dI ds fun b_y ds => dI ds fun bz ds => dI ds fun n ds => dB ds fun bad ds => dE ds (Q (.bool true) ([]))
theorem vpartsL_h_ok {α : Type} : FnOk E.P 8 (fEnt (α := α) vpartsL_sp vpartsL_h) :=
  fEnt_ok E (look_VecParts_vunit_ok) (exec_sound E E_ok (look_VecParts_vunit_ok) (vpartsL_l0_lps_ok) 400) fun ds Q r h => by
    unfold vpartsL_h at h
    obtain ⟨ax, ds, rfl, h1⟩ := dI_inv h
    obtain ⟨ay, ds, rfl, h2⟩ := dI_inv h1
    obtain ⟨az, ds, rfl, h3⟩ := dI_inv h2
    obtain ⟨bx, ds, rfl, h4⟩ := dI_inv h3
    obtain ⟨b_y, ds, rfl, h5⟩ := dI_inv h4
    obtain ⟨bz, ds, rfl, h6⟩ := dI_inv h5
    obtain ⟨n, ds, rfl, h7⟩ := dI_inv h6
    obtain ⟨bad, ds, rfl, h8⟩ := dB_inv h7
    obtain ⟨rfl, hE⟩ := dE_inv h8
    exact ⟨[SV.agg [SV.int IntKind.i64 ax, SV.int IntKind.i64 ay, SV.int IntKind.i64 az], SV.agg [SV.int IntKind.i64 bx, SV.int IntKind.i64 b_y, SV.int IntKind.i64 bz], SV.int IntKind.i64 n, SV.bool bad], [], fun vs => by kernel_rfl, (vpartsL_eq ax ay az bx b_y bz n bad Q).trans ((vpartsL_v ax ay az bx b_y bz n bad _).trans hE)⟩
end Go.Proofs.Ytmcifgaaojgheaa.Sx
