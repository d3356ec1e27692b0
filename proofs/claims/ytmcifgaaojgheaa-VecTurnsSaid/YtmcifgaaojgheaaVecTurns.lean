/- VecTurns: its run tells true. -/
import Derived.Test.YtmcifgaaojgheaaVecC
import Derived.Test.YtmcifgaaojgheaaVecRB
namespace Go.Proofs.Ytmcifgaaojgheaa.Sx
open Go
set_option maxRecDepth 20000
set_option linter.unusedVariables false
set_option linter.unusedSimpArgs false
noncomputable def look_VecTurns_awake {α : Type} : LookF α := addFn 10 (fEnt awake_sp awake_h) look_dvspin
theorem look_VecTurns_awake_ok {α : Type} : LookOk E.P (look_VecTurns_awake (α := α)) := addFn_ok awake_h_ok (look_dvspin_ok)
noncomputable def look_VecTurns_vtimes {α : Type} : LookF α := addFn 32 (fEnt vtimes_sp vtimes_h) look_VecTurns_awake
theorem look_VecTurns_vtimes_ok {α : Type} : LookOk E.P (look_VecTurns_vtimes (α := α)) := addFn_ok vtimes_h_ok (look_VecTurns_awake_ok)
noncomputable def look_VecTurns_vwhole {α : Type} : LookF α := addFn 17 (fEnt vwhole_sp vwhole_h) look_VecTurns_vtimes
theorem look_VecTurns_vwhole_ok {α : Type} : LookOk E.P (look_VecTurns_vwhole (α := α)) := addFn_ok vwhole_h_ok (look_VecTurns_vtimes_ok)
noncomputable def look_VecTurns_vspin {α : Type} : LookF α := addFn 35 (fEnt vspin_sp vspin_h) look_VecTurns_vwhole
theorem look_VecTurns_vspin_ok {α : Type} : LookOk E.P (look_VecTurns_vspin (α := α)) := addFn_ok vspin_h_ok (look_VecTurns_vwhole_ok)
noncomputable def look_VecTurns_vturn {α : Type} : LookF α := addFn 14 (fEnt vturn_sp vturn_h) look_VecTurns_vspin
theorem look_VecTurns_vturn_ok {α : Type} : LookOk E.P (look_VecTurns_vturn (α := α)) := addFn_ok vturn_h_ok (look_VecTurns_vspin_ok)
noncomputable def look_VecTurns_vrows {α : Type} : LookF α := addFn 13 (fEnt vrows_sp vrows_h) look_VecTurns_vturn
theorem look_VecTurns_vrows_ok {α : Type} : LookOk E.P (look_VecTurns_vrows (α := α)) := addFn_ok vrows_h_ok (look_VecTurns_vturn_ok)
noncomputable def look_VecTurns_vback {α : Type} : LookF α := addFn 15 (fEnt vback_sp vback_h) look_VecTurns_vrows
theorem look_VecTurns_vback_ok {α : Type} : LookOk E.P (look_VecTurns_vback (α := α)) := addFn_ok vback_h_ok (look_VecTurns_vrows_ok)
noncomputable def _root_.Go.Proofs.Ytmcifgaaojgheaa.M.vturnsL_l0_step {α : Type} (x24 : Int) (x25 : Int) (x26 : Int) (x27 : Int) (x28 : Int) (x29 : Int) (x30 : Int) (x31 : Int) (x32 : Int) (x33 : Int) (x34 : Int) (x35 : Int) (x36 : Int) (x37 : Int) (x38 : Int) (x39 : Int) (x40 : Int) (x41 : Int) (x42 : Int) (x43 : Int) (kn : Int → Option α) (k0 : Option α) (k2 : Option α) (x23 : Int) : Option α :=
  if cLt x23 (4 : Int) = true then
  if cEq x23 (0 : Int) = true then
    if
        (!(cEq (V.w4 (V.tTimes (x24, x25, x26, x27) (x28, x29, x30, x31))) (V.w4 (V.tTimes (x24, x25, x26, x27) (x28, x29, x30, x31))) &&
              (cEq (V.x4 (V.tTimes (x24, x25, x26, x27) (x28, x29, x30, x31))) (V.x4 (V.tTimes (x24, x25, x26, x27) (x28, x29, x30, x31))) && (cEq (V.y4 (V.tTimes (x24, x25, x26, x27) (x28, x29, x30, x31))) (V.y4 (V.tTimes (x24, x25, x26, x27) (x28, x29, x30, x31))) && (cEq (V.z4 (V.tTimes (x24, x25, x26, x27) (x28, x29, x30, x31))) (V.z4 (V.tTimes (x24, x25, x26, x27) (x28, x29, x30, x31))) && true))))) =
          true then
      k0
    else if (!V.on (V.tTimes (x24, x25, x26, x27) (x28, x29, x30, x31)) false == V.on (V.tTimes (x24, x25, x26, x27) (x28, x29, x30, x31)) false) = true then k0 else kn (IntKind.wrap IntKind.i64 (x23 + (1 : Int)))
  else
    if cEq x23 (1 : Int) = true then
      if (!(cEq (V.w4 (V.tWhole (x24, x25, x26, x27))) (V.w4 (V.tWhole (x24, x25, x26, x27))) && (cEq (V.x4 (V.tWhole (x24, x25, x26, x27))) (V.x4 (V.tWhole (x24, x25, x26, x27))) && (cEq (V.y4 (V.tWhole (x24, x25, x26, x27))) (V.y4 (V.tWhole (x24, x25, x26, x27))) && (cEq (V.z4 (V.tWhole (x24, x25, x26, x27))) (V.z4 (V.tWhole (x24, x25, x26, x27))) && true))))) = true then k0
      else if (!V.on (V.tWhole (x24, x25, x26, x27)) false == V.on (V.tWhole (x24, x25, x26, x27)) false) = true then k0 else kn (IntKind.wrap IntKind.i64 (x23 + (1 : Int)))
    else
      if cEq x23 (2 : Int) = true then
        if (!(cEq (V.w4 (V.tSpin (x24, x25, x26, x27) (x41, x42, x43))) (V.w4 (V.tSpin (x24, x25, x26, x27) (x41, x42, x43))) && (cEq (V.x4 (V.tSpin (x24, x25, x26, x27) (x41, x42, x43))) (V.x4 (V.tSpin (x24, x25, x26, x27) (x41, x42, x43))) && (cEq (V.y4 (V.tSpin (x24, x25, x26, x27) (x41, x42, x43))) (V.y4 (V.tSpin (x24, x25, x26, x27) (x41, x42, x43))) && (cEq (V.z4 (V.tSpin (x24, x25, x26, x27) (x41, x42, x43))) (V.z4 (V.tSpin (x24, x25, x26, x27) (x41, x42, x43))) && true))))) = true then
          k0
        else if (!V.on (V.tSpin (x24, x25, x26, x27) (x41, x42, x43)) false == V.on (V.tSpin (x24, x25, x26, x27) (x41, x42, x43)) false) = true then k0 else kn (IntKind.wrap IntKind.i64 (x23 + (1 : Int)))
      else
        if
            (!(cEq (0 : Int) (0 : Int) &&
                  (cEq (V.x3 (V.tTurn ((x32, x33, x34), (x35, x36, x37), x38, x39, x40) (x41, x42, x43))) (V.x3 (V.tTurn ((x32, x33, x34), (x35, x36, x37), x38, x39, x40) (x41, x42, x43))) &&
                    (cEq (V.y3 (V.tTurn ((x32, x33, x34), (x35, x36, x37), x38, x39, x40) (x41, x42, x43))) (V.y3 (V.tTurn ((x32, x33, x34), (x35, x36, x37), x38, x39, x40) (x41, x42, x43))) && (cEq (V.z3 (V.tTurn ((x32, x33, x34), (x35, x36, x37), x38, x39, x40) (x41, x42, x43))) (V.z3 (V.tTurn ((x32, x33, x34), (x35, x36, x37), x38, x39, x40) (x41, x42, x43))) && true))))) =
              true then
          k0
        else if (!V.on (V.tTurn ((x32, x33, x34), (x35, x36, x37), x38, x39, x40) (x41, x42, x43)) false == V.on (V.tTurn ((x32, x33, x34), (x35, x36, x37), x38, x39, x40) (x41, x42, x43)) false) = true then k0 else kn (IntKind.wrap IntKind.i64 (x23 + (1 : Int)))
else k2
noncomputable def _root_.Go.Proofs.Ytmcifgaaojgheaa.M.vturnsL_l0 {α : Type} (x24 : Int) (x25 : Int) (x26 : Int) (x27 : Int) (x28 : Int) (x29 : Int) (x30 : Int) (x31 : Int) (x32 : Int) (x33 : Int) (x34 : Int) (x35 : Int) (x36 : Int) (x37 : Int) (x38 : Int) (x39 : Int) (x40 : Int) (x41 : Int) (x42 : Int) (x43 : Int) (k0 : Option α) (k2 : Option α) : Nat → Int → Option α
  | 0, _ => none
  | n + 1, x23 => Go.Proofs.Ytmcifgaaojgheaa.M.vturnsL_l0_step x24 x25 x26 x27 x28 x29 x30 x31 x32 x33 x34 x35 x36 x37 x38 x39 x40 x41 x42 x43 (Go.Proofs.Ytmcifgaaojgheaa.M.vturnsL_l0 x24 x25 x26 x27 x28 x29 x30 x31 x32 x33 x34 x35 x36 x37 x38 x39 x40 x41 x42 x43 k0 k2 n) k0 k2 x23
theorem vturnsL_l0_step_eq {α : Type} (x22 : Bool) (x23 : Int) (x24 : Int) (x25 : Int) (x26 : Int) (x27 : Int) (x28 : Int) (x29 : Int) (x30 : Int) (x31 : Int) (x32 : Int) (x33 : Int) (x34 : Int) (x35 : Int) (x36 : Int) (x37 : Int) (x38 : Int) (x39 : Int) (x40 : Int) (x41 : Int) (x42 : Int) (x43 : Int) (Q : Ex → St → Option α) : (loopStep E (exec E look_VecTurns_vback noLps 400) 9 [false, true, false, true, true] 0 (codeAt E.P 9 [false, true, false, true, true])) (St.mk
  [none, none, none, none, some (SV.ptr (nat_lit 0) (nat_lit 0)), some (SV.ptr (nat_lit 1) (nat_lit 0)), some (SV.ptr (nat_lit 2) (nat_lit 0)), some (SV.ptr (nat_lit 3) (nat_lit 0)), none, some (SV.bool x22), some (SV.int IntKind.i64 x23), none, none, none, none, none, none, none, none, none, none, none, none, none, none, none, none, none, none, none, none, none, none, none, none, none, none, none, none, none, none, none, none, none, none, none, none, none, none, none, none, none, none, none,
    none, none, none, none, none, none, none, none, none, none, none, none, none, none, none, none, none, none, none, none, none, none, none, none, none, none, none, none, none, none, none, none, none, none, none, none, none, none, none, none, none, none, none, none, none, none, none, none, none, none, none, none, none, none, none, none, none, none, none, none, none, none, none, none, none, none, none, none, none, none, none, none, none, none, none, none, none, none, none, none, none, none,
    none]
  [SObj.cells [SV.int IntKind.i64 x24, SV.int IntKind.i64 x25, SV.int IntKind.i64 x26, SV.int IntKind.i64 x27] (nat_lit 33), SObj.cells [SV.int IntKind.i64 x28, SV.int IntKind.i64 x29, SV.int IntKind.i64 x30, SV.int IntKind.i64 x31] (nat_lit 33), SObj.cells [SV.int IntKind.i64 x32, SV.int IntKind.i64 x33, SV.int IntKind.i64 x34, SV.int IntKind.i64 x35, SV.int IntKind.i64 x36, SV.int IntKind.i64 x37, SV.int IntKind.i64 x38, SV.int IntKind.i64 x39, SV.int IntKind.i64 x40] (nat_lit 37),
    SObj.cells [SV.int IntKind.i64 x41, SV.int IntKind.i64 x42, SV.int IntKind.i64 x43] (nat_lit 23)]) Q = Go.Proofs.Ytmcifgaaojgheaa.M.vturnsL_l0_step x24 x25 x26 x27 x28 x29 x30 x31 x32 x33 x34 x35 x36 x37 x38 x39 x40 x41 x42 x43 (fun (x44 : Int) => Q .normal (St.mk
  [none, none, none, none, some (SV.ptr (nat_lit 0) (nat_lit 0)), some (SV.ptr (nat_lit 1) (nat_lit 0)), some (SV.ptr (nat_lit 2) (nat_lit 0)), some (SV.ptr (nat_lit 3) (nat_lit 0)), none, some (SV.bool x22), some (SV.int IntKind.i64 x44), none, none, none, none, none, none, none, none, none, none, none, none, none, none, none, none, none, none, none, none, none, none, none, none, none, none, none, none, none, none, none, none, none, none, none, none, none, none, none, none, none, none, none,
    none, none, none, none, none, none, none, none, none, none, none, none, none, none, none, none, none, none, none, none, none, none, none, none, none, none, none, none, none, none, none, none, none, none, none, none, none, none, none, none, none, none, none, none, none, none, none, none, none, none, none, none, none, none, none, none, none, none, none, none, none, none, none, none, none, none, none, none, none, none, none, none, none, none, none, none, none, none, none, none, none, none,
    none]
  [SObj.cells [SV.int IntKind.i64 x24, SV.int IntKind.i64 x25, SV.int IntKind.i64 x26, SV.int IntKind.i64 x27] (nat_lit 33), SObj.cells [SV.int IntKind.i64 x28, SV.int IntKind.i64 x29, SV.int IntKind.i64 x30, SV.int IntKind.i64 x31] (nat_lit 33), SObj.cells [SV.int IntKind.i64 x32, SV.int IntKind.i64 x33, SV.int IntKind.i64 x34, SV.int IntKind.i64 x35, SV.int IntKind.i64 x36, SV.int IntKind.i64 x37, SV.int IntKind.i64 x38, SV.int IntKind.i64 x39, SV.int IntKind.i64 x40] (nat_lit 37),
    SObj.cells [SV.int IntKind.i64 x41, SV.int IntKind.i64 x42, SV.int IntKind.i64 x43] (nat_lit 23)])) (Q .ret (St.mk
  [none, none, none, none, some (SV.ptr (nat_lit 0) (nat_lit 0)), none, some (SV.ptr (nat_lit 1) (nat_lit 0)), some (SV.ptr (nat_lit 2) (nat_lit 0)), some (SV.bool false), some (SV.bool x22), none, none, none, none, none, none, none, none, none, none, none, none, none, none, none, none, none, none, none, none, none, none, none, none, none, none, none, none, none, none, none, none, none, none, none, none, none, none, none, none, none, none, none, none, none, none, none, none, none, none, none,
    none, none, none, none, none, none, none, none, none, none, none, none, none, none, none, none, none, none, none, none, none, none, none, none, none, none, none, none, none, none, none, none, none, none, none, none, none, none, none, none, none, none, none, none, none, none, none, none, none, none, none, none, none, none, none, none, none, none, none, none, none, none, none, none, none, none, none, none, none, none, none, none, none, none, none, none]
  [SObj.cells [SV.int IntKind.i64 x24, SV.int IntKind.i64 x25, SV.int IntKind.i64 x26, SV.int IntKind.i64 x27] (nat_lit 33), SObj.cells [SV.int IntKind.i64 x32, SV.int IntKind.i64 x33, SV.int IntKind.i64 x34, SV.int IntKind.i64 x35, SV.int IntKind.i64 x36, SV.int IntKind.i64 x37, SV.int IntKind.i64 x38, SV.int IntKind.i64 x39, SV.int IntKind.i64 x40] (nat_lit 37), SObj.cells [SV.int IntKind.i64 x41, SV.int IntKind.i64 x42, SV.int IntKind.i64 x43] (nat_lit 23)])) (Q (.exit 0) (St.mk
  [none, none, none, none, some (SV.ptr (nat_lit 0) (nat_lit 0)), none, some (SV.ptr (nat_lit 1) (nat_lit 0)), some (SV.ptr (nat_lit 2) (nat_lit 0)), none, some (SV.bool x22), none, none, none, none, none, none, none, none, none, none, none, none, none, none, none, none, none, none, none, none, none, none, none, none, none, none, none, none, none, none, none, none, none, none, none, none, none, none, none, none, none, none, none, none, none, none, none, none, none, none, none, none, none, none,
    none, none, none, none, none, none, none, none, none, none, none, none, none, none, none, none, none, none, none, none, none, none, none, none, none, none, none, none, none, none, none, none, none, none, none, none, none, none, none, none, none, none, none, none, none, none, none, none, none, none, none, none, none, none, none, none, none, none, none, none, none, none, none, none, none, none, none, none, none, none, none, none, none]
  [SObj.cells [SV.int IntKind.i64 x24, SV.int IntKind.i64 x25, SV.int IntKind.i64 x26, SV.int IntKind.i64 x27] (nat_lit 33), SObj.cells [SV.int IntKind.i64 x32, SV.int IntKind.i64 x33, SV.int IntKind.i64 x34, SV.int IntKind.i64 x35, SV.int IntKind.i64 x36, SV.int IntKind.i64 x37, SV.int IntKind.i64 x38, SV.int IntKind.i64 x39, SV.int IntKind.i64 x40] (nat_lit 37), SObj.cells [SV.int IntKind.i64 x41, SV.int IntKind.i64 x42, SV.int IntKind.i64 x43] (nat_lit 23)])) x23 := by kernel_rfl
theorem vturnsL_l0_iter {α : Type} (x22 : Bool) (x24 : Int) (x25 : Int) (x26 : Int) (x27 : Int) (x28 : Int) (x29 : Int) (x30 : Int) (x31 : Int) (x32 : Int) (x33 : Int) (x34 : Int) (x35 : Int) (x36 : Int) (x37 : Int) (x38 : Int) (x39 : Int) (x40 : Int) (x41 : Int) (x42 : Int) (x43 : Int) (Q : Ex → St → Option α) : ∀ (n : Nat) (x23 : Int), iter (loopStep E (exec E look_VecTurns_vback noLps 400) 9 [false, true, false, true, true] 0 (codeAt E.P 9 [false, true, false, true, true])) n (St.mk
  [none, none, none, none, some (SV.ptr (nat_lit 0) (nat_lit 0)), some (SV.ptr (nat_lit 1) (nat_lit 0)), some (SV.ptr (nat_lit 2) (nat_lit 0)), some (SV.ptr (nat_lit 3) (nat_lit 0)), none, some (SV.bool x22), some (SV.int IntKind.i64 x23), none, none, none, none, none, none, none, none, none, none, none, none, none, none, none, none, none, none, none, none, none, none, none, none, none, none, none, none, none, none, none, none, none, none, none, none, none, none, none, none, none, none, none,
    none, none, none, none, none, none, none, none, none, none, none, none, none, none, none, none, none, none, none, none, none, none, none, none, none, none, none, none, none, none, none, none, none, none, none, none, none, none, none, none, none, none, none, none, none, none, none, none, none, none, none, none, none, none, none, none, none, none, none, none, none, none, none, none, none, none, none, none, none, none, none, none, none, none, none, none, none, none, none, none, none, none,
    none]
  [SObj.cells [SV.int IntKind.i64 x24, SV.int IntKind.i64 x25, SV.int IntKind.i64 x26, SV.int IntKind.i64 x27] (nat_lit 33), SObj.cells [SV.int IntKind.i64 x28, SV.int IntKind.i64 x29, SV.int IntKind.i64 x30, SV.int IntKind.i64 x31] (nat_lit 33), SObj.cells [SV.int IntKind.i64 x32, SV.int IntKind.i64 x33, SV.int IntKind.i64 x34, SV.int IntKind.i64 x35, SV.int IntKind.i64 x36, SV.int IntKind.i64 x37, SV.int IntKind.i64 x38, SV.int IntKind.i64 x39, SV.int IntKind.i64 x40] (nat_lit 37),
    SObj.cells [SV.int IntKind.i64 x41, SV.int IntKind.i64 x42, SV.int IntKind.i64 x43] (nat_lit 23)]) Q = Go.Proofs.Ytmcifgaaojgheaa.M.vturnsL_l0 x24 x25 x26 x27 x28 x29 x30 x31 x32 x33 x34 x35 x36 x37 x38 x39 x40 x41 x42 x43 (Q .ret (St.mk
  [none, none, none, none, some (SV.ptr (nat_lit 0) (nat_lit 0)), none, some (SV.ptr (nat_lit 1) (nat_lit 0)), some (SV.ptr (nat_lit 2) (nat_lit 0)), some (SV.bool false), some (SV.bool x22), none, none, none, none, none, none, none, none, none, none, none, none, none, none, none, none, none, none, none, none, none, none, none, none, none, none, none, none, none, none, none, none, none, none, none, none, none, none, none, none, none, none, none, none, none, none, none, none, none, none, none,
    none, none, none, none, none, none, none, none, none, none, none, none, none, none, none, none, none, none, none, none, none, none, none, none, none, none, none, none, none, none, none, none, none, none, none, none, none, none, none, none, none, none, none, none, none, none, none, none, none, none, none, none, none, none, none, none, none, none, none, none, none, none, none, none, none, none, none, none, none, none, none, none, none, none, none, none]
  [SObj.cells [SV.int IntKind.i64 x24, SV.int IntKind.i64 x25, SV.int IntKind.i64 x26, SV.int IntKind.i64 x27] (nat_lit 33), SObj.cells [SV.int IntKind.i64 x32, SV.int IntKind.i64 x33, SV.int IntKind.i64 x34, SV.int IntKind.i64 x35, SV.int IntKind.i64 x36, SV.int IntKind.i64 x37, SV.int IntKind.i64 x38, SV.int IntKind.i64 x39, SV.int IntKind.i64 x40] (nat_lit 37), SObj.cells [SV.int IntKind.i64 x41, SV.int IntKind.i64 x42, SV.int IntKind.i64 x43] (nat_lit 23)])) (Q (.exit 0) (St.mk
  [none, none, none, none, some (SV.ptr (nat_lit 0) (nat_lit 0)), none, some (SV.ptr (nat_lit 1) (nat_lit 0)), some (SV.ptr (nat_lit 2) (nat_lit 0)), none, some (SV.bool x22), none, none, none, none, none, none, none, none, none, none, none, none, none, none, none, none, none, none, none, none, none, none, none, none, none, none, none, none, none, none, none, none, none, none, none, none, none, none, none, none, none, none, none, none, none, none, none, none, none, none, none, none, none, none,
    none, none, none, none, none, none, none, none, none, none, none, none, none, none, none, none, none, none, none, none, none, none, none, none, none, none, none, none, none, none, none, none, none, none, none, none, none, none, none, none, none, none, none, none, none, none, none, none, none, none, none, none, none, none, none, none, none, none, none, none, none, none, none, none, none, none, none, none, none, none, none, none, none]
  [SObj.cells [SV.int IntKind.i64 x24, SV.int IntKind.i64 x25, SV.int IntKind.i64 x26, SV.int IntKind.i64 x27] (nat_lit 33), SObj.cells [SV.int IntKind.i64 x32, SV.int IntKind.i64 x33, SV.int IntKind.i64 x34, SV.int IntKind.i64 x35, SV.int IntKind.i64 x36, SV.int IntKind.i64 x37, SV.int IntKind.i64 x38, SV.int IntKind.i64 x39, SV.int IntKind.i64 x40] (nat_lit 37), SObj.cells [SV.int IntKind.i64 x41, SV.int IntKind.i64 x42, SV.int IntKind.i64 x43] (nat_lit 23)])) n x23
  | 0, _ => rfl
  | n + 1, x23 => (vturnsL_l0_step_eq x22 x23 x24 x25 x26 x27 x28 x29 x30 x31 x32 x33 x34 x35 x36 x37 x38 x39 x40 x41 x42 x43 (iterK (loopStep E (exec E look_VecTurns_vback noLps 400) 9 [false, true, false, true, true] 0 (codeAt E.P 9 [false, true, false, true, true])) n Q)).trans (congrArg (fun kn => Go.Proofs.Ytmcifgaaojgheaa.M.vturnsL_l0_step x24 x25 x26 x27 x28 x29 x30 x31 x32 x33 x34 x35 x36 x37 x38 x39 x40 x41 x42 x43 kn (Q .ret (St.mk
  [none, none, none, none, some (SV.ptr (nat_lit 0) (nat_lit 0)), none, some (SV.ptr (nat_lit 1) (nat_lit 0)), some (SV.ptr (nat_lit 2) (nat_lit 0)), some (SV.bool false), some (SV.bool x22), none, none, none, none, none, none, none, none, none, none, none, none, none, none, none, none, none, none, none, none, none, none, none, none, none, none, none, none, none, none, none, none, none, none, none, none, none, none, none, none, none, none, none, none, none, none, none, none, none, none, none,
    none, none, none, none, none, none, none, none, none, none, none, none, none, none, none, none, none, none, none, none, none, none, none, none, none, none, none, none, none, none, none, none, none, none, none, none, none, none, none, none, none, none, none, none, none, none, none, none, none, none, none, none, none, none, none, none, none, none, none, none, none, none, none, none, none, none, none, none, none, none, none, none, none, none, none, none]
  [SObj.cells [SV.int IntKind.i64 x24, SV.int IntKind.i64 x25, SV.int IntKind.i64 x26, SV.int IntKind.i64 x27] (nat_lit 33), SObj.cells [SV.int IntKind.i64 x32, SV.int IntKind.i64 x33, SV.int IntKind.i64 x34, SV.int IntKind.i64 x35, SV.int IntKind.i64 x36, SV.int IntKind.i64 x37, SV.int IntKind.i64 x38, SV.int IntKind.i64 x39, SV.int IntKind.i64 x40] (nat_lit 37), SObj.cells [SV.int IntKind.i64 x41, SV.int IntKind.i64 x42, SV.int IntKind.i64 x43] (nat_lit 23)])) (Q (.exit 0) (St.mk
  [none, none, none, none, some (SV.ptr (nat_lit 0) (nat_lit 0)), none, some (SV.ptr (nat_lit 1) (nat_lit 0)), some (SV.ptr (nat_lit 2) (nat_lit 0)), none, some (SV.bool x22), none, none, none, none, none, none, none, none, none, none, none, none, none, none, none, none, none, none, none, none, none, none, none, none, none, none, none, none, none, none, none, none, none, none, none, none, none, none, none, none, none, none, none, none, none, none, none, none, none, none, none, none, none, none,
    none, none, none, none, none, none, none, none, none, none, none, none, none, none, none, none, none, none, none, none, none, none, none, none, none, none, none, none, none, none, none, none, none, none, none, none, none, none, none, none, none, none, none, none, none, none, none, none, none, none, none, none, none, none, none, none, none, none, none, none, none, none, none, none, none, none, none, none, none, none, none, none, none]
  [SObj.cells [SV.int IntKind.i64 x24, SV.int IntKind.i64 x25, SV.int IntKind.i64 x26, SV.int IntKind.i64 x27] (nat_lit 33), SObj.cells [SV.int IntKind.i64 x32, SV.int IntKind.i64 x33, SV.int IntKind.i64 x34, SV.int IntKind.i64 x35, SV.int IntKind.i64 x36, SV.int IntKind.i64 x37, SV.int IntKind.i64 x38, SV.int IntKind.i64 x39, SV.int IntKind.i64 x40] (nat_lit 37), SObj.cells [SV.int IntKind.i64 x41, SV.int IntKind.i64 x42, SV.int IntKind.i64 x43] (nat_lit 23)])) x23) (funext fun x23 => vturnsL_l0_iter x22 x24 x25 x26 x27 x28 x29 x30 x31 x32 x33 x34 x35 x36 x37 x38 x39 x40 x41 x42 x43 Q n x23))
noncomputable def vturnsL_l0_go {α : Type} (ds : List D) (Q : Ex → St → Option α) : Option α :=
  dB ds fun x22 ds => dI ds fun x23 ds => dI ds fun x24 ds => dI ds fun x25 ds => dI ds fun x26 ds => dI ds fun x27 ds => dI ds fun x28 ds => dI ds fun x29 ds => dI ds fun x30 ds => dI ds fun x31 ds => dI ds fun x32 ds => dI ds fun x33 ds => dI ds fun x34 ds => dI ds fun x35 ds => dI ds fun x36 ds => dI ds fun x37 ds => dI ds fun x38 ds => dI ds fun x39 ds => dI ds fun x40 ds => dI ds fun x41 ds => dI ds fun x42 ds => dI ds fun x43 ds => dE ds (Go.Proofs.Ytmcifgaaojgheaa.M.vturnsL_l0 x24 x25 x26 x27 x28 x29 x30 x31 x32 x33 x34 x35 x36 x37 x38 x39 x40 x41 x42 x43 (Q .ret (St.mk
  [none, none, none, none, some (SV.ptr (nat_lit 0) (nat_lit 0)), none, some (SV.ptr (nat_lit 1) (nat_lit 0)), some (SV.ptr (nat_lit 2) (nat_lit 0)), some (SV.bool false), some (SV.bool x22), none, none, none, none, none, none, none, none, none, none, none, none, none, none, none, none, none, none, none, none, none, none, none, none, none, none, none, none, none, none, none, none, none, none, none, none, none, none, none, none, none, none, none, none, none, none, none, none, none, none, none,
    none, none, none, none, none, none, none, none, none, none, none, none, none, none, none, none, none, none, none, none, none, none, none, none, none, none, none, none, none, none, none, none, none, none, none, none, none, none, none, none, none, none, none, none, none, none, none, none, none, none, none, none, none, none, none, none, none, none, none, none, none, none, none, none, none, none, none, none, none, none, none, none, none, none, none, none]
  [SObj.cells [SV.int IntKind.i64 x24, SV.int IntKind.i64 x25, SV.int IntKind.i64 x26, SV.int IntKind.i64 x27] (nat_lit 33), SObj.cells [SV.int IntKind.i64 x32, SV.int IntKind.i64 x33, SV.int IntKind.i64 x34, SV.int IntKind.i64 x35, SV.int IntKind.i64 x36, SV.int IntKind.i64 x37, SV.int IntKind.i64 x38, SV.int IntKind.i64 x39, SV.int IntKind.i64 x40] (nat_lit 37), SObj.cells [SV.int IntKind.i64 x41, SV.int IntKind.i64 x42, SV.int IntKind.i64 x43] (nat_lit 23)])) (Q (.exit 0) (St.mk
  [none, none, none, none, some (SV.ptr (nat_lit 0) (nat_lit 0)), none, some (SV.ptr (nat_lit 1) (nat_lit 0)), some (SV.ptr (nat_lit 2) (nat_lit 0)), none, some (SV.bool x22), none, none, none, none, none, none, none, none, none, none, none, none, none, none, none, none, none, none, none, none, none, none, none, none, none, none, none, none, none, none, none, none, none, none, none, none, none, none, none, none, none, none, none, none, none, none, none, none, none, none, none, none, none, none,
    none, none, none, none, none, none, none, none, none, none, none, none, none, none, none, none, none, none, none, none, none, none, none, none, none, none, none, none, none, none, none, none, none, none, none, none, none, none, none, none, none, none, none, none, none, none, none, none, none, none, none, none, none, none, none, none, none, none, none, none, none, none, none, none, none, none, none, none, none, none, none, none, none]
  [SObj.cells [SV.int IntKind.i64 x24, SV.int IntKind.i64 x25, SV.int IntKind.i64 x26, SV.int IntKind.i64 x27] (nat_lit 33), SObj.cells [SV.int IntKind.i64 x32, SV.int IntKind.i64 x33, SV.int IntKind.i64 x34, SV.int IntKind.i64 x35, SV.int IntKind.i64 x36, SV.int IntKind.i64 x37, SV.int IntKind.i64 x38, SV.int IntKind.i64 x39, SV.int IntKind.i64 x40] (nat_lit 37), SObj.cells [SV.int IntKind.i64 x41, SV.int IntKind.i64 x42, SV.int IntKind.i64 x43] (nat_lit 23)])) (100) x23)
theorem vturnsL_l0_ok {α : Type} : LoopOk E.P 9 [false, true, false, true, true] 0 (lEnt (α := α) (St.mk
  [none, none, none, none, some (SV.ptr (nat_lit 0) (nat_lit 0)), some (SV.ptr (nat_lit 1) (nat_lit 0)), some (SV.ptr (nat_lit 2) (nat_lit 0)), some (SV.ptr (nat_lit 3) (nat_lit 0)), none, some (SV.bool false), some (SV.int IntKind.i64 (0 : Int)), none, none, none, none, none, none, none, none, none, none, none, none, none, none, none, none, none, none, none, none, none, none, none, none, none, none, none, none, none, none, none, none, none, none, none, none, none, none, none, none, none, none,
    none, none, none, none, none, none, none, none, none, none, none, none, none, none, none, none, none, none, none, none, none, none, none, none, none, none, none, none, none, none, none, none, none, none, none, none, none, none, none, none, none, none, none, none, none, none, none, none, none, none, none, none, none, none, none, none, none, none, none, none, none, none, none, none, none, none, none, none, none, none, none, none, none, none, none, none, none, none, none, none, none, none,
    none, none]
  [SObj.cells [SV.int IntKind.i64 (0 : Int), SV.int IntKind.i64 (0 : Int), SV.int IntKind.i64 (0 : Int), SV.int IntKind.i64 (0 : Int)] (nat_lit 33), SObj.cells [SV.int IntKind.i64 (0 : Int), SV.int IntKind.i64 (0 : Int), SV.int IntKind.i64 (0 : Int), SV.int IntKind.i64 (0 : Int)] (nat_lit 33),
    SObj.cells [SV.int IntKind.i64 (0 : Int), SV.int IntKind.i64 (0 : Int), SV.int IntKind.i64 (0 : Int), SV.int IntKind.i64 (0 : Int), SV.int IntKind.i64 (0 : Int), SV.int IntKind.i64 (0 : Int), SV.int IntKind.i64 (0 : Int), SV.int IntKind.i64 (0 : Int), SV.int IntKind.i64 (0 : Int)] (nat_lit 37), SObj.cells [SV.int IntKind.i64 (0 : Int), SV.int IntKind.i64 (0 : Int), SV.int IntKind.i64 (0 : Int)] (nat_lit 23)]) vturnsL_l0_go) :=
  lEnt_ok E (exec_sound E E_ok (look_VecTurns_vback_ok) (noLps_ok _) 400) fun ds Q r h S hS => by
    unfold vturnsL_l0_go at h
    obtain ⟨x22, ds, rfl, h1⟩ := dB_inv h
    obtain ⟨x23, ds, rfl, h2⟩ := dI_inv h1
    obtain ⟨x24, ds, rfl, h3⟩ := dI_inv h2
    obtain ⟨x25, ds, rfl, h4⟩ := dI_inv h3
    obtain ⟨x26, ds, rfl, h5⟩ := dI_inv h4
    obtain ⟨x27, ds, rfl, h6⟩ := dI_inv h5
    obtain ⟨x28, ds, rfl, h7⟩ := dI_inv h6
    obtain ⟨x29, ds, rfl, h8⟩ := dI_inv h7
    obtain ⟨x30, ds, rfl, h9⟩ := dI_inv h8
    obtain ⟨x31, ds, rfl, h10⟩ := dI_inv h9
    obtain ⟨x32, ds, rfl, h11⟩ := dI_inv h10
    obtain ⟨x33, ds, rfl, h12⟩ := dI_inv h11
    obtain ⟨x34, ds, rfl, h13⟩ := dI_inv h12
    obtain ⟨x35, ds, rfl, h14⟩ := dI_inv h13
    obtain ⟨x36, ds, rfl, h15⟩ := dI_inv h14
    obtain ⟨x37, ds, rfl, h16⟩ := dI_inv h15
    obtain ⟨x38, ds, rfl, h17⟩ := dI_inv h16
    obtain ⟨x39, ds, rfl, h18⟩ := dI_inv h17
    obtain ⟨x40, ds, rfl, h19⟩ := dI_inv h18
    obtain ⟨x41, ds, rfl, h20⟩ := dI_inv h19
    obtain ⟨x42, ds, rfl, h21⟩ := dI_inv h20
    obtain ⟨x43, ds, rfl, h22⟩ := dI_inv h21
    obtain ⟨rfl, hE⟩ := dE_inv h22
    have e : fillS (St.mk
  [none, none, none, none, some (SV.ptr (nat_lit 0) (nat_lit 0)), some (SV.ptr (nat_lit 1) (nat_lit 0)), some (SV.ptr (nat_lit 2) (nat_lit 0)), some (SV.ptr (nat_lit 3) (nat_lit 0)), none, some (SV.bool false), some (SV.int IntKind.i64 (0 : Int)), none, none, none, none, none, none, none, none, none, none, none, none, none, none, none, none, none, none, none, none, none, none, none, none, none, none, none, none, none, none, none, none, none, none, none, none, none, none, none, none, none, none,
    none, none, none, none, none, none, none, none, none, none, none, none, none, none, none, none, none, none, none, none, none, none, none, none, none, none, none, none, none, none, none, none, none, none, none, none, none, none, none, none, none, none, none, none, none, none, none, none, none, none, none, none, none, none, none, none, none, none, none, none, none, none, none, none, none, none, none, none, none, none, none, none, none, none, none, none, none, none, none, none, none, none,
    none, none]
  [SObj.cells [SV.int IntKind.i64 (0 : Int), SV.int IntKind.i64 (0 : Int), SV.int IntKind.i64 (0 : Int), SV.int IntKind.i64 (0 : Int)] (nat_lit 33), SObj.cells [SV.int IntKind.i64 (0 : Int), SV.int IntKind.i64 (0 : Int), SV.int IntKind.i64 (0 : Int), SV.int IntKind.i64 (0 : Int)] (nat_lit 33),
    SObj.cells [SV.int IntKind.i64 (0 : Int), SV.int IntKind.i64 (0 : Int), SV.int IntKind.i64 (0 : Int), SV.int IntKind.i64 (0 : Int), SV.int IntKind.i64 (0 : Int), SV.int IntKind.i64 (0 : Int), SV.int IntKind.i64 (0 : Int), SV.int IntKind.i64 (0 : Int), SV.int IntKind.i64 (0 : Int)] (nat_lit 37), SObj.cells [SV.int IntKind.i64 (0 : Int), SV.int IntKind.i64 (0 : Int), SV.int IntKind.i64 (0 : Int)] (nat_lit 23)]) [.b x22, .i x23, .i x24, .i x25, .i x26, .i x27, .i x28, .i x29, .i x30, .i x31, .i x32, .i x33, .i x34, .i x35, .i x36, .i x37, .i x38, .i x39, .i x40, .i x41, .i x42, .i x43] = some (St.mk
  [none, none, none, none, some (SV.ptr (nat_lit 0) (nat_lit 0)), some (SV.ptr (nat_lit 1) (nat_lit 0)), some (SV.ptr (nat_lit 2) (nat_lit 0)), some (SV.ptr (nat_lit 3) (nat_lit 0)), none, some (SV.bool x22), some (SV.int IntKind.i64 x23), none, none, none, none, none, none, none, none, none, none, none, none, none, none, none, none, none, none, none, none, none, none, none, none, none, none, none, none, none, none, none, none, none, none, none, none, none, none, none, none, none, none, none,
    none, none, none, none, none, none, none, none, none, none, none, none, none, none, none, none, none, none, none, none, none, none, none, none, none, none, none, none, none, none, none, none, none, none, none, none, none, none, none, none, none, none, none, none, none, none, none, none, none, none, none, none, none, none, none, none, none, none, none, none, none, none, none, none, none, none, none, none, none, none, none, none, none, none, none, none, none, none, none, none, none, none,
    none]
  [SObj.cells [SV.int IntKind.i64 x24, SV.int IntKind.i64 x25, SV.int IntKind.i64 x26, SV.int IntKind.i64 x27] (nat_lit 33), SObj.cells [SV.int IntKind.i64 x28, SV.int IntKind.i64 x29, SV.int IntKind.i64 x30, SV.int IntKind.i64 x31] (nat_lit 33), SObj.cells [SV.int IntKind.i64 x32, SV.int IntKind.i64 x33, SV.int IntKind.i64 x34, SV.int IntKind.i64 x35, SV.int IntKind.i64 x36, SV.int IntKind.i64 x37, SV.int IntKind.i64 x38, SV.int IntKind.i64 x39, SV.int IntKind.i64 x40] (nat_lit 37),
    SObj.cells [SV.int IntKind.i64 x41, SV.int IntKind.i64 x42, SV.int IntKind.i64 x43] (nat_lit 23)]) := by kernel_rfl
    rw [e] at hS
    cases hS
    exact ⟨_, (vturnsL_l0_iter x22 x24 x25 x26 x27 x28 x29 x30 x31 x32 x33 x34 x35 x36 x37 x38 x39 x40 x41 x42 x43 Q _ x23).trans hE⟩
noncomputable def vturnsL_l0_lps {α : Type} : LookL α := addLp 9 [false, true, false, true, true] 0 (lEnt (St.mk
  [none, none, none, none, some (SV.ptr (nat_lit 0) (nat_lit 0)), some (SV.ptr (nat_lit 1) (nat_lit 0)), some (SV.ptr (nat_lit 2) (nat_lit 0)), some (SV.ptr (nat_lit 3) (nat_lit 0)), none, some (SV.bool false), some (SV.int IntKind.i64 (0 : Int)), none, none, none, none, none, none, none, none, none, none, none, none, none, none, none, none, none, none, none, none, none, none, none, none, none, none, none, none, none, none, none, none, none, none, none, none, none, none, none, none, none, none,
    none, none, none, none, none, none, none, none, none, none, none, none, none, none, none, none, none, none, none, none, none, none, none, none, none, none, none, none, none, none, none, none, none, none, none, none, none, none, none, none, none, none, none, none, none, none, none, none, none, none, none, none, none, none, none, none, none, none, none, none, none, none, none, none, none, none, none, none, none, none, none, none, none, none, none, none, none, none, none, none, none, none,
    none, none]
  [SObj.cells [SV.int IntKind.i64 (0 : Int), SV.int IntKind.i64 (0 : Int), SV.int IntKind.i64 (0 : Int), SV.int IntKind.i64 (0 : Int)] (nat_lit 33), SObj.cells [SV.int IntKind.i64 (0 : Int), SV.int IntKind.i64 (0 : Int), SV.int IntKind.i64 (0 : Int), SV.int IntKind.i64 (0 : Int)] (nat_lit 33),
    SObj.cells [SV.int IntKind.i64 (0 : Int), SV.int IntKind.i64 (0 : Int), SV.int IntKind.i64 (0 : Int), SV.int IntKind.i64 (0 : Int), SV.int IntKind.i64 (0 : Int), SV.int IntKind.i64 (0 : Int), SV.int IntKind.i64 (0 : Int), SV.int IntKind.i64 (0 : Int), SV.int IntKind.i64 (0 : Int)] (nat_lit 37), SObj.cells [SV.int IntKind.i64 (0 : Int), SV.int IntKind.i64 (0 : Int), SV.int IntKind.i64 (0 : Int)] (nat_lit 23)]) vturnsL_l0_go) noLps
theorem vturnsL_l0_lps_ok {α : Type} : LoopsOk E.P (vturnsL_l0_lps (α := α)) := addLp_ok vturnsL_l0_ok (noLps_ok _)

noncomputable def _root_.Go.Proofs.Ytmcifgaaojgheaa.M.vturnsL {α : Type} (pw : Int) (px : Int) (p_y : Int) (pz : Int) (qw : Int) (qx : Int) (qy : Int) (qz : Int) (m0 : Int) (m1 : Int) (m2 : Int) (m3 : Int) (m4 : Int) (m5 : Int) (m6 : Int) (m7 : Int) (m8 : Int) (ax : Int) (ay : Int) (az : Int) (k0 : Bool → Option α) : Option α :=
  M.vturnsL_l0 pw px p_y pz qw qx qy qz m0 m1 m2 m3 m4 m5 m6 m7 m8 ax ay az (k0 false)
  (if
      (cEq (V.m0 (V.tRows (pw, px, p_y, pz))) (V.m0 (V.tRows (pw, px, p_y, pz))) && (cEq (V.m1 (V.tRows (pw, px, p_y, pz))) (V.m1 (V.tRows (pw, px, p_y, pz))) && (cEq (V.m2 (V.tRows (pw, px, p_y, pz))) (V.m2 (V.tRows (pw, px, p_y, pz))) && true)) &&
          (cEq (V.m3 (V.tRows (pw, px, p_y, pz))) (V.m3 (V.tRows (pw, px, p_y, pz))) && (cEq (V.m4 (V.tRows (pw, px, p_y, pz))) (V.m4 (V.tRows (pw, px, p_y, pz))) && (cEq (V.m5 (V.tRows (pw, px, p_y, pz))) (V.m5 (V.tRows (pw, px, p_y, pz))) && true)) &&
            (cEq (V.m6 (V.tRows (pw, px, p_y, pz))) (V.m6 (V.tRows (pw, px, p_y, pz))) && (cEq (V.m7 (V.tRows (pw, px, p_y, pz))) (V.m7 (V.tRows (pw, px, p_y, pz))) && (cEq (V.m8 (V.tRows (pw, px, p_y, pz))) (V.m8 (V.tRows (pw, px, p_y, pz))) && true)) && true))) =
        true then
    if (cEq (V.x3 (V.tBack ((m0, m1, m2), (m3, m4, m5), m6, m7, m8) (ax, ay, az))) (V.x3 (V.tBack ((m0, m1, m2), (m3, m4, m5), m6, m7, m8) (ax, ay, az))) && (cEq (V.y3 (V.tBack ((m0, m1, m2), (m3, m4, m5), m6, m7, m8) (ax, ay, az))) (V.y3 (V.tBack ((m0, m1, m2), (m3, m4, m5), m6, m7, m8) (ax, ay, az))) && (cEq (V.z3 (V.tBack ((m0, m1, m2), (m3, m4, m5), m6, m7, m8) (ax, ay, az))) (V.z3 (V.tBack ((m0, m1, m2), (m3, m4, m5), m6, m7, m8) (ax, ay, az))) && true))) = true then
      k0 (V.on (V.tBack ((m0, m1, m2), (m3, m4, m5), m6, m7, m8) (ax, ay, az)) (V.on (V.tRows (pw, px, p_y, pz)) false) == V.on (V.tBack ((m0, m1, m2), (m3, m4, m5), m6, m7, m8) (ax, ay, az)) (V.on (V.tRows (pw, px, p_y, pz)) false))
    else k0 false
  else k0 false)
  (100 : Nat) (0 : Int)
theorem vturnsL_eq {α : Type} (pw : Int) (px : Int) (p_y : Int) (pz : Int) (qw : Int) (qx : Int) (qy : Int) (qz : Int) (m0 : Int) (m1 : Int) (m2 : Int) (m3 : Int) (m4 : Int) (m5 : Int) (m6 : Int) (m7 : Int) (m8 : Int) (ax : Int) (ay : Int) (az : Int) (Q : SV → Hp → Option α) : callI E look_VecTurns_vback (exec E look_VecTurns_vback vturnsL_l0_lps 400) 9 ([SV.agg [SV.int IntKind.i64 pw, SV.int IntKind.i64 px, SV.int IntKind.i64 p_y, SV.int IntKind.i64 pz], SV.agg [SV.int IntKind.i64 qw, SV.int IntKind.i64 qx, SV.int IntKind.i64 qy, SV.int IntKind.i64 qz], SV.agg [SV.int IntKind.i64 m0, SV.int IntKind.i64 m1, SV.int IntKind.i64 m2, SV.int IntKind.i64 m3, SV.int IntKind.i64 m4, SV.int IntKind.i64 m5, SV.int IntKind.i64 m6, SV.int IntKind.i64 m7, SV.int IntKind.i64 m8], SV.agg [SV.int IntKind.i64 ax, SV.int IntKind.i64 ay, SV.int IntKind.i64 az]]) ([]) Q = Go.Proofs.Ytmcifgaaojgheaa.M.vturnsL pw px p_y pz qw qx qy qz m0 m1 m2 m3 m4 m5 m6 m7 m8 ax ay az (fun (x45 : Bool) => Q (SV.bool x45) ([])) := by kernel_rfl
def vturnsL_sp : List AS := [.val (.agg [.int .i64 0, .int .i64 0, .int .i64 0, .int .i64 0]), .val (.agg [.int .i64 0, .int .i64 0, .int .i64 0, .int .i64 0]), .val (.agg [.int .i64 0, .int .i64 0, .int .i64 0, .int .i64 0, .int .i64 0, .int .i64 0, .int .i64 0, .int .i64 0, .int .i64 0]), .val (.agg [.int .i64 0, .int .i64 0, .int .i64 0])]
noncomputable def vturnsL_go {α : Type} (ds : List D) (Q : SV → Hp → Option α) : Option α :=
  dI ds fun pw ds => dI ds fun px ds => dI ds fun p_y ds => dI ds fun pz ds => dI ds fun qw ds => dI ds fun qx ds => dI ds fun qy ds => dI ds fun qz ds => dI ds fun m0 ds => dI ds fun m1 ds => dI ds fun m2 ds => dI ds fun m3 ds => dI ds fun m4 ds => dI ds fun m5 ds => dI ds fun m6 ds => dI ds fun m7 ds => dI ds fun m8 ds => dI ds fun ax ds => dI ds fun ay ds => dI ds fun az ds => dE ds (Go.Proofs.Ytmcifgaaojgheaa.M.vturnsL pw px p_y pz qw qx qy qz m0 m1 m2 m3 m4 m5 m6 m7 m8 ax ay az (fun (x45 : Bool) => Q (SV.bool x45) ([])))
theorem vturnsL_ok {α : Type} : FnOk E.P 9 (fEnt (α := α) vturnsL_sp vturnsL_go) :=
  fEnt_ok E (look_VecTurns_vback_ok) (exec_sound E E_ok (look_VecTurns_vback_ok) (vturnsL_l0_lps_ok) 400) fun ds Q r h => by
    unfold vturnsL_go at h
    obtain ⟨pw, ds, rfl, h1⟩ := dI_inv h
    obtain ⟨px, ds, rfl, h2⟩ := dI_inv h1
    obtain ⟨p_y, ds, rfl, h3⟩ := dI_inv h2
    obtain ⟨pz, ds, rfl, h4⟩ := dI_inv h3
    obtain ⟨qw, ds, rfl, h5⟩ := dI_inv h4
    obtain ⟨qx, ds, rfl, h6⟩ := dI_inv h5
    obtain ⟨qy, ds, rfl, h7⟩ := dI_inv h6
    obtain ⟨qz, ds, rfl, h8⟩ := dI_inv h7
    obtain ⟨m0, ds, rfl, h9⟩ := dI_inv h8
    obtain ⟨m1, ds, rfl, h10⟩ := dI_inv h9
    obtain ⟨m2, ds, rfl, h11⟩ := dI_inv h10
    obtain ⟨m3, ds, rfl, h12⟩ := dI_inv h11
    obtain ⟨m4, ds, rfl, h13⟩ := dI_inv h12
    obtain ⟨m5, ds, rfl, h14⟩ := dI_inv h13
    obtain ⟨m6, ds, rfl, h15⟩ := dI_inv h14
    obtain ⟨m7, ds, rfl, h16⟩ := dI_inv h15
    obtain ⟨m8, ds, rfl, h17⟩ := dI_inv h16
    obtain ⟨ax, ds, rfl, h18⟩ := dI_inv h17
    obtain ⟨ay, ds, rfl, h19⟩ := dI_inv h18
    obtain ⟨az, ds, rfl, h20⟩ := dI_inv h19
    obtain ⟨rfl, hE⟩ := dE_inv h20
    exact ⟨[SV.agg [SV.int IntKind.i64 pw, SV.int IntKind.i64 px, SV.int IntKind.i64 p_y, SV.int IntKind.i64 pz], SV.agg [SV.int IntKind.i64 qw, SV.int IntKind.i64 qx, SV.int IntKind.i64 qy, SV.int IntKind.i64 qz], SV.agg [SV.int IntKind.i64 m0, SV.int IntKind.i64 m1, SV.int IntKind.i64 m2, SV.int IntKind.i64 m3, SV.int IntKind.i64 m4, SV.int IntKind.i64 m5, SV.int IntKind.i64 m6, SV.int IntKind.i64 m7, SV.int IntKind.i64 m8], SV.agg [SV.int IntKind.i64 ax, SV.int IntKind.i64 ay, SV.int IntKind.i64 az]], [], fun vs => by kernel_rfl, (vturnsL_eq pw px p_y pz qw qx qy qz m0 m1 m2 m3 m4 m5 m6 m7 m8 ax ay az Q).trans hE⟩
--##
theorem turns_step {α : Type} (pw px p_y pz qw qx qy qz m0 m1 m2 m3 m4 m5 m6 m7 m8 ax ay az : Int) (kn : Int → Option α) (k0 k2 : Option α) (i : Int) : M.vturnsL_l0_step pw px p_y pz qw qx qy qz m0 m1 m2 m3 m4 m5 m6 m7 m8 ax ay az kn k0 k2 i = if i < 4 then kn (IntKind.wrap .i64 (i + 1)) else k2 := by
  unfold M.vturnsL_l0_step
  simp only [cEq_eq, cLt_eq, beq_self_eq_true, Bool.and_self, Bool.not_true, Bool.false_eq_true, if_false, ite_self, decide_eq_true_eq]
theorem vturnsL_v {α : Type} (pw px p_y pz qw qx qy qz m0 m1 m2 m3 m4 m5 m6 m7 m8 ax ay az : Int) (k0 : Bool → Option α) : M.vturnsL pw px p_y pz qw qx qy qz m0 m1 m2 m3 m4 m5 m6 m7 m8 ax ay az k0 = k0 true := by
  have w1 : IntKind.wrap .i64 1 = 1 := by decide
  have w2 : IntKind.wrap .i64 2 = 2 := by decide
  have w3 : IntKind.wrap .i64 3 = 3 := by decide
  have w4 : IntKind.wrap .i64 4 = 4 := by decide
  have w5 : IntKind.wrap .i64 5 = 5 := by decide
  have w6 : IntKind.wrap .i64 6 = 6 := by decide
  have w7 : IntKind.wrap .i64 7 = 7 := by decide
  unfold M.vturnsL
  simp only [cEq_eq, beq_self_eq_true, Bool.and_self, if_true]
  rw [show (100 : Nat) = 95 + 5 from rfl]
  simp [M.vturnsL_l0, turns_step, w1, w2, w3, w4, w5, w6, w7]
noncomputable def vturnsL_h {α : Type} (ds : List D) (Q : SV → Hp → Option α) : Option α :=
  dI ds fun pw ds => dI ds fun px ds => dI ds fun p_y ds => dI ds fun pz ds => dI ds fun qw ds => dI ds fun qx ds => dI ds fun qy ds => dI ds fun qz ds => dI ds fun m0 ds => dI ds fun m1 ds => dI ds fun m2 ds => dI ds fun m3 ds => dI ds fun m4 ds => dI ds fun m5 ds => dI ds fun m6 ds => dI ds fun m7 ds => dI ds fun m8 ds => dI ds fun ax ds => dI ds fun ay ds => dI ds fun az ds => dE ds (Q (.bool true) ([]))
theorem vturnsL_h_ok {α : Type} : FnOk E.P 9 (fEnt (α := α) vturnsL_sp vturnsL_h) :=
  fEnt_ok E (look_VecTurns_vback_ok) (exec_sound E E_ok (look_VecTurns_vback_ok) (vturnsL_l0_lps_ok) 400) fun ds Q r h => by
    unfold vturnsL_h at h
    obtain ⟨pw, ds, rfl, h1⟩ := dI_inv h
    obtain ⟨px, ds, rfl, h2⟩ := dI_inv h1
    obtain ⟨p_y, ds, rfl, h3⟩ := dI_inv h2
    obtain ⟨pz, ds, rfl, h4⟩ := dI_inv h3
    obtain ⟨qw, ds, rfl, h5⟩ := dI_inv h4
    obtain ⟨qx, ds, rfl, h6⟩ := dI_inv h5
    obtain ⟨qy, ds, rfl, h7⟩ := dI_inv h6
    obtain ⟨qz, ds, rfl, h8⟩ := dI_inv h7
    obtain ⟨m0, ds, rfl, h9⟩ := dI_inv h8
    obtain ⟨m1, ds, rfl, h10⟩ := dI_inv h9
    obtain ⟨m2, ds, rfl, h11⟩ := dI_inv h10
    obtain ⟨m3, ds, rfl, h12⟩ := dI_inv h11
    obtain ⟨m4, ds, rfl, h13⟩ := dI_inv h12
    obtain ⟨m5, ds, rfl, h14⟩ := dI_inv h13
    obtain ⟨m6, ds, rfl, h15⟩ := dI_inv h14
    obtain ⟨m7, ds, rfl, h16⟩ := dI_inv h15
    obtain ⟨m8, ds, rfl, h17⟩ := dI_inv h16
    obtain ⟨ax, ds, rfl, h18⟩ := dI_inv h17
    obtain ⟨ay, ds, rfl, h19⟩ := dI_inv h18
    obtain ⟨az, ds, rfl, h20⟩ := dI_inv h19
    obtain ⟨rfl, hE⟩ := dE_inv h20
    exact ⟨[SV.agg [SV.int IntKind.i64 pw, SV.int IntKind.i64 px, SV.int IntKind.i64 p_y, SV.int IntKind.i64 pz], SV.agg [SV.int IntKind.i64 qw, SV.int IntKind.i64 qx, SV.int IntKind.i64 qy, SV.int IntKind.i64 qz], SV.agg [SV.int IntKind.i64 m0, SV.int IntKind.i64 m1, SV.int IntKind.i64 m2, SV.int IntKind.i64 m3, SV.int IntKind.i64 m4, SV.int IntKind.i64 m5, SV.int IntKind.i64 m6, SV.int IntKind.i64 m7, SV.int IntKind.i64 m8], SV.agg [SV.int IntKind.i64 ax, SV.int IntKind.i64 ay, SV.int IntKind.i64 az]], [], fun vs => by kernel_rfl, (vturnsL_eq pw px p_y pz qw qx qy qz m0 m1 m2 m3 m4 m5 m6 m7 m8 ax ay az Q).trans ((vturnsL_v pw px p_y pz qw qx qy qz m0 m1 m2 m3 m4 m5 m6 m7 m8 ax ay az _).trans hE)⟩
end Go.Proofs.Ytmcifgaaojgheaa.Sx
