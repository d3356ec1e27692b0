/- vec: what the document reckons. -/
import Derived.Test.YtmcifgaaojgheaaVecV
import Derived.Test.YtmcifgaaojgheaaFxR8
namespace Go.Proofs.Ytmcifgaaojgheaa.Sx
open Go
set_option maxRecDepth 20000
set_option linter.unusedVariables false
set_option linter.unusedSimpArgs false
noncomputable def _root_.Go.Proofs.Ytmcifgaaojgheaa.M.dvadd {α : Type} (bad : Bool) (ax : Int) (ay : Int) (az : Int) (bx : Int) (b_y : Int) (bz : Int) (k0 : Int → Int → Int → Bool → Option α) : Option α :=
  if bad = true then if (!!V.gn (V.mAdd az bz) (V.gn (V.mAdd ay b_y) (V.gn (V.mAdd ax bx) false))) = true then k0 (0 : Int) (0 : Int) (0 : Int) true else k0 (V.gv (V.mAdd ax bx)) (V.gv (V.mAdd ay b_y)) (V.gv (V.mAdd az bz)) true
else if (!!V.gn (V.mAdd az bz) (V.gn (V.mAdd ay b_y) (V.gn (V.mAdd ax bx) false))) = true then k0 (0 : Int) (0 : Int) (0 : Int) (V.gn (V.mAdd az bz) (V.gn (V.mAdd ay b_y) (V.gn (V.mAdd ax bx) false))) else k0 (V.gv (V.mAdd ax bx)) (V.gv (V.mAdd ay b_y)) (V.gv (V.mAdd az bz)) (V.gn (V.mAdd az bz) (V.gn (V.mAdd ay b_y) (V.gn (V.mAdd ax bx) false)))
theorem dvadd_eq {α : Type} (bad : Bool) (ax : Int) (ay : Int) (az : Int) (bx : Int) (b_y : Int) (bz : Int) (Q : SV → Hp → Option α) : callI E look_rdiv2 (exec E look_rdiv2 noLps 400) 24 ([SV.ptr (nat_lit 0) (nat_lit 0), SV.agg [SV.int IntKind.i64 ax, SV.int IntKind.i64 ay, SV.int IntKind.i64 az], SV.agg [SV.int IntKind.i64 bx, SV.int IntKind.i64 b_y, SV.int IntKind.i64 bz]]) ([SObj.cells [SV.bool bad] (nat_lit 51)]) Q = Go.Proofs.Ytmcifgaaojgheaa.M.dvadd bad ax ay az bx b_y bz (fun (x0 : Int) (x1 : Int) (x2 : Int) (x3 : Bool) => Q (SV.agg [SV.int IntKind.i64 x0, SV.int IntKind.i64 x1, SV.int IntKind.i64 x2]) ([SObj.cells [SV.bool x3] (nat_lit 51)])) := by kernel_rfl
def dvadd_sp : List AS := [.ptr 51 [.bool false], .val (.agg [.int .i64 0, .int .i64 0, .int .i64 0]), .val (.agg [.int .i64 0, .int .i64 0, .int .i64 0])]
noncomputable def dvadd_go {α : Type} (ds : List D) (Q : SV → Hp → Option α) : Option α :=
  dB ds fun bad ds => dI ds fun ax ds => dI ds fun ay ds => dI ds fun az ds => dI ds fun bx ds => dI ds fun b_y ds => dI ds fun bz ds => dE ds (Go.Proofs.Ytmcifgaaojgheaa.M.dvadd bad ax ay az bx b_y bz (fun (x0 : Int) (x1 : Int) (x2 : Int) (x3 : Bool) => Q (SV.agg [SV.int IntKind.i64 x0, SV.int IntKind.i64 x1, SV.int IntKind.i64 x2]) ([SObj.cells [SV.bool x3] (nat_lit 51)])))
theorem dvadd_ok {α : Type} : FnOk E.P 24 (fEnt (α := α) dvadd_sp dvadd_go) :=
  fEnt_ok E (look_rdiv2_ok) (exec_sound E E_ok (look_rdiv2_ok) (noLps_ok _) 400) fun ds Q r h => by
    unfold dvadd_go at h
    obtain ⟨bad, ds, rfl, h1⟩ := dB_inv h
    obtain ⟨ax, ds, rfl, h2⟩ := dI_inv h1
    obtain ⟨ay, ds, rfl, h3⟩ := dI_inv h2
    obtain ⟨az, ds, rfl, h4⟩ := dI_inv h3
    obtain ⟨bx, ds, rfl, h5⟩ := dI_inv h4
    obtain ⟨b_y, ds, rfl, h6⟩ := dI_inv h5
    obtain ⟨bz, ds, rfl, h7⟩ := dI_inv h6
    obtain ⟨rfl, hE⟩ := dE_inv h7
    exact ⟨[SV.ptr (nat_lit 0) (nat_lit 0), SV.agg [SV.int IntKind.i64 ax, SV.int IntKind.i64 ay, SV.int IntKind.i64 az], SV.agg [SV.int IntKind.i64 bx, SV.int IntKind.i64 b_y, SV.int IntKind.i64 bz]], [SObj.cells [SV.bool bad] (nat_lit 51)], fun vs => by kernel_rfl, (dvadd_eq bad ax ay az bx b_y bz Q).trans hE⟩
theorem dvadd_v {α : Type} (bad : Bool) (ax : Int) (ay : Int) (az : Int) (bx : Int) (b_y : Int) (bz : Int) (k0 : Int → Int → Int → Bool → Option α) : M.dvadd bad ax ay az bx b_y bz k0 = k0 (V.x3 (V.tAdd (ax, ay, az) (bx, b_y, bz))) (V.y3 (V.tAdd (ax, ay, az) (bx, b_y, bz))) (V.z3 (V.tAdd (ax, ay, az) (bx, b_y, bz))) (V.on (V.tAdd (ax, ay, az) (bx, b_y, bz)) bad) := by
  unfold M.dvadd V.tAdd V.t3
  generalize V.mAdd ax bx = o0
  generalize V.mAdd ay b_y = o1
  generalize V.mAdd az bz = o2
  cases bad <;> cases o0 <;> cases o1 <;> cases o2 <;> rfl
noncomputable def dvadd_h {α : Type} (ds : List D) (Q : SV → Hp → Option α) : Option α :=
  dB ds fun bad ds => dI ds fun ax ds => dI ds fun ay ds => dI ds fun az ds => dI ds fun bx ds => dI ds fun b_y ds => dI ds fun bz ds => dE ds (Q (.agg [.int .i64 (V.x3 (V.tAdd (ax, ay, az) (bx, b_y, bz))), .int .i64 (V.y3 (V.tAdd (ax, ay, az) (bx, b_y, bz))), .int .i64 (V.z3 (V.tAdd (ax, ay, az) (bx, b_y, bz)))]) ([.cells [.bool (V.on (V.tAdd (ax, ay, az) (bx, b_y, bz)) bad)] 51]))
theorem dvadd_h_ok {α : Type} : FnOk E.P 24 (fEnt (α := α) dvadd_sp dvadd_h) :=
  fEnt_ok E (look_rdiv2_ok) (exec_sound E E_ok (look_rdiv2_ok) (noLps_ok _) 400) fun ds Q r h => by
    unfold dvadd_h at h
    obtain ⟨bad, ds, rfl, h1⟩ := dB_inv h
    obtain ⟨ax, ds, rfl, h2⟩ := dI_inv h1
    obtain ⟨ay, ds, rfl, h3⟩ := dI_inv h2
    obtain ⟨az, ds, rfl, h4⟩ := dI_inv h3
    obtain ⟨bx, ds, rfl, h5⟩ := dI_inv h4
    obtain ⟨b_y, ds, rfl, h6⟩ := dI_inv h5
    obtain ⟨bz, ds, rfl, h7⟩ := dI_inv h6
    obtain ⟨rfl, hE⟩ := dE_inv h7
    exact ⟨[SV.ptr (nat_lit 0) (nat_lit 0), SV.agg [SV.int IntKind.i64 ax, SV.int IntKind.i64 ay, SV.int IntKind.i64 az], SV.agg [SV.int IntKind.i64 bx, SV.int IntKind.i64 b_y, SV.int IntKind.i64 bz]], [SObj.cells [SV.bool bad] (nat_lit 51)], fun vs => by kernel_rfl, (dvadd_eq bad ax ay az bx b_y bz Q).trans ((dvadd_v bad ax ay az bx b_y bz _).trans hE)⟩
noncomputable def look_dvadd {α : Type} : LookF α := addFn 24 (fEnt dvadd_sp dvadd_h) look_rdiv2
theorem look_dvadd_ok {α : Type} : LookOk E.P (look_dvadd (α := α)) := addFn_ok dvadd_h_ok (look_rdiv2_ok)
noncomputable def _root_.Go.Proofs.Ytmcifgaaojgheaa.M.dvsub {α : Type} (bad : Bool) (ax : Int) (ay : Int) (az : Int) (bx : Int) (b_y : Int) (bz : Int) (k0 : Int → Int → Int → Bool → Option α) : Option α :=
  if bad = true then if (!!V.gn (V.mSub az bz) (V.gn (V.mSub ay b_y) (V.gn (V.mSub ax bx) false))) = true then k0 (0 : Int) (0 : Int) (0 : Int) true else k0 (V.gv (V.mSub ax bx)) (V.gv (V.mSub ay b_y)) (V.gv (V.mSub az bz)) true
else if (!!V.gn (V.mSub az bz) (V.gn (V.mSub ay b_y) (V.gn (V.mSub ax bx) false))) = true then k0 (0 : Int) (0 : Int) (0 : Int) (V.gn (V.mSub az bz) (V.gn (V.mSub ay b_y) (V.gn (V.mSub ax bx) false))) else k0 (V.gv (V.mSub ax bx)) (V.gv (V.mSub ay b_y)) (V.gv (V.mSub az bz)) (V.gn (V.mSub az bz) (V.gn (V.mSub ay b_y) (V.gn (V.mSub ax bx) false)))
theorem dvsub_eq {α : Type} (bad : Bool) (ax : Int) (ay : Int) (az : Int) (bx : Int) (b_y : Int) (bz : Int) (Q : SV → Hp → Option α) : callI E look_dvadd (exec E look_dvadd noLps 400) 25 ([SV.ptr (nat_lit 0) (nat_lit 0), SV.agg [SV.int IntKind.i64 ax, SV.int IntKind.i64 ay, SV.int IntKind.i64 az], SV.agg [SV.int IntKind.i64 bx, SV.int IntKind.i64 b_y, SV.int IntKind.i64 bz]]) ([SObj.cells [SV.bool bad] (nat_lit 51)]) Q = Go.Proofs.Ytmcifgaaojgheaa.M.dvsub bad ax ay az bx b_y bz (fun (x4 : Int) (x5 : Int) (x6 : Int) (x7 : Bool) => Q (SV.agg [SV.int IntKind.i64 x4, SV.int IntKind.i64 x5, SV.int IntKind.i64 x6]) ([SObj.cells [SV.bool x7] (nat_lit 51)])) := by kernel_rfl
def dvsub_sp : List AS := [.ptr 51 [.bool false], .val (.agg [.int .i64 0, .int .i64 0, .int .i64 0]), .val (.agg [.int .i64 0, .int .i64 0, .int .i64 0])]
noncomputable def dvsub_go {α : Type} (ds : List D) (Q : SV → Hp → Option α) : Option α :=
  dB ds fun bad ds => dI ds fun ax ds => dI ds fun ay ds => dI ds fun az ds => dI ds fun bx ds => dI ds fun b_y ds => dI ds fun bz ds => dE ds (Go.Proofs.Ytmcifgaaojgheaa.M.dvsub bad ax ay az bx b_y bz (fun (x4 : Int) (x5 : Int) (x6 : Int) (x7 : Bool) => Q (SV.agg [SV.int IntKind.i64 x4, SV.int IntKind.i64 x5, SV.int IntKind.i64 x6]) ([SObj.cells [SV.bool x7] (nat_lit 51)])))
theorem dvsub_ok {α : Type} : FnOk E.P 25 (fEnt (α := α) dvsub_sp dvsub_go) :=
  fEnt_ok E (look_dvadd_ok) (exec_sound E E_ok (look_dvadd_ok) (noLps_ok _) 400) fun ds Q r h => by
    unfold dvsub_go at h
    obtain ⟨bad, ds, rfl, h1⟩ := dB_inv h
    obtain ⟨ax, ds, rfl, h2⟩ := dI_inv h1
    obtain ⟨ay, ds, rfl, h3⟩ := dI_inv h2
    obtain ⟨az, ds, rfl, h4⟩ := dI_inv h3
    obtain ⟨bx, ds, rfl, h5⟩ := dI_inv h4
    obtain ⟨b_y, ds, rfl, h6⟩ := dI_inv h5
    obtain ⟨bz, ds, rfl, h7⟩ := dI_inv h6
    obtain ⟨rfl, hE⟩ := dE_inv h7
    exact ⟨[SV.ptr (nat_lit 0) (nat_lit 0), SV.agg [SV.int IntKind.i64 ax, SV.int IntKind.i64 ay, SV.int IntKind.i64 az], SV.agg [SV.int IntKind.i64 bx, SV.int IntKind.i64 b_y, SV.int IntKind.i64 bz]], [SObj.cells [SV.bool bad] (nat_lit 51)], fun vs => by kernel_rfl, (dvsub_eq bad ax ay az bx b_y bz Q).trans hE⟩
theorem dvsub_v {α : Type} (bad : Bool) (ax : Int) (ay : Int) (az : Int) (bx : Int) (b_y : Int) (bz : Int) (k0 : Int → Int → Int → Bool → Option α) : M.dvsub bad ax ay az bx b_y bz k0 = k0 (V.x3 (V.tSub (ax, ay, az) (bx, b_y, bz))) (V.y3 (V.tSub (ax, ay, az) (bx, b_y, bz))) (V.z3 (V.tSub (ax, ay, az) (bx, b_y, bz))) (V.on (V.tSub (ax, ay, az) (bx, b_y, bz)) bad) := by
  unfold M.dvsub V.tSub V.t3
  generalize V.mSub ax bx = o0
  generalize V.mSub ay b_y = o1
  generalize V.mSub az bz = o2
  cases bad <;> cases o0 <;> cases o1 <;> cases o2 <;> rfl
noncomputable def dvsub_h {α : Type} (ds : List D) (Q : SV → Hp → Option α) : Option α :=
  dB ds fun bad ds => dI ds fun ax ds => dI ds fun ay ds => dI ds fun az ds => dI ds fun bx ds => dI ds fun b_y ds => dI ds fun bz ds => dE ds (Q (.agg [.int .i64 (V.x3 (V.tSub (ax, ay, az) (bx, b_y, bz))), .int .i64 (V.y3 (V.tSub (ax, ay, az) (bx, b_y, bz))), .int .i64 (V.z3 (V.tSub (ax, ay, az) (bx, b_y, bz)))]) ([.cells [.bool (V.on (V.tSub (ax, ay, az) (bx, b_y, bz)) bad)] 51]))
theorem dvsub_h_ok {α : Type} : FnOk E.P 25 (fEnt (α := α) dvsub_sp dvsub_h) :=
  fEnt_ok E (look_dvadd_ok) (exec_sound E E_ok (look_dvadd_ok) (noLps_ok _) 400) fun ds Q r h => by
    unfold dvsub_h at h
    obtain ⟨bad, ds, rfl, h1⟩ := dB_inv h
    obtain ⟨ax, ds, rfl, h2⟩ := dI_inv h1
    obtain ⟨ay, ds, rfl, h3⟩ := dI_inv h2
    obtain ⟨az, ds, rfl, h4⟩ := dI_inv h3
    obtain ⟨bx, ds, rfl, h5⟩ := dI_inv h4
    obtain ⟨b_y, ds, rfl, h6⟩ := dI_inv h5
    obtain ⟨bz, ds, rfl, h7⟩ := dI_inv h6
    obtain ⟨rfl, hE⟩ := dE_inv h7
    exact ⟨[SV.ptr (nat_lit 0) (nat_lit 0), SV.agg [SV.int IntKind.i64 ax, SV.int IntKind.i64 ay, SV.int IntKind.i64 az], SV.agg [SV.int IntKind.i64 bx, SV.int IntKind.i64 b_y, SV.int IntKind.i64 bz]], [SObj.cells [SV.bool bad] (nat_lit 51)], fun vs => by kernel_rfl, (dvsub_eq bad ax ay az bx b_y bz Q).trans ((dvsub_v bad ax ay az bx b_y bz _).trans hE)⟩
noncomputable def look_dvsub {α : Type} : LookF α := addFn 25 (fEnt dvsub_sp dvsub_h) look_dvadd
theorem look_dvsub_ok {α : Type} : LookOk E.P (look_dvsub (α := α)) := addFn_ok dvsub_h_ok (look_dvadd_ok)
noncomputable def _root_.Go.Proofs.Ytmcifgaaojgheaa.M.dvscale {α : Type} (bad : Bool) (ax : Int) (ay : Int) (az : Int) (n : Int) (k0 : Int → Int → Int → Bool → Option α) : Option α :=
  if bad = true then if (!!V.gn (V.mMul az n) (V.gn (V.mMul ay n) (V.gn (V.mMul ax n) false))) = true then k0 (0 : Int) (0 : Int) (0 : Int) true else k0 (V.gv (V.mMul ax n)) (V.gv (V.mMul ay n)) (V.gv (V.mMul az n)) true
else if (!!V.gn (V.mMul az n) (V.gn (V.mMul ay n) (V.gn (V.mMul ax n) false))) = true then k0 (0 : Int) (0 : Int) (0 : Int) (V.gn (V.mMul az n) (V.gn (V.mMul ay n) (V.gn (V.mMul ax n) false))) else k0 (V.gv (V.mMul ax n)) (V.gv (V.mMul ay n)) (V.gv (V.mMul az n)) (V.gn (V.mMul az n) (V.gn (V.mMul ay n) (V.gn (V.mMul ax n) false)))
theorem dvscale_eq {α : Type} (bad : Bool) (ax : Int) (ay : Int) (az : Int) (n : Int) (Q : SV → Hp → Option α) : callI E look_dvsub (exec E look_dvsub noLps 400) 27 ([SV.ptr (nat_lit 0) (nat_lit 0), SV.agg [SV.int IntKind.i64 ax, SV.int IntKind.i64 ay, SV.int IntKind.i64 az], SV.int IntKind.i64 n]) ([SObj.cells [SV.bool bad] (nat_lit 51)]) Q = Go.Proofs.Ytmcifgaaojgheaa.M.dvscale bad ax ay az n (fun (x8 : Int) (x9 : Int) (x10 : Int) (x11 : Bool) => Q (SV.agg [SV.int IntKind.i64 x8, SV.int IntKind.i64 x9, SV.int IntKind.i64 x10]) ([SObj.cells [SV.bool x11] (nat_lit 51)])) := by kernel_rfl
def dvscale_sp : List AS := [.ptr 51 [.bool false], .val (.agg [.int .i64 0, .int .i64 0, .int .i64 0]), .val (.int .i64 0)]
noncomputable def dvscale_go {α : Type} (ds : List D) (Q : SV → Hp → Option α) : Option α :=
  dB ds fun bad ds => dI ds fun ax ds => dI ds fun ay ds => dI ds fun az ds => dI ds fun n ds => dE ds (Go.Proofs.Ytmcifgaaojgheaa.M.dvscale bad ax ay az n (fun (x8 : Int) (x9 : Int) (x10 : Int) (x11 : Bool) => Q (SV.agg [SV.int IntKind.i64 x8, SV.int IntKind.i64 x9, SV.int IntKind.i64 x10]) ([SObj.cells [SV.bool x11] (nat_lit 51)])))
theorem dvscale_ok {α : Type} : FnOk E.P 27 (fEnt (α := α) dvscale_sp dvscale_go) :=
  fEnt_ok E (look_dvsub_ok) (exec_sound E E_ok (look_dvsub_ok) (noLps_ok _) 400) fun ds Q r h => by
    unfold dvscale_go at h
    obtain ⟨bad, ds, rfl, h1⟩ := dB_inv h
    obtain ⟨ax, ds, rfl, h2⟩ := dI_inv h1
    obtain ⟨ay, ds, rfl, h3⟩ := dI_inv h2
    obtain ⟨az, ds, rfl, h4⟩ := dI_inv h3
    obtain ⟨n, ds, rfl, h5⟩ := dI_inv h4
    obtain ⟨rfl, hE⟩ := dE_inv h5
    exact ⟨[SV.ptr (nat_lit 0) (nat_lit 0), SV.agg [SV.int IntKind.i64 ax, SV.int IntKind.i64 ay, SV.int IntKind.i64 az], SV.int IntKind.i64 n], [SObj.cells [SV.bool bad] (nat_lit 51)], fun vs => by kernel_rfl, (dvscale_eq bad ax ay az n Q).trans hE⟩
theorem dvscale_v {α : Type} (bad : Bool) (ax : Int) (ay : Int) (az : Int) (n : Int) (k0 : Int → Int → Int → Bool → Option α) : M.dvscale bad ax ay az n k0 = k0 (V.x3 (V.tScale (ax, ay, az) n)) (V.y3 (V.tScale (ax, ay, az) n)) (V.z3 (V.tScale (ax, ay, az) n)) (V.on (V.tScale (ax, ay, az) n) bad) := by
  unfold M.dvscale V.tScale V.t3
  generalize V.mMul ax n = o0
  generalize V.mMul ay n = o1
  generalize V.mMul az n = o2
  cases bad <;> cases o0 <;> cases o1 <;> cases o2 <;> rfl
noncomputable def dvscale_h {α : Type} (ds : List D) (Q : SV → Hp → Option α) : Option α :=
  dB ds fun bad ds => dI ds fun ax ds => dI ds fun ay ds => dI ds fun az ds => dI ds fun n ds => dE ds (Q (.agg [.int .i64 (V.x3 (V.tScale (ax, ay, az) n)), .int .i64 (V.y3 (V.tScale (ax, ay, az) n)), .int .i64 (V.z3 (V.tScale (ax, ay, az) n))]) ([.cells [.bool (V.on (V.tScale (ax, ay, az) n) bad)] 51]))
theorem dvscale_h_ok {α : Type} : FnOk E.P 27 (fEnt (α := α) dvscale_sp dvscale_h) :=
  fEnt_ok E (look_dvsub_ok) (exec_sound E E_ok (look_dvsub_ok) (noLps_ok _) 400) fun ds Q r h => by
    unfold dvscale_h at h
    obtain ⟨bad, ds, rfl, h1⟩ := dB_inv h
    obtain ⟨ax, ds, rfl, h2⟩ := dI_inv h1
    obtain ⟨ay, ds, rfl, h3⟩ := dI_inv h2
    obtain ⟨az, ds, rfl, h4⟩ := dI_inv h3
    obtain ⟨n, ds, rfl, h5⟩ := dI_inv h4
    obtain ⟨rfl, hE⟩ := dE_inv h5
    exact ⟨[SV.ptr (nat_lit 0) (nat_lit 0), SV.agg [SV.int IntKind.i64 ax, SV.int IntKind.i64 ay, SV.int IntKind.i64 az], SV.int IntKind.i64 n], [SObj.cells [SV.bool bad] (nat_lit 51)], fun vs => by kernel_rfl, (dvscale_eq bad ax ay az n Q).trans ((dvscale_v bad ax ay az n _).trans hE)⟩
noncomputable def look_dvscale {α : Type} : LookF α := addFn 27 (fEnt dvscale_sp dvscale_h) look_dvsub
theorem look_dvscale_ok {α : Type} : LookOk E.P (look_dvscale (α := α)) := addFn_ok dvscale_h_ok (look_dvsub_ok)
noncomputable def _root_.Go.Proofs.Ytmcifgaaojgheaa.M.dvdot {α : Type} (bad : Bool) (ax : Int) (ay : Int) (az : Int) (bx : Int) (b_y : Int) (bz : Int) (k0 : Int → Bool → Option α) : Option α :=
  if bad = true then k0 (V.gv (V.mDot [ax, ay, az] [bx, b_y, bz])) true else k0 (V.gv (V.mDot [ax, ay, az] [bx, b_y, bz])) (V.gn (V.mDot [ax, ay, az] [bx, b_y, bz]) false)
theorem dvdot_eq {α : Type} (bad : Bool) (ax : Int) (ay : Int) (az : Int) (bx : Int) (b_y : Int) (bz : Int) (Q : SV → Hp → Option α) : callI E look_dvscale (exec E look_dvscale noLps 400) 28 ([SV.ptr (nat_lit 0) (nat_lit 0), SV.agg [SV.int IntKind.i64 ax, SV.int IntKind.i64 ay, SV.int IntKind.i64 az], SV.agg [SV.int IntKind.i64 bx, SV.int IntKind.i64 b_y, SV.int IntKind.i64 bz]]) ([SObj.cells [SV.bool bad] (nat_lit 51)]) Q = Go.Proofs.Ytmcifgaaojgheaa.M.dvdot bad ax ay az bx b_y bz (fun (x12 : Int) (x13 : Bool) => Q (SV.int IntKind.i64 x12) ([SObj.cells [SV.bool x13] (nat_lit 51)])) := by kernel_rfl
def dvdot_sp : List AS := [.ptr 51 [.bool false], .val (.agg [.int .i64 0, .int .i64 0, .int .i64 0]), .val (.agg [.int .i64 0, .int .i64 0, .int .i64 0])]
noncomputable def dvdot_go {α : Type} (ds : List D) (Q : SV → Hp → Option α) : Option α :=
  dB ds fun bad ds => dI ds fun ax ds => dI ds fun ay ds => dI ds fun az ds => dI ds fun bx ds => dI ds fun b_y ds => dI ds fun bz ds => dE ds (Go.Proofs.Ytmcifgaaojgheaa.M.dvdot bad ax ay az bx b_y bz (fun (x12 : Int) (x13 : Bool) => Q (SV.int IntKind.i64 x12) ([SObj.cells [SV.bool x13] (nat_lit 51)])))
theorem dvdot_ok {α : Type} : FnOk E.P 28 (fEnt (α := α) dvdot_sp dvdot_go) :=
  fEnt_ok E (look_dvscale_ok) (exec_sound E E_ok (look_dvscale_ok) (noLps_ok _) 400) fun ds Q r h => by
    unfold dvdot_go at h
    obtain ⟨bad, ds, rfl, h1⟩ := dB_inv h
    obtain ⟨ax, ds, rfl, h2⟩ := dI_inv h1
    obtain ⟨ay, ds, rfl, h3⟩ := dI_inv h2
    obtain ⟨az, ds, rfl, h4⟩ := dI_inv h3
    obtain ⟨bx, ds, rfl, h5⟩ := dI_inv h4
    obtain ⟨b_y, ds, rfl, h6⟩ := dI_inv h5
    obtain ⟨bz, ds, rfl, h7⟩ := dI_inv h6
    obtain ⟨rfl, hE⟩ := dE_inv h7
    exact ⟨[SV.ptr (nat_lit 0) (nat_lit 0), SV.agg [SV.int IntKind.i64 ax, SV.int IntKind.i64 ay, SV.int IntKind.i64 az], SV.agg [SV.int IntKind.i64 bx, SV.int IntKind.i64 b_y, SV.int IntKind.i64 bz]], [SObj.cells [SV.bool bad] (nat_lit 51)], fun vs => by kernel_rfl, (dvdot_eq bad ax ay az bx b_y bz Q).trans hE⟩
theorem dvdot_v {α : Type} (bad : Bool) (ax : Int) (ay : Int) (az : Int) (bx : Int) (b_y : Int) (bz : Int) (k0 : Int → Bool → Option α) : M.dvdot bad ax ay az bx b_y bz k0 = k0 (V.gv (V.tDot (ax, ay, az) (bx, b_y, bz))) (V.gn (V.tDot (ax, ay, az) (bx, b_y, bz)) bad) := by
  unfold M.dvdot V.tDot
  generalize V.mDot [ax, ay, az] [bx, b_y, bz] = o0
  cases bad <;> cases o0 <;> rfl
noncomputable def dvdot_h {α : Type} (ds : List D) (Q : SV → Hp → Option α) : Option α :=
  dB ds fun bad ds => dI ds fun ax ds => dI ds fun ay ds => dI ds fun az ds => dI ds fun bx ds => dI ds fun b_y ds => dI ds fun bz ds => dE ds (Q (.int .i64 (V.gv (V.tDot (ax, ay, az) (bx, b_y, bz)))) ([.cells [.bool (V.gn (V.tDot (ax, ay, az) (bx, b_y, bz)) bad)] 51]))
theorem dvdot_h_ok {α : Type} : FnOk E.P 28 (fEnt (α := α) dvdot_sp dvdot_h) :=
  fEnt_ok E (look_dvscale_ok) (exec_sound E E_ok (look_dvscale_ok) (noLps_ok _) 400) fun ds Q r h => by
    unfold dvdot_h at h
    obtain ⟨bad, ds, rfl, h1⟩ := dB_inv h
    obtain ⟨ax, ds, rfl, h2⟩ := dI_inv h1
    obtain ⟨ay, ds, rfl, h3⟩ := dI_inv h2
    obtain ⟨az, ds, rfl, h4⟩ := dI_inv h3
    obtain ⟨bx, ds, rfl, h5⟩ := dI_inv h4
    obtain ⟨b_y, ds, rfl, h6⟩ := dI_inv h5
    obtain ⟨bz, ds, rfl, h7⟩ := dI_inv h6
    obtain ⟨rfl, hE⟩ := dE_inv h7
    exact ⟨[SV.ptr (nat_lit 0) (nat_lit 0), SV.agg [SV.int IntKind.i64 ax, SV.int IntKind.i64 ay, SV.int IntKind.i64 az], SV.agg [SV.int IntKind.i64 bx, SV.int IntKind.i64 b_y, SV.int IntKind.i64 bz]], [SObj.cells [SV.bool bad] (nat_lit 51)], fun vs => by kernel_rfl, (dvdot_eq bad ax ay az bx b_y bz Q).trans ((dvdot_v bad ax ay az bx b_y bz _).trans hE)⟩
noncomputable def look_dvdot {α : Type} : LookF α := addFn 28 (fEnt dvdot_sp dvdot_h) look_dvscale
theorem look_dvdot_ok {α : Type} : LookOk E.P (look_dvdot (α := α)) := addFn_ok dvdot_h_ok (look_dvscale_ok)
noncomputable def _root_.Go.Proofs.Ytmcifgaaojgheaa.M.dvcross {α : Type} (bad : Bool) (ax : Int) (ay : Int) (az : Int) (bx : Int) (b_y : Int) (bz : Int) (k0 : Int → Int → Int → Bool → Option α) : Option α :=
  if bad = true then
  if (!!V.gn (V.mDot [ax, ay] [b_y, V.gv (V.mSub (0 : Int) bx)]) (V.gn (V.mSub (0 : Int) bx) (V.gn (V.mDot [az, ax] [bx, V.gv (V.mSub (0 : Int) bz)]) (V.gn (V.mSub (0 : Int) bz) (V.gn (V.mDot [ay, az] [bz, V.gv (V.mSub (0 : Int) b_y)]) (V.gn (V.mSub (0 : Int) b_y) false)))))) = true then k0 (0 : Int) (0 : Int) (0 : Int) true
  else k0 (V.gv (V.mDot [ay, az] [bz, V.gv (V.mSub (0 : Int) b_y)])) (V.gv (V.mDot [az, ax] [bx, V.gv (V.mSub (0 : Int) bz)])) (V.gv (V.mDot [ax, ay] [b_y, V.gv (V.mSub (0 : Int) bx)])) true
else
  if (!!V.gn (V.mDot [ax, ay] [b_y, V.gv (V.mSub (0 : Int) bx)]) (V.gn (V.mSub (0 : Int) bx) (V.gn (V.mDot [az, ax] [bx, V.gv (V.mSub (0 : Int) bz)]) (V.gn (V.mSub (0 : Int) bz) (V.gn (V.mDot [ay, az] [bz, V.gv (V.mSub (0 : Int) b_y)]) (V.gn (V.mSub (0 : Int) b_y) false)))))) = true then
    k0 (0 : Int) (0 : Int) (0 : Int) (V.gn (V.mDot [ax, ay] [b_y, V.gv (V.mSub (0 : Int) bx)]) (V.gn (V.mSub (0 : Int) bx) (V.gn (V.mDot [az, ax] [bx, V.gv (V.mSub (0 : Int) bz)]) (V.gn (V.mSub (0 : Int) bz) (V.gn (V.mDot [ay, az] [bz, V.gv (V.mSub (0 : Int) b_y)]) (V.gn (V.mSub (0 : Int) b_y) false))))))
  else k0 (V.gv (V.mDot [ay, az] [bz, V.gv (V.mSub (0 : Int) b_y)])) (V.gv (V.mDot [az, ax] [bx, V.gv (V.mSub (0 : Int) bz)])) (V.gv (V.mDot [ax, ay] [b_y, V.gv (V.mSub (0 : Int) bx)])) (V.gn (V.mDot [ax, ay] [b_y, V.gv (V.mSub (0 : Int) bx)]) (V.gn (V.mSub (0 : Int) bx) (V.gn (V.mDot [az, ax] [bx, V.gv (V.mSub (0 : Int) bz)]) (V.gn (V.mSub (0 : Int) bz) (V.gn (V.mDot [ay, az] [bz, V.gv (V.mSub (0 : Int) b_y)]) (V.gn (V.mSub (0 : Int) b_y) false))))))
theorem dvcross_eq {α : Type} (bad : Bool) (ax : Int) (ay : Int) (az : Int) (bx : Int) (b_y : Int) (bz : Int) (Q : SV → Hp → Option α) : callI E look_dvdot (exec E look_dvdot noLps 400) 29 ([SV.ptr (nat_lit 0) (nat_lit 0), SV.agg [SV.int IntKind.i64 ax, SV.int IntKind.i64 ay, SV.int IntKind.i64 az], SV.agg [SV.int IntKind.i64 bx, SV.int IntKind.i64 b_y, SV.int IntKind.i64 bz]]) ([SObj.cells [SV.bool bad] (nat_lit 51)]) Q = Go.Proofs.Ytmcifgaaojgheaa.M.dvcross bad ax ay az bx b_y bz (fun (x14 : Int) (x15 : Int) (x16 : Int) (x17 : Bool) => Q (SV.agg [SV.int IntKind.i64 x14, SV.int IntKind.i64 x15, SV.int IntKind.i64 x16]) ([SObj.cells [SV.bool x17] (nat_lit 51)])) := by kernel_rfl
def dvcross_sp : List AS := [.ptr 51 [.bool false], .val (.agg [.int .i64 0, .int .i64 0, .int .i64 0]), .val (.agg [.int .i64 0, .int .i64 0, .int .i64 0])]
noncomputable def dvcross_go {α : Type} (ds : List D) (Q : SV → Hp → Option α) : Option α :=
  dB ds fun bad ds => dI ds fun ax ds => dI ds fun ay ds => dI ds fun az ds => dI ds fun bx ds => dI ds fun b_y ds => dI ds fun bz ds => dE ds (Go.Proofs.Ytmcifgaaojgheaa.M.dvcross bad ax ay az bx b_y bz (fun (x14 : Int) (x15 : Int) (x16 : Int) (x17 : Bool) => Q (SV.agg [SV.int IntKind.i64 x14, SV.int IntKind.i64 x15, SV.int IntKind.i64 x16]) ([SObj.cells [SV.bool x17] (nat_lit 51)])))
theorem dvcross_ok {α : Type} : FnOk E.P 29 (fEnt (α := α) dvcross_sp dvcross_go) :=
  fEnt_ok E (look_dvdot_ok) (exec_sound E E_ok (look_dvdot_ok) (noLps_ok _) 400) fun ds Q r h => by
    unfold dvcross_go at h
    obtain ⟨bad, ds, rfl, h1⟩ := dB_inv h
    obtain ⟨ax, ds, rfl, h2⟩ := dI_inv h1
    obtain ⟨ay, ds, rfl, h3⟩ := dI_inv h2
    obtain ⟨az, ds, rfl, h4⟩ := dI_inv h3
    obtain ⟨bx, ds, rfl, h5⟩ := dI_inv h4
    obtain ⟨b_y, ds, rfl, h6⟩ := dI_inv h5
    obtain ⟨bz, ds, rfl, h7⟩ := dI_inv h6
    obtain ⟨rfl, hE⟩ := dE_inv h7
    exact ⟨[SV.ptr (nat_lit 0) (nat_lit 0), SV.agg [SV.int IntKind.i64 ax, SV.int IntKind.i64 ay, SV.int IntKind.i64 az], SV.agg [SV.int IntKind.i64 bx, SV.int IntKind.i64 b_y, SV.int IntKind.i64 bz]], [SObj.cells [SV.bool bad] (nat_lit 51)], fun vs => by kernel_rfl, (dvcross_eq bad ax ay az bx b_y bz Q).trans hE⟩
theorem dvcross_v {α : Type} (bad : Bool) (ax : Int) (ay : Int) (az : Int) (bx : Int) (b_y : Int) (bz : Int) (k0 : Int → Int → Int → Bool → Option α) : M.dvcross bad ax ay az bx b_y bz k0 = k0 (V.x3 (V.tCross (ax, ay, az) (bx, b_y, bz))) (V.y3 (V.tCross (ax, ay, az) (bx, b_y, bz))) (V.z3 (V.tCross (ax, ay, az) (bx, b_y, bz))) (V.on (V.tCross (ax, ay, az) (bx, b_y, bz)) bad) := by
  unfold M.dvcross V.tCross V.t3
  generalize V.mDot [ax, ay] [b_y, V.gv (V.mSub 0 bx)] = o3
  generalize V.mDot [az, ax] [bx, V.gv (V.mSub 0 bz)] = o4
  generalize V.mDot [ay, az] [bz, V.gv (V.mSub 0 b_y)] = o5
  generalize V.mSub 0 bx = o0
  generalize V.mSub 0 b_y = o1
  generalize V.mSub 0 bz = o2
  cases bad <;> cases o0 <;> cases o1 <;> cases o2 <;> cases o3 <;> cases o4 <;> cases o5 <;> rfl
noncomputable def dvcross_h {α : Type} (ds : List D) (Q : SV → Hp → Option α) : Option α :=
  dB ds fun bad ds => dI ds fun ax ds => dI ds fun ay ds => dI ds fun az ds => dI ds fun bx ds => dI ds fun b_y ds => dI ds fun bz ds => dE ds (Q (.agg [.int .i64 (V.x3 (V.tCross (ax, ay, az) (bx, b_y, bz))), .int .i64 (V.y3 (V.tCross (ax, ay, az) (bx, b_y, bz))), .int .i64 (V.z3 (V.tCross (ax, ay, az) (bx, b_y, bz)))]) ([.cells [.bool (V.on (V.tCross (ax, ay, az) (bx, b_y, bz)) bad)] 51]))
theorem dvcross_h_ok {α : Type} : FnOk E.P 29 (fEnt (α := α) dvcross_sp dvcross_h) :=
  fEnt_ok E (look_dvdot_ok) (exec_sound E E_ok (look_dvdot_ok) (noLps_ok _) 400) fun ds Q r h => by
    unfold dvcross_h at h
    obtain ⟨bad, ds, rfl, h1⟩ := dB_inv h
    obtain ⟨ax, ds, rfl, h2⟩ := dI_inv h1
    obtain ⟨ay, ds, rfl, h3⟩ := dI_inv h2
    obtain ⟨az, ds, rfl, h4⟩ := dI_inv h3
    obtain ⟨bx, ds, rfl, h5⟩ := dI_inv h4
    obtain ⟨b_y, ds, rfl, h6⟩ := dI_inv h5
    obtain ⟨bz, ds, rfl, h7⟩ := dI_inv h6
    obtain ⟨rfl, hE⟩ := dE_inv h7
    exact ⟨[SV.ptr (nat_lit 0) (nat_lit 0), SV.agg [SV.int IntKind.i64 ax, SV.int IntKind.i64 ay, SV.int IntKind.i64 az], SV.agg [SV.int IntKind.i64 bx, SV.int IntKind.i64 b_y, SV.int IntKind.i64 bz]], [SObj.cells [SV.bool bad] (nat_lit 51)], fun vs => by kernel_rfl, (dvcross_eq bad ax ay az bx b_y bz Q).trans ((dvcross_v bad ax ay az bx b_y bz _).trans hE)⟩
noncomputable def look_dvcross {α : Type} : LookF α := addFn 29 (fEnt dvcross_sp dvcross_h) look_dvdot
theorem look_dvcross_ok {α : Type} : LookOk E.P (look_dvcross (α := α)) := addFn_ok dvcross_h_ok (look_dvdot_ok)
noncomputable def _root_.Go.Proofs.Ytmcifgaaojgheaa.M.dvlen {α : Type} (bad : Bool) (ax : Int) (ay : Int) (az : Int) (k0 : Int → Bool → Option α) : Option α :=
  if bad = true then k0 (V.gv (V.mNorm [ax, ay, az])) true else k0 (V.gv (V.mNorm [ax, ay, az])) (V.gn (V.mNorm [ax, ay, az]) false)
theorem dvlen_eq {α : Type} (bad : Bool) (ax : Int) (ay : Int) (az : Int) (Q : SV → Hp → Option α) : callI E look_dvcross (exec E look_dvcross noLps 400) 30 ([SV.ptr (nat_lit 0) (nat_lit 0), SV.agg [SV.int IntKind.i64 ax, SV.int IntKind.i64 ay, SV.int IntKind.i64 az]]) ([SObj.cells [SV.bool bad] (nat_lit 51)]) Q = Go.Proofs.Ytmcifgaaojgheaa.M.dvlen bad ax ay az (fun (x18 : Int) (x19 : Bool) => Q (SV.int IntKind.i64 x18) ([SObj.cells [SV.bool x19] (nat_lit 51)])) := by kernel_rfl
def dvlen_sp : List AS := [.ptr 51 [.bool false], .val (.agg [.int .i64 0, .int .i64 0, .int .i64 0])]
noncomputable def dvlen_go {α : Type} (ds : List D) (Q : SV → Hp → Option α) : Option α :=
  dB ds fun bad ds => dI ds fun ax ds => dI ds fun ay ds => dI ds fun az ds => dE ds (Go.Proofs.Ytmcifgaaojgheaa.M.dvlen bad ax ay az (fun (x18 : Int) (x19 : Bool) => Q (SV.int IntKind.i64 x18) ([SObj.cells [SV.bool x19] (nat_lit 51)])))
theorem dvlen_ok {α : Type} : FnOk E.P 30 (fEnt (α := α) dvlen_sp dvlen_go) :=
  fEnt_ok E (look_dvcross_ok) (exec_sound E E_ok (look_dvcross_ok) (noLps_ok _) 400) fun ds Q r h => by
    unfold dvlen_go at h
    obtain ⟨bad, ds, rfl, h1⟩ := dB_inv h
    obtain ⟨ax, ds, rfl, h2⟩ := dI_inv h1
    obtain ⟨ay, ds, rfl, h3⟩ := dI_inv h2
    obtain ⟨az, ds, rfl, h4⟩ := dI_inv h3
    obtain ⟨rfl, hE⟩ := dE_inv h4
    exact ⟨[SV.ptr (nat_lit 0) (nat_lit 0), SV.agg [SV.int IntKind.i64 ax, SV.int IntKind.i64 ay, SV.int IntKind.i64 az]], [SObj.cells [SV.bool bad] (nat_lit 51)], fun vs => by kernel_rfl, (dvlen_eq bad ax ay az Q).trans hE⟩
theorem dvlen_v {α : Type} (bad : Bool) (ax : Int) (ay : Int) (az : Int) (k0 : Int → Bool → Option α) : M.dvlen bad ax ay az k0 = k0 (V.gv (V.tLen (ax, ay, az))) (V.gn (V.tLen (ax, ay, az)) bad) := by
  unfold M.dvlen V.tLen
  generalize V.mNorm [ax, ay, az] = o0
  cases bad <;> cases o0 <;> rfl
noncomputable def dvlen_h {α : Type} (ds : List D) (Q : SV → Hp → Option α) : Option α :=
  dB ds fun bad ds => dI ds fun ax ds => dI ds fun ay ds => dI ds fun az ds => dE ds (Q (.int .i64 (V.gv (V.tLen (ax, ay, az)))) ([.cells [.bool (V.gn (V.tLen (ax, ay, az)) bad)] 51]))
theorem dvlen_h_ok {α : Type} : FnOk E.P 30 (fEnt (α := α) dvlen_sp dvlen_h) :=
  fEnt_ok E (look_dvcross_ok) (exec_sound E E_ok (look_dvcross_ok) (noLps_ok _) 400) fun ds Q r h => by
    unfold dvlen_h at h
    obtain ⟨bad, ds, rfl, h1⟩ := dB_inv h
    obtain ⟨ax, ds, rfl, h2⟩ := dI_inv h1
    obtain ⟨ay, ds, rfl, h3⟩ := dI_inv h2
    obtain ⟨az, ds, rfl, h4⟩ := dI_inv h3
    obtain ⟨rfl, hE⟩ := dE_inv h4
    exact ⟨[SV.ptr (nat_lit 0) (nat_lit 0), SV.agg [SV.int IntKind.i64 ax, SV.int IntKind.i64 ay, SV.int IntKind.i64 az]], [SObj.cells [SV.bool bad] (nat_lit 51)], fun vs => by kernel_rfl, (dvlen_eq bad ax ay az Q).trans ((dvlen_v bad ax ay az _).trans hE)⟩
noncomputable def look_dvlen {α : Type} : LookF α := addFn 30 (fEnt dvlen_sp dvlen_h) look_dvcross
theorem look_dvlen_ok {α : Type} : LookOk E.P (look_dvlen (α := α)) := addFn_ok dvlen_h_ok (look_dvcross_ok)
noncomputable def _root_.Go.Proofs.Ytmcifgaaojgheaa.M.dvunit {α : Type} (bad : Bool) (ax : Int) (ay : Int) (az : Int) (k0 : Int → Int → Int → Bool → Option α) : Option α :=
  if bad = true then if (!!V.gn (V.mDiv az (V.gv (V.mNorm [ax, ay, az]))) (V.gn (V.mDiv ay (V.gv (V.mNorm [ax, ay, az]))) (V.gn (V.mDiv ax (V.gv (V.mNorm [ax, ay, az]))) (V.gn (V.mNorm [ax, ay, az]) false)))) = true then k0 (0 : Int) (0 : Int) (0 : Int) true else k0 (V.gv (V.mDiv ax (V.gv (V.mNorm [ax, ay, az])))) (V.gv (V.mDiv ay (V.gv (V.mNorm [ax, ay, az])))) (V.gv (V.mDiv az (V.gv (V.mNorm [ax, ay, az])))) true
else
  if (!!V.gn (V.mDiv az (V.gv (V.mNorm [ax, ay, az]))) (V.gn (V.mDiv ay (V.gv (V.mNorm [ax, ay, az]))) (V.gn (V.mDiv ax (V.gv (V.mNorm [ax, ay, az]))) (V.gn (V.mNorm [ax, ay, az]) false)))) = true then k0 (0 : Int) (0 : Int) (0 : Int) (V.gn (V.mDiv az (V.gv (V.mNorm [ax, ay, az]))) (V.gn (V.mDiv ay (V.gv (V.mNorm [ax, ay, az]))) (V.gn (V.mDiv ax (V.gv (V.mNorm [ax, ay, az]))) (V.gn (V.mNorm [ax, ay, az]) false))))
  else k0 (V.gv (V.mDiv ax (V.gv (V.mNorm [ax, ay, az])))) (V.gv (V.mDiv ay (V.gv (V.mNorm [ax, ay, az])))) (V.gv (V.mDiv az (V.gv (V.mNorm [ax, ay, az])))) (V.gn (V.mDiv az (V.gv (V.mNorm [ax, ay, az]))) (V.gn (V.mDiv ay (V.gv (V.mNorm [ax, ay, az]))) (V.gn (V.mDiv ax (V.gv (V.mNorm [ax, ay, az]))) (V.gn (V.mNorm [ax, ay, az]) false))))
theorem dvunit_eq {α : Type} (bad : Bool) (ax : Int) (ay : Int) (az : Int) (Q : SV → Hp → Option α) : callI E look_dvlen (exec E look_dvlen noLps 400) 31 ([SV.ptr (nat_lit 0) (nat_lit 0), SV.agg [SV.int IntKind.i64 ax, SV.int IntKind.i64 ay, SV.int IntKind.i64 az]]) ([SObj.cells [SV.bool bad] (nat_lit 51)]) Q = Go.Proofs.Ytmcifgaaojgheaa.M.dvunit bad ax ay az (fun (x20 : Int) (x21 : Int) (x22 : Int) (x23 : Bool) => Q (SV.agg [SV.int IntKind.i64 x20, SV.int IntKind.i64 x21, SV.int IntKind.i64 x22]) ([SObj.cells [SV.bool x23] (nat_lit 51)])) := by kernel_rfl
def dvunit_sp : List AS := [.ptr 51 [.bool false], .val (.agg [.int .i64 0, .int .i64 0, .int .i64 0])]
noncomputable def dvunit_go {α : Type} (ds : List D) (Q : SV → Hp → Option α) : Option α :=
  dB ds fun bad ds => dI ds fun ax ds => dI ds fun ay ds => dI ds fun az ds => dE ds (Go.Proofs.Ytmcifgaaojgheaa.M.dvunit bad ax ay az (fun (x20 : Int) (x21 : Int) (x22 : Int) (x23 : Bool) => Q (SV.agg [SV.int IntKind.i64 x20, SV.int IntKind.i64 x21, SV.int IntKind.i64 x22]) ([SObj.cells [SV.bool x23] (nat_lit 51)])))
theorem dvunit_ok {α : Type} : FnOk E.P 31 (fEnt (α := α) dvunit_sp dvunit_go) :=
  fEnt_ok E (look_dvlen_ok) (exec_sound E E_ok (look_dvlen_ok) (noLps_ok _) 400) fun ds Q r h => by
    unfold dvunit_go at h
    obtain ⟨bad, ds, rfl, h1⟩ := dB_inv h
    obtain ⟨ax, ds, rfl, h2⟩ := dI_inv h1
    obtain ⟨ay, ds, rfl, h3⟩ := dI_inv h2
    obtain ⟨az, ds, rfl, h4⟩ := dI_inv h3
    obtain ⟨rfl, hE⟩ := dE_inv h4
    exact ⟨[SV.ptr (nat_lit 0) (nat_lit 0), SV.agg [SV.int IntKind.i64 ax, SV.int IntKind.i64 ay, SV.int IntKind.i64 az]], [SObj.cells [SV.bool bad] (nat_lit 51)], fun vs => by kernel_rfl, (dvunit_eq bad ax ay az Q).trans hE⟩
theorem dvunit_v {α : Type} (bad : Bool) (ax : Int) (ay : Int) (az : Int) (k0 : Int → Int → Int → Bool → Option α) : M.dvunit bad ax ay az k0 = k0 (V.x3 (V.tUnit (ax, ay, az))) (V.y3 (V.tUnit (ax, ay, az))) (V.z3 (V.tUnit (ax, ay, az))) (V.on (V.tUnit (ax, ay, az)) bad) := by
  unfold M.dvunit V.tUnit V.t3 V.tLen
  generalize V.mDiv ax (V.gv (V.mNorm [ax, ay, az])) = o0
  generalize V.mDiv ay (V.gv (V.mNorm [ax, ay, az])) = o1
  generalize V.mDiv az (V.gv (V.mNorm [ax, ay, az])) = o2
  generalize V.mNorm [ax, ay, az] = o3
  cases bad <;> cases o0 <;> cases o1 <;> cases o2 <;> cases o3 <;> rfl
noncomputable def dvunit_h {α : Type} (ds : List D) (Q : SV → Hp → Option α) : Option α :=
  dB ds fun bad ds => dI ds fun ax ds => dI ds fun ay ds => dI ds fun az ds => dE ds (Q (.agg [.int .i64 (V.x3 (V.tUnit (ax, ay, az))), .int .i64 (V.y3 (V.tUnit (ax, ay, az))), .int .i64 (V.z3 (V.tUnit (ax, ay, az)))]) ([.cells [.bool (V.on (V.tUnit (ax, ay, az)) bad)] 51]))
theorem dvunit_h_ok {α : Type} : FnOk E.P 31 (fEnt (α := α) dvunit_sp dvunit_h) :=
  fEnt_ok E (look_dvlen_ok) (exec_sound E E_ok (look_dvlen_ok) (noLps_ok _) 400) fun ds Q r h => by
    unfold dvunit_h at h
    obtain ⟨bad, ds, rfl, h1⟩ := dB_inv h
    obtain ⟨ax, ds, rfl, h2⟩ := dI_inv h1
    obtain ⟨ay, ds, rfl, h3⟩ := dI_inv h2
    obtain ⟨az, ds, rfl, h4⟩ := dI_inv h3
    obtain ⟨rfl, hE⟩ := dE_inv h4
    exact ⟨[SV.ptr (nat_lit 0) (nat_lit 0), SV.agg [SV.int IntKind.i64 ax, SV.int IntKind.i64 ay, SV.int IntKind.i64 az]], [SObj.cells [SV.bool bad] (nat_lit 51)], fun vs => by kernel_rfl, (dvunit_eq bad ax ay az Q).trans ((dvunit_v bad ax ay az _).trans hE)⟩
noncomputable def look_dvunit {α : Type} : LookF α := addFn 31 (fEnt dvunit_sp dvunit_h) look_dvlen
theorem look_dvunit_ok {α : Type} : LookOk E.P (look_dvunit (α := α)) := addFn_ok dvunit_h_ok (look_dvlen_ok)
noncomputable def _root_.Go.Proofs.Ytmcifgaaojgheaa.M.dvturn {α : Type} (bad : Bool) (m0 : Int) (m1 : Int) (m2 : Int) (m3 : Int) (m4 : Int) (m5 : Int) (m6 : Int) (m7 : Int) (m8 : Int) (ax : Int) (ay : Int) (az : Int) (k0 : Int → Int → Int → Bool → Option α) : Option α :=
  if bad = true then if (!!V.gn (V.tDot (m6, m7, m8) (ax, ay, az)) (V.gn (V.tDot (m3, m4, m5) (ax, ay, az)) (V.gn (V.tDot (m0, m1, m2) (ax, ay, az)) false))) = true then k0 (0 : Int) (0 : Int) (0 : Int) true else k0 (V.gv (V.tDot (m0, m1, m2) (ax, ay, az))) (V.gv (V.tDot (m3, m4, m5) (ax, ay, az))) (V.gv (V.tDot (m6, m7, m8) (ax, ay, az))) true
else
  if (!!V.gn (V.tDot (m6, m7, m8) (ax, ay, az)) (V.gn (V.tDot (m3, m4, m5) (ax, ay, az)) (V.gn (V.tDot (m0, m1, m2) (ax, ay, az)) false))) = true then k0 (0 : Int) (0 : Int) (0 : Int) (V.gn (V.tDot (m6, m7, m8) (ax, ay, az)) (V.gn (V.tDot (m3, m4, m5) (ax, ay, az)) (V.gn (V.tDot (m0, m1, m2) (ax, ay, az)) false)))
  else k0 (V.gv (V.tDot (m0, m1, m2) (ax, ay, az))) (V.gv (V.tDot (m3, m4, m5) (ax, ay, az))) (V.gv (V.tDot (m6, m7, m8) (ax, ay, az))) (V.gn (V.tDot (m6, m7, m8) (ax, ay, az)) (V.gn (V.tDot (m3, m4, m5) (ax, ay, az)) (V.gn (V.tDot (m0, m1, m2) (ax, ay, az)) false)))
theorem dvturn_eq {α : Type} (bad : Bool) (m0 : Int) (m1 : Int) (m2 : Int) (m3 : Int) (m4 : Int) (m5 : Int) (m6 : Int) (m7 : Int) (m8 : Int) (ax : Int) (ay : Int) (az : Int) (Q : SV → Hp → Option α) : callI E look_dvunit (exec E look_dvunit noLps 400) 37 ([SV.ptr (nat_lit 0) (nat_lit 0), SV.agg [SV.int IntKind.i64 m0, SV.int IntKind.i64 m1, SV.int IntKind.i64 m2, SV.int IntKind.i64 m3, SV.int IntKind.i64 m4, SV.int IntKind.i64 m5, SV.int IntKind.i64 m6, SV.int IntKind.i64 m7, SV.int IntKind.i64 m8], SV.agg [SV.int IntKind.i64 ax, SV.int IntKind.i64 ay, SV.int IntKind.i64 az]]) ([SObj.cells [SV.bool bad] (nat_lit 51)]) Q = Go.Proofs.Ytmcifgaaojgheaa.M.dvturn bad m0 m1 m2 m3 m4 m5 m6 m7 m8 ax ay az (fun (x24 : Int) (x25 : Int) (x26 : Int) (x27 : Bool) => Q (SV.agg [SV.int IntKind.i64 x24, SV.int IntKind.i64 x25, SV.int IntKind.i64 x26]) ([SObj.cells [SV.bool x27] (nat_lit 51)])) := by kernel_rfl
def dvturn_sp : List AS := [.ptr 51 [.bool false], .val (.agg [.int .i64 0, .int .i64 0, .int .i64 0, .int .i64 0, .int .i64 0, .int .i64 0, .int .i64 0, .int .i64 0, .int .i64 0]), .val (.agg [.int .i64 0, .int .i64 0, .int .i64 0])]
noncomputable def dvturn_go {α : Type} (ds : List D) (Q : SV → Hp → Option α) : Option α :=
  dB ds fun bad ds => dI ds fun m0 ds => dI ds fun m1 ds => dI ds fun m2 ds => dI ds fun m3 ds => dI ds fun m4 ds => dI ds fun m5 ds => dI ds fun m6 ds => dI ds fun m7 ds => dI ds fun m8 ds => dI ds fun ax ds => dI ds fun ay ds => dI ds fun az ds => dE ds (Go.Proofs.Ytmcifgaaojgheaa.M.dvturn bad m0 m1 m2 m3 m4 m5 m6 m7 m8 ax ay az (fun (x24 : Int) (x25 : Int) (x26 : Int) (x27 : Bool) => Q (SV.agg [SV.int IntKind.i64 x24, SV.int IntKind.i64 x25, SV.int IntKind.i64 x26]) ([SObj.cells [SV.bool x27] (nat_lit 51)])))
theorem dvturn_ok {α : Type} : FnOk E.P 37 (fEnt (α := α) dvturn_sp dvturn_go) :=
  fEnt_ok E (look_dvunit_ok) (exec_sound E E_ok (look_dvunit_ok) (noLps_ok _) 400) fun ds Q r h => by
    unfold dvturn_go at h
    obtain ⟨bad, ds, rfl, h1⟩ := dB_inv h
    obtain ⟨m0, ds, rfl, h2⟩ := dI_inv h1
    obtain ⟨m1, ds, rfl, h3⟩ := dI_inv h2
    obtain ⟨m2, ds, rfl, h4⟩ := dI_inv h3
    obtain ⟨m3, ds, rfl, h5⟩ := dI_inv h4
    obtain ⟨m4, ds, rfl, h6⟩ := dI_inv h5
    obtain ⟨m5, ds, rfl, h7⟩ := dI_inv h6
    obtain ⟨m6, ds, rfl, h8⟩ := dI_inv h7
    obtain ⟨m7, ds, rfl, h9⟩ := dI_inv h8
    obtain ⟨m8, ds, rfl, h10⟩ := dI_inv h9
    obtain ⟨ax, ds, rfl, h11⟩ := dI_inv h10
    obtain ⟨ay, ds, rfl, h12⟩ := dI_inv h11
    obtain ⟨az, ds, rfl, h13⟩ := dI_inv h12
    obtain ⟨rfl, hE⟩ := dE_inv h13
    exact ⟨[SV.ptr (nat_lit 0) (nat_lit 0), SV.agg [SV.int IntKind.i64 m0, SV.int IntKind.i64 m1, SV.int IntKind.i64 m2, SV.int IntKind.i64 m3, SV.int IntKind.i64 m4, SV.int IntKind.i64 m5, SV.int IntKind.i64 m6, SV.int IntKind.i64 m7, SV.int IntKind.i64 m8], SV.agg [SV.int IntKind.i64 ax, SV.int IntKind.i64 ay, SV.int IntKind.i64 az]], [SObj.cells [SV.bool bad] (nat_lit 51)], fun vs => by kernel_rfl, (dvturn_eq bad m0 m1 m2 m3 m4 m5 m6 m7 m8 ax ay az Q).trans hE⟩
theorem dvturn_v {α : Type} (bad : Bool) (m0 : Int) (m1 : Int) (m2 : Int) (m3 : Int) (m4 : Int) (m5 : Int) (m6 : Int) (m7 : Int) (m8 : Int) (ax : Int) (ay : Int) (az : Int) (k0 : Int → Int → Int → Bool → Option α) : M.dvturn bad m0 m1 m2 m3 m4 m5 m6 m7 m8 ax ay az k0 = k0 (V.x3 (V.tTurn ((m0, m1, m2), (m3, m4, m5), (m6, m7, m8)) (ax, ay, az))) (V.y3 (V.tTurn ((m0, m1, m2), (m3, m4, m5), (m6, m7, m8)) (ax, ay, az))) (V.z3 (V.tTurn ((m0, m1, m2), (m3, m4, m5), (m6, m7, m8)) (ax, ay, az))) (V.on (V.tTurn ((m0, m1, m2), (m3, m4, m5), (m6, m7, m8)) (ax, ay, az)) bad) := by
  unfold M.dvturn V.tTurn V.t3
  generalize V.tDot (m0, m1, m2) (ax, ay, az) = o0
  generalize V.tDot (m3, m4, m5) (ax, ay, az) = o1
  generalize V.tDot (m6, m7, m8) (ax, ay, az) = o2
  cases bad <;> cases o0 <;> cases o1 <;> cases o2 <;> rfl
noncomputable def dvturn_h {α : Type} (ds : List D) (Q : SV → Hp → Option α) : Option α :=
  dB ds fun bad ds => dI ds fun m0 ds => dI ds fun m1 ds => dI ds fun m2 ds => dI ds fun m3 ds => dI ds fun m4 ds => dI ds fun m5 ds => dI ds fun m6 ds => dI ds fun m7 ds => dI ds fun m8 ds => dI ds fun ax ds => dI ds fun ay ds => dI ds fun az ds => dE ds (Q (.agg [.int .i64 (V.x3 (V.tTurn ((m0, m1, m2), (m3, m4, m5), (m6, m7, m8)) (ax, ay, az))), .int .i64 (V.y3 (V.tTurn ((m0, m1, m2), (m3, m4, m5), (m6, m7, m8)) (ax, ay, az))), .int .i64 (V.z3 (V.tTurn ((m0, m1, m2), (m3, m4, m5), (m6, m7, m8)) (ax, ay, az)))]) ([.cells [.bool (V.on (V.tTurn ((m0, m1, m2), (m3, m4, m5), (m6, m7, m8)) (ax, ay, az)) bad)] 51]))
theorem dvturn_h_ok {α : Type} : FnOk E.P 37 (fEnt (α := α) dvturn_sp dvturn_h) :=
  fEnt_ok E (look_dvunit_ok) (exec_sound E E_ok (look_dvunit_ok) (noLps_ok _) 400) fun ds Q r h => by
    unfold dvturn_h at h
    obtain ⟨bad, ds, rfl, h1⟩ := dB_inv h
    obtain ⟨m0, ds, rfl, h2⟩ := dI_inv h1
    obtain ⟨m1, ds, rfl, h3⟩ := dI_inv h2
    obtain ⟨m2, ds, rfl, h4⟩ := dI_inv h3
    obtain ⟨m3, ds, rfl, h5⟩ := dI_inv h4
    obtain ⟨m4, ds, rfl, h6⟩ := dI_inv h5
    obtain ⟨m5, ds, rfl, h7⟩ := dI_inv h6
    obtain ⟨m6, ds, rfl, h8⟩ := dI_inv h7
    obtain ⟨m7, ds, rfl, h9⟩ := dI_inv h8
    obtain ⟨m8, ds, rfl, h10⟩ := dI_inv h9
    obtain ⟨ax, ds, rfl, h11⟩ := dI_inv h10
    obtain ⟨ay, ds, rfl, h12⟩ := dI_inv h11
    obtain ⟨az, ds, rfl, h13⟩ := dI_inv h12
    obtain ⟨rfl, hE⟩ := dE_inv h13
    exact ⟨[SV.ptr (nat_lit 0) (nat_lit 0), SV.agg [SV.int IntKind.i64 m0, SV.int IntKind.i64 m1, SV.int IntKind.i64 m2, SV.int IntKind.i64 m3, SV.int IntKind.i64 m4, SV.int IntKind.i64 m5, SV.int IntKind.i64 m6, SV.int IntKind.i64 m7, SV.int IntKind.i64 m8], SV.agg [SV.int IntKind.i64 ax, SV.int IntKind.i64 ay, SV.int IntKind.i64 az]], [SObj.cells [SV.bool bad] (nat_lit 51)], fun vs => by kernel_rfl, (dvturn_eq bad m0 m1 m2 m3 m4 m5 m6 m7 m8 ax ay az Q).trans ((dvturn_v bad m0 m1 m2 m3 m4 m5 m6 m7 m8 ax ay az _).trans hE)⟩
noncomputable def look_dvturn {α : Type} : LookF α := addFn 37 (fEnt dvturn_sp dvturn_h) look_dvunit
theorem look_dvturn_ok {α : Type} : LookOk E.P (look_dvturn (α := α)) := addFn_ok dvturn_h_ok (look_dvunit_ok)
noncomputable def _root_.Go.Proofs.Ytmcifgaaojgheaa.M.dvback {α : Type} (bad : Bool) (m0 : Int) (m1 : Int) (m2 : Int) (m3 : Int) (m4 : Int) (m5 : Int) (m6 : Int) (m7 : Int) (m8 : Int) (ax : Int) (ay : Int) (az : Int) (k0 : Int → Int → Int → Bool → Option α) : Option α :=
  k0 (V.x3 (V.tTurn ((m0, m3, m6), (m1, m4, m7), m2, m5, m8) (ax, ay, az))) (V.y3 (V.tTurn ((m0, m3, m6), (m1, m4, m7), m2, m5, m8) (ax, ay, az))) (V.z3 (V.tTurn ((m0, m3, m6), (m1, m4, m7), m2, m5, m8) (ax, ay, az))) (V.on (V.tTurn ((m0, m3, m6), (m1, m4, m7), m2, m5, m8) (ax, ay, az)) bad)
theorem dvback_eq {α : Type} (bad : Bool) (m0 : Int) (m1 : Int) (m2 : Int) (m3 : Int) (m4 : Int) (m5 : Int) (m6 : Int) (m7 : Int) (m8 : Int) (ax : Int) (ay : Int) (az : Int) (Q : SV → Hp → Option α) : callI E look_dvturn (exec E look_dvturn noLps 400) 39 ([SV.ptr (nat_lit 0) (nat_lit 0), SV.agg [SV.int IntKind.i64 m0, SV.int IntKind.i64 m1, SV.int IntKind.i64 m2, SV.int IntKind.i64 m3, SV.int IntKind.i64 m4, SV.int IntKind.i64 m5, SV.int IntKind.i64 m6, SV.int IntKind.i64 m7, SV.int IntKind.i64 m8], SV.agg [SV.int IntKind.i64 ax, SV.int IntKind.i64 ay, SV.int IntKind.i64 az]]) ([SObj.cells [SV.bool bad] (nat_lit 51)]) Q = Go.Proofs.Ytmcifgaaojgheaa.M.dvback bad m0 m1 m2 m3 m4 m5 m6 m7 m8 ax ay az (fun (x28 : Int) (x29 : Int) (x30 : Int) (x31 : Bool) => Q (SV.agg [SV.int IntKind.i64 x28, SV.int IntKind.i64 x29, SV.int IntKind.i64 x30]) ([SObj.cells [SV.bool x31] (nat_lit 51)])) := by kernel_rfl
def dvback_sp : List AS := [.ptr 51 [.bool false], .val (.agg [.int .i64 0, .int .i64 0, .int .i64 0, .int .i64 0, .int .i64 0, .int .i64 0, .int .i64 0, .int .i64 0, .int .i64 0]), .val (.agg [.int .i64 0, .int .i64 0, .int .i64 0])]
noncomputable def dvback_go {α : Type} (ds : List D) (Q : SV → Hp → Option α) : Option α :=
  dB ds fun bad ds => dI ds fun m0 ds => dI ds fun m1 ds => dI ds fun m2 ds => dI ds fun m3 ds => dI ds fun m4 ds => dI ds fun m5 ds => dI ds fun m6 ds => dI ds fun m7 ds => dI ds fun m8 ds => dI ds fun ax ds => dI ds fun ay ds => dI ds fun az ds => dE ds (Go.Proofs.Ytmcifgaaojgheaa.M.dvback bad m0 m1 m2 m3 m4 m5 m6 m7 m8 ax ay az (fun (x28 : Int) (x29 : Int) (x30 : Int) (x31 : Bool) => Q (SV.agg [SV.int IntKind.i64 x28, SV.int IntKind.i64 x29, SV.int IntKind.i64 x30]) ([SObj.cells [SV.bool x31] (nat_lit 51)])))
theorem dvback_ok {α : Type} : FnOk E.P 39 (fEnt (α := α) dvback_sp dvback_go) :=
  fEnt_ok E (look_dvturn_ok) (exec_sound E E_ok (look_dvturn_ok) (noLps_ok _) 400) fun ds Q r h => by
    unfold dvback_go at h
    obtain ⟨bad, ds, rfl, h1⟩ := dB_inv h
    obtain ⟨m0, ds, rfl, h2⟩ := dI_inv h1
    obtain ⟨m1, ds, rfl, h3⟩ := dI_inv h2
    obtain ⟨m2, ds, rfl, h4⟩ := dI_inv h3
    obtain ⟨m3, ds, rfl, h5⟩ := dI_inv h4
    obtain ⟨m4, ds, rfl, h6⟩ := dI_inv h5
    obtain ⟨m5, ds, rfl, h7⟩ := dI_inv h6
    obtain ⟨m6, ds, rfl, h8⟩ := dI_inv h7
    obtain ⟨m7, ds, rfl, h9⟩ := dI_inv h8
    obtain ⟨m8, ds, rfl, h10⟩ := dI_inv h9
    obtain ⟨ax, ds, rfl, h11⟩ := dI_inv h10
    obtain ⟨ay, ds, rfl, h12⟩ := dI_inv h11
    obtain ⟨az, ds, rfl, h13⟩ := dI_inv h12
    obtain ⟨rfl, hE⟩ := dE_inv h13
    exact ⟨[SV.ptr (nat_lit 0) (nat_lit 0), SV.agg [SV.int IntKind.i64 m0, SV.int IntKind.i64 m1, SV.int IntKind.i64 m2, SV.int IntKind.i64 m3, SV.int IntKind.i64 m4, SV.int IntKind.i64 m5, SV.int IntKind.i64 m6, SV.int IntKind.i64 m7, SV.int IntKind.i64 m8], SV.agg [SV.int IntKind.i64 ax, SV.int IntKind.i64 ay, SV.int IntKind.i64 az]], [SObj.cells [SV.bool bad] (nat_lit 51)], fun vs => by kernel_rfl, (dvback_eq bad m0 m1 m2 m3 m4 m5 m6 m7 m8 ax ay az Q).trans hE⟩
theorem dvback_v {α : Type} (bad : Bool) (m0 : Int) (m1 : Int) (m2 : Int) (m3 : Int) (m4 : Int) (m5 : Int) (m6 : Int) (m7 : Int) (m8 : Int) (ax : Int) (ay : Int) (az : Int) (k0 : Int → Int → Int → Bool → Option α) : M.dvback bad m0 m1 m2 m3 m4 m5 m6 m7 m8 ax ay az k0 = k0 (V.x3 (V.tBack ((m0, m1, m2), (m3, m4, m5), (m6, m7, m8)) (ax, ay, az))) (V.y3 (V.tBack ((m0, m1, m2), (m3, m4, m5), (m6, m7, m8)) (ax, ay, az))) (V.z3 (V.tBack ((m0, m1, m2), (m3, m4, m5), (m6, m7, m8)) (ax, ay, az))) (V.on (V.tBack ((m0, m1, m2), (m3, m4, m5), (m6, m7, m8)) (ax, ay, az)) bad) := by
  rfl
noncomputable def dvback_h {α : Type} (ds : List D) (Q : SV → Hp → Option α) : Option α :=
  dB ds fun bad ds => dI ds fun m0 ds => dI ds fun m1 ds => dI ds fun m2 ds => dI ds fun m3 ds => dI ds fun m4 ds => dI ds fun m5 ds => dI ds fun m6 ds => dI ds fun m7 ds => dI ds fun m8 ds => dI ds fun ax ds => dI ds fun ay ds => dI ds fun az ds => dE ds (Q (.agg [.int .i64 (V.x3 (V.tBack ((m0, m1, m2), (m3, m4, m5), (m6, m7, m8)) (ax, ay, az))), .int .i64 (V.y3 (V.tBack ((m0, m1, m2), (m3, m4, m5), (m6, m7, m8)) (ax, ay, az))), .int .i64 (V.z3 (V.tBack ((m0, m1, m2), (m3, m4, m5), (m6, m7, m8)) (ax, ay, az)))]) ([.cells [.bool (V.on (V.tBack ((m0, m1, m2), (m3, m4, m5), (m6, m7, m8)) (ax, ay, az)) bad)] 51]))
theorem dvback_h_ok {α : Type} : FnOk E.P 39 (fEnt (α := α) dvback_sp dvback_h) :=
  fEnt_ok E (look_dvturn_ok) (exec_sound E E_ok (look_dvturn_ok) (noLps_ok _) 400) fun ds Q r h => by
    unfold dvback_h at h
    obtain ⟨bad, ds, rfl, h1⟩ := dB_inv h
    obtain ⟨m0, ds, rfl, h2⟩ := dI_inv h1
    obtain ⟨m1, ds, rfl, h3⟩ := dI_inv h2
    obtain ⟨m2, ds, rfl, h4⟩ := dI_inv h3
    obtain ⟨m3, ds, rfl, h5⟩ := dI_inv h4
    obtain ⟨m4, ds, rfl, h6⟩ := dI_inv h5
    obtain ⟨m5, ds, rfl, h7⟩ := dI_inv h6
    obtain ⟨m6, ds, rfl, h8⟩ := dI_inv h7
    obtain ⟨m7, ds, rfl, h9⟩ := dI_inv h8
    obtain ⟨m8, ds, rfl, h10⟩ := dI_inv h9
    obtain ⟨ax, ds, rfl, h11⟩ := dI_inv h10
    obtain ⟨ay, ds, rfl, h12⟩ := dI_inv h11
    obtain ⟨az, ds, rfl, h13⟩ := dI_inv h12
    obtain ⟨rfl, hE⟩ := dE_inv h13
    exact ⟨[SV.ptr (nat_lit 0) (nat_lit 0), SV.agg [SV.int IntKind.i64 m0, SV.int IntKind.i64 m1, SV.int IntKind.i64 m2, SV.int IntKind.i64 m3, SV.int IntKind.i64 m4, SV.int IntKind.i64 m5, SV.int IntKind.i64 m6, SV.int IntKind.i64 m7, SV.int IntKind.i64 m8], SV.agg [SV.int IntKind.i64 ax, SV.int IntKind.i64 ay, SV.int IntKind.i64 az]], [SObj.cells [SV.bool bad] (nat_lit 51)], fun vs => by kernel_rfl, (dvback_eq bad m0 m1 m2 m3 m4 m5 m6 m7 m8 ax ay az Q).trans ((dvback_v bad m0 m1 m2 m3 m4 m5 m6 m7 m8 ax ay az _).trans hE)⟩
noncomputable def look_dvback {α : Type} : LookF α := addFn 39 (fEnt dvback_sp dvback_h) look_dvturn
theorem look_dvback_ok {α : Type} : LookOk E.P (look_dvback (α := α)) := addFn_ok dvback_h_ok (look_dvturn_ok)
end Go.Proofs.Ytmcifgaaojgheaa.Sx
