/- vec: what its functions reckon. -/
import Derived.Test.YtmcifgaaojgheaaVecV
namespace Go.Proofs.Ytmcifgaaojgheaa.Sx
open Go
set_option maxRecDepth 20000
set_option linter.unusedVariables false
set_option linter.unusedSimpArgs false
noncomputable def _root_.Go.Proofs.Ytmcifgaaojgheaa.M.vadd {α : Type} (bad : Bool) (ax : Int) (ay : Int) (az : Int) (bx : Int) (b_y : Int) (bz : Int) (k0 : Int → Int → Int → Bool → Option α) : Option α :=
  if V.gn (V.mAdd az bz) (V.gn (V.mAdd ay b_y) (V.gn (V.mAdd ax bx) false)) = true then k0 (0 : Int) (0 : Int) (0 : Int) true else k0 (V.gv (V.mAdd ax bx)) (V.gv (V.mAdd ay b_y)) (V.gv (V.mAdd az bz)) bad
theorem vadd_eq {α : Type} (bad : Bool) (ax : Int) (ay : Int) (az : Int) (bx : Int) (b_y : Int) (bz : Int) (Q : SV → Hp → Option α) : callI E look_norm (exec E look_norm noLps 400) 16 ([SV.ptr (nat_lit 0) (nat_lit 0), SV.agg [SV.int IntKind.i64 ax, SV.int IntKind.i64 ay, SV.int IntKind.i64 az], SV.agg [SV.int IntKind.i64 bx, SV.int IntKind.i64 b_y, SV.int IntKind.i64 bz]]) ([SObj.cells [SV.bool bad] (nat_lit 27)]) Q = Go.Proofs.Ytmcifgaaojgheaa.M.vadd bad ax ay az bx b_y bz (fun (x0 : Int) (x1 : Int) (x2 : Int) (x3 : Bool) => Q (SV.agg [SV.int IntKind.i64 x0, SV.int IntKind.i64 x1, SV.int IntKind.i64 x2]) ([SObj.cells [SV.bool x3] (nat_lit 27)])) := by kernel_rfl
def vadd_sp : List AS := [.ptr 27 [.bool false], .val (.agg [.int .i64 0, .int .i64 0, .int .i64 0]), .val (.agg [.int .i64 0, .int .i64 0, .int .i64 0])]
noncomputable def vadd_go {α : Type} (ds : List D) (Q : SV → Hp → Option α) : Option α :=
  dB ds fun bad ds => dI ds fun ax ds => dI ds fun ay ds => dI ds fun az ds => dI ds fun bx ds => dI ds fun b_y ds => dI ds fun bz ds => dE ds (Go.Proofs.Ytmcifgaaojgheaa.M.vadd bad ax ay az bx b_y bz (fun (x0 : Int) (x1 : Int) (x2 : Int) (x3 : Bool) => Q (SV.agg [SV.int IntKind.i64 x0, SV.int IntKind.i64 x1, SV.int IntKind.i64 x2]) ([SObj.cells [SV.bool x3] (nat_lit 27)])))
theorem vadd_ok {α : Type} : FnOk E.P 16 (fEnt (α := α) vadd_sp vadd_go) :=
  fEnt_ok E (look_norm_ok) (exec_sound E E_ok (look_norm_ok) (noLps_ok _) 400) fun ds Q r h => by
    unfold vadd_go at h
    obtain ⟨bad, ds, rfl, h1⟩ := dB_inv h
    obtain ⟨ax, ds, rfl, h2⟩ := dI_inv h1
    obtain ⟨ay, ds, rfl, h3⟩ := dI_inv h2
    obtain ⟨az, ds, rfl, h4⟩ := dI_inv h3
    obtain ⟨bx, ds, rfl, h5⟩ := dI_inv h4
    obtain ⟨b_y, ds, rfl, h6⟩ := dI_inv h5
    obtain ⟨bz, ds, rfl, h7⟩ := dI_inv h6
    obtain ⟨rfl, hE⟩ := dE_inv h7
    exact ⟨[SV.ptr (nat_lit 0) (nat_lit 0), SV.agg [SV.int IntKind.i64 ax, SV.int IntKind.i64 ay, SV.int IntKind.i64 az], SV.agg [SV.int IntKind.i64 bx, SV.int IntKind.i64 b_y, SV.int IntKind.i64 bz]], [SObj.cells [SV.bool bad] (nat_lit 27)], fun vs => by kernel_rfl, (vadd_eq bad ax ay az bx b_y bz Q).trans hE⟩
theorem vadd_v {α : Type} (bad : Bool) (ax : Int) (ay : Int) (az : Int) (bx : Int) (b_y : Int) (bz : Int) (k0 : Int → Int → Int → Bool → Option α) : M.vadd bad ax ay az bx b_y bz k0 = k0 (V.x3 (V.tAdd (ax, ay, az) (bx, b_y, bz))) (V.y3 (V.tAdd (ax, ay, az) (bx, b_y, bz))) (V.z3 (V.tAdd (ax, ay, az) (bx, b_y, bz))) (V.on (V.tAdd (ax, ay, az) (bx, b_y, bz)) bad) := by
  unfold M.vadd V.tAdd V.t3
  generalize h0 : V.mAdd ax bx = o0
  generalize h1 : V.mAdd ay b_y = o1
  generalize h2 : V.mAdd az bz = o2
  cases o0 <;> cases o1 <;> cases o2 <;> rfl
noncomputable def vadd_h {α : Type} (ds : List D) (Q : SV → Hp → Option α) : Option α :=
  dB ds fun bad ds => dI ds fun ax ds => dI ds fun ay ds => dI ds fun az ds => dI ds fun bx ds => dI ds fun b_y ds => dI ds fun bz ds => dE ds (Q (.agg [.int .i64 (V.x3 (V.tAdd (ax, ay, az) (bx, b_y, bz))), .int .i64 (V.y3 (V.tAdd (ax, ay, az) (bx, b_y, bz))), .int .i64 (V.z3 (V.tAdd (ax, ay, az) (bx, b_y, bz)))]) ([.cells [.bool (V.on (V.tAdd (ax, ay, az) (bx, b_y, bz)) bad)] 27]))
theorem vadd_h_ok {α : Type} : FnOk E.P 16 (fEnt (α := α) vadd_sp vadd_h) :=
  fEnt_ok E (look_norm_ok) (exec_sound E E_ok (look_norm_ok) (noLps_ok _) 400) fun ds Q r h => by
    unfold vadd_h at h
    obtain ⟨bad, ds, rfl, h1⟩ := dB_inv h
    obtain ⟨ax, ds, rfl, h2⟩ := dI_inv h1
    obtain ⟨ay, ds, rfl, h3⟩ := dI_inv h2
    obtain ⟨az, ds, rfl, h4⟩ := dI_inv h3
    obtain ⟨bx, ds, rfl, h5⟩ := dI_inv h4
    obtain ⟨b_y, ds, rfl, h6⟩ := dI_inv h5
    obtain ⟨bz, ds, rfl, h7⟩ := dI_inv h6
    obtain ⟨rfl, hE⟩ := dE_inv h7
    exact ⟨[SV.ptr (nat_lit 0) (nat_lit 0), SV.agg [SV.int IntKind.i64 ax, SV.int IntKind.i64 ay, SV.int IntKind.i64 az], SV.agg [SV.int IntKind.i64 bx, SV.int IntKind.i64 b_y, SV.int IntKind.i64 bz]], [SObj.cells [SV.bool bad] (nat_lit 27)], fun vs => by kernel_rfl, (vadd_eq bad ax ay az bx b_y bz Q).trans ((vadd_v bad ax ay az bx b_y bz _).trans hE)⟩
noncomputable def look_vadd {α : Type} : LookF α := addFn 16 (fEnt vadd_sp vadd_h) look_norm
theorem look_vadd_ok {α : Type} : LookOk E.P (look_vadd (α := α)) := addFn_ok vadd_h_ok (look_norm_ok)
noncomputable def _root_.Go.Proofs.Ytmcifgaaojgheaa.M.vsub {α : Type} (bad : Bool) (ax : Int) (ay : Int) (az : Int) (bx : Int) (b_y : Int) (bz : Int) (k0 : Int → Int → Int → Bool → Option α) : Option α :=
  if V.gn (V.mSub az bz) (V.gn (V.mSub ay b_y) (V.gn (V.mSub ax bx) false)) = true then k0 (0 : Int) (0 : Int) (0 : Int) true else k0 (V.gv (V.mSub ax bx)) (V.gv (V.mSub ay b_y)) (V.gv (V.mSub az bz)) bad
theorem vsub_eq {α : Type} (bad : Bool) (ax : Int) (ay : Int) (az : Int) (bx : Int) (b_y : Int) (bz : Int) (Q : SV → Hp → Option α) : callI E look_vadd (exec E look_vadd noLps 400) 22 ([SV.ptr (nat_lit 0) (nat_lit 0), SV.agg [SV.int IntKind.i64 ax, SV.int IntKind.i64 ay, SV.int IntKind.i64 az], SV.agg [SV.int IntKind.i64 bx, SV.int IntKind.i64 b_y, SV.int IntKind.i64 bz]]) ([SObj.cells [SV.bool bad] (nat_lit 27)]) Q = Go.Proofs.Ytmcifgaaojgheaa.M.vsub bad ax ay az bx b_y bz (fun (x4 : Int) (x5 : Int) (x6 : Int) (x7 : Bool) => Q (SV.agg [SV.int IntKind.i64 x4, SV.int IntKind.i64 x5, SV.int IntKind.i64 x6]) ([SObj.cells [SV.bool x7] (nat_lit 27)])) := by kernel_rfl
def vsub_sp : List AS := [.ptr 27 [.bool false], .val (.agg [.int .i64 0, .int .i64 0, .int .i64 0]), .val (.agg [.int .i64 0, .int .i64 0, .int .i64 0])]
noncomputable def vsub_go {α : Type} (ds : List D) (Q : SV → Hp → Option α) : Option α :=
  dB ds fun bad ds => dI ds fun ax ds => dI ds fun ay ds => dI ds fun az ds => dI ds fun bx ds => dI ds fun b_y ds => dI ds fun bz ds => dE ds (Go.Proofs.Ytmcifgaaojgheaa.M.vsub bad ax ay az bx b_y bz (fun (x4 : Int) (x5 : Int) (x6 : Int) (x7 : Bool) => Q (SV.agg [SV.int IntKind.i64 x4, SV.int IntKind.i64 x5, SV.int IntKind.i64 x6]) ([SObj.cells [SV.bool x7] (nat_lit 27)])))
theorem vsub_ok {α : Type} : FnOk E.P 22 (fEnt (α := α) vsub_sp vsub_go) :=
  fEnt_ok E (look_vadd_ok) (exec_sound E E_ok (look_vadd_ok) (noLps_ok _) 400) fun ds Q r h => by
    unfold vsub_go at h
    obtain ⟨bad, ds, rfl, h1⟩ := dB_inv h
    obtain ⟨ax, ds, rfl, h2⟩ := dI_inv h1
    obtain ⟨ay, ds, rfl, h3⟩ := dI_inv h2
    obtain ⟨az, ds, rfl, h4⟩ := dI_inv h3
    obtain ⟨bx, ds, rfl, h5⟩ := dI_inv h4
    obtain ⟨b_y, ds, rfl, h6⟩ := dI_inv h5
    obtain ⟨bz, ds, rfl, h7⟩ := dI_inv h6
    obtain ⟨rfl, hE⟩ := dE_inv h7
    exact ⟨[SV.ptr (nat_lit 0) (nat_lit 0), SV.agg [SV.int IntKind.i64 ax, SV.int IntKind.i64 ay, SV.int IntKind.i64 az], SV.agg [SV.int IntKind.i64 bx, SV.int IntKind.i64 b_y, SV.int IntKind.i64 bz]], [SObj.cells [SV.bool bad] (nat_lit 27)], fun vs => by kernel_rfl, (vsub_eq bad ax ay az bx b_y bz Q).trans hE⟩
theorem vsub_v {α : Type} (bad : Bool) (ax : Int) (ay : Int) (az : Int) (bx : Int) (b_y : Int) (bz : Int) (k0 : Int → Int → Int → Bool → Option α) : M.vsub bad ax ay az bx b_y bz k0 = k0 (V.x3 (V.tSub (ax, ay, az) (bx, b_y, bz))) (V.y3 (V.tSub (ax, ay, az) (bx, b_y, bz))) (V.z3 (V.tSub (ax, ay, az) (bx, b_y, bz))) (V.on (V.tSub (ax, ay, az) (bx, b_y, bz)) bad) := by
  unfold M.vsub V.tSub V.t3
  generalize h0 : V.mSub ax bx = o0
  generalize h1 : V.mSub ay b_y = o1
  generalize h2 : V.mSub az bz = o2
  cases o0 <;> cases o1 <;> cases o2 <;> rfl
noncomputable def vsub_h {α : Type} (ds : List D) (Q : SV → Hp → Option α) : Option α :=
  dB ds fun bad ds => dI ds fun ax ds => dI ds fun ay ds => dI ds fun az ds => dI ds fun bx ds => dI ds fun b_y ds => dI ds fun bz ds => dE ds (Q (.agg [.int .i64 (V.x3 (V.tSub (ax, ay, az) (bx, b_y, bz))), .int .i64 (V.y3 (V.tSub (ax, ay, az) (bx, b_y, bz))), .int .i64 (V.z3 (V.tSub (ax, ay, az) (bx, b_y, bz)))]) ([.cells [.bool (V.on (V.tSub (ax, ay, az) (bx, b_y, bz)) bad)] 27]))
theorem vsub_h_ok {α : Type} : FnOk E.P 22 (fEnt (α := α) vsub_sp vsub_h) :=
  fEnt_ok E (look_vadd_ok) (exec_sound E E_ok (look_vadd_ok) (noLps_ok _) 400) fun ds Q r h => by
    unfold vsub_h at h
    obtain ⟨bad, ds, rfl, h1⟩ := dB_inv h
    obtain ⟨ax, ds, rfl, h2⟩ := dI_inv h1
    obtain ⟨ay, ds, rfl, h3⟩ := dI_inv h2
    obtain ⟨az, ds, rfl, h4⟩ := dI_inv h3
    obtain ⟨bx, ds, rfl, h5⟩ := dI_inv h4
    obtain ⟨b_y, ds, rfl, h6⟩ := dI_inv h5
    obtain ⟨bz, ds, rfl, h7⟩ := dI_inv h6
    obtain ⟨rfl, hE⟩ := dE_inv h7
    exact ⟨[SV.ptr (nat_lit 0) (nat_lit 0), SV.agg [SV.int IntKind.i64 ax, SV.int IntKind.i64 ay, SV.int IntKind.i64 az], SV.agg [SV.int IntKind.i64 bx, SV.int IntKind.i64 b_y, SV.int IntKind.i64 bz]], [SObj.cells [SV.bool bad] (nat_lit 27)], fun vs => by kernel_rfl, (vsub_eq bad ax ay az bx b_y bz Q).trans ((vsub_v bad ax ay az bx b_y bz _).trans hE)⟩
noncomputable def look_vsub {α : Type} : LookF α := addFn 22 (fEnt vsub_sp vsub_h) look_vadd
theorem look_vsub_ok {α : Type} : LookOk E.P (look_vsub (α := α)) := addFn_ok vsub_h_ok (look_vadd_ok)
noncomputable def _root_.Go.Proofs.Ytmcifgaaojgheaa.M.vscale {α : Type} (bad : Bool) (ax : Int) (ay : Int) (az : Int) (n : Int) (k0 : Int → Int → Int → Bool → Option α) : Option α :=
  if V.gn (V.mMul az n) (V.gn (V.mMul ay n) (V.gn (V.mMul ax n) false)) = true then k0 (0 : Int) (0 : Int) (0 : Int) true else k0 (V.gv (V.mMul ax n)) (V.gv (V.mMul ay n)) (V.gv (V.mMul az n)) bad
theorem vscale_eq {α : Type} (bad : Bool) (ax : Int) (ay : Int) (az : Int) (n : Int) (Q : SV → Hp → Option α) : callI E look_vsub (exec E look_vsub noLps 400) 26 ([SV.ptr (nat_lit 0) (nat_lit 0), SV.agg [SV.int IntKind.i64 ax, SV.int IntKind.i64 ay, SV.int IntKind.i64 az], SV.int IntKind.i64 n]) ([SObj.cells [SV.bool bad] (nat_lit 27)]) Q = Go.Proofs.Ytmcifgaaojgheaa.M.vscale bad ax ay az n (fun (x8 : Int) (x9 : Int) (x10 : Int) (x11 : Bool) => Q (SV.agg [SV.int IntKind.i64 x8, SV.int IntKind.i64 x9, SV.int IntKind.i64 x10]) ([SObj.cells [SV.bool x11] (nat_lit 27)])) := by kernel_rfl
def vscale_sp : List AS := [.ptr 27 [.bool false], .val (.agg [.int .i64 0, .int .i64 0, .int .i64 0]), .val (.int .i64 0)]
noncomputable def vscale_go {α : Type} (ds : List D) (Q : SV → Hp → Option α) : Option α :=
  dB ds fun bad ds => dI ds fun ax ds => dI ds fun ay ds => dI ds fun az ds => dI ds fun n ds => dE ds (Go.Proofs.Ytmcifgaaojgheaa.M.vscale bad ax ay az n (fun (x8 : Int) (x9 : Int) (x10 : Int) (x11 : Bool) => Q (SV.agg [SV.int IntKind.i64 x8, SV.int IntKind.i64 x9, SV.int IntKind.i64 x10]) ([SObj.cells [SV.bool x11] (nat_lit 27)])))
theorem vscale_ok {α : Type} : FnOk E.P 26 (fEnt (α := α) vscale_sp vscale_go) :=
  fEnt_ok E (look_vsub_ok) (exec_sound E E_ok (look_vsub_ok) (noLps_ok _) 400) fun ds Q r h => by
    unfold vscale_go at h
    obtain ⟨bad, ds, rfl, h1⟩ := dB_inv h
    obtain ⟨ax, ds, rfl, h2⟩ := dI_inv h1
    obtain ⟨ay, ds, rfl, h3⟩ := dI_inv h2
    obtain ⟨az, ds, rfl, h4⟩ := dI_inv h3
    obtain ⟨n, ds, rfl, h5⟩ := dI_inv h4
    obtain ⟨rfl, hE⟩ := dE_inv h5
    exact ⟨[SV.ptr (nat_lit 0) (nat_lit 0), SV.agg [SV.int IntKind.i64 ax, SV.int IntKind.i64 ay, SV.int IntKind.i64 az], SV.int IntKind.i64 n], [SObj.cells [SV.bool bad] (nat_lit 27)], fun vs => by kernel_rfl, (vscale_eq bad ax ay az n Q).trans hE⟩
theorem vscale_v {α : Type} (bad : Bool) (ax : Int) (ay : Int) (az : Int) (n : Int) (k0 : Int → Int → Int → Bool → Option α) : M.vscale bad ax ay az n k0 = k0 (V.x3 (V.tScale (ax, ay, az) n)) (V.y3 (V.tScale (ax, ay, az) n)) (V.z3 (V.tScale (ax, ay, az) n)) (V.on (V.tScale (ax, ay, az) n) bad) := by
  unfold M.vscale V.tScale V.t3
  generalize h0 : V.mMul ax n = o0
  generalize h1 : V.mMul ay n = o1
  generalize h2 : V.mMul az n = o2
  cases o0 <;> cases o1 <;> cases o2 <;> rfl
noncomputable def vscale_h {α : Type} (ds : List D) (Q : SV → Hp → Option α) : Option α :=
  dB ds fun bad ds => dI ds fun ax ds => dI ds fun ay ds => dI ds fun az ds => dI ds fun n ds => dE ds (Q (.agg [.int .i64 (V.x3 (V.tScale (ax, ay, az) n)), .int .i64 (V.y3 (V.tScale (ax, ay, az) n)), .int .i64 (V.z3 (V.tScale (ax, ay, az) n))]) ([.cells [.bool (V.on (V.tScale (ax, ay, az) n) bad)] 27]))
theorem vscale_h_ok {α : Type} : FnOk E.P 26 (fEnt (α := α) vscale_sp vscale_h) :=
  fEnt_ok E (look_vsub_ok) (exec_sound E E_ok (look_vsub_ok) (noLps_ok _) 400) fun ds Q r h => by
    unfold vscale_h at h
    obtain ⟨bad, ds, rfl, h1⟩ := dB_inv h
    obtain ⟨ax, ds, rfl, h2⟩ := dI_inv h1
    obtain ⟨ay, ds, rfl, h3⟩ := dI_inv h2
    obtain ⟨az, ds, rfl, h4⟩ := dI_inv h3
    obtain ⟨n, ds, rfl, h5⟩ := dI_inv h4
    obtain ⟨rfl, hE⟩ := dE_inv h5
    exact ⟨[SV.ptr (nat_lit 0) (nat_lit 0), SV.agg [SV.int IntKind.i64 ax, SV.int IntKind.i64 ay, SV.int IntKind.i64 az], SV.int IntKind.i64 n], [SObj.cells [SV.bool bad] (nat_lit 27)], fun vs => by kernel_rfl, (vscale_eq bad ax ay az n Q).trans ((vscale_v bad ax ay az n _).trans hE)⟩
noncomputable def look_vscale {α : Type} : LookF α := addFn 26 (fEnt vscale_sp vscale_h) look_vsub
theorem look_vscale_ok {α : Type} : LookOk E.P (look_vscale (α := α)) := addFn_ok vscale_h_ok (look_vsub_ok)
noncomputable def _root_.Go.Proofs.Ytmcifgaaojgheaa.M.vdot {α : Type} (bad : Bool) (ax : Int) (ay : Int) (az : Int) (bx : Int) (b_y : Int) (bz : Int) (k0 : Int → Bool → Option α) : Option α :=
  if V.gn (V.mDot [ax, ay, az] [bx, b_y, bz]) false = true then k0 (0 : Int) true else k0 (V.gv (V.mDot [ax, ay, az] [bx, b_y, bz])) bad
theorem vdot_eq {α : Type} (bad : Bool) (ax : Int) (ay : Int) (az : Int) (bx : Int) (b_y : Int) (bz : Int) (Q : SV → Hp → Option α) : callI E look_vscale (exec E look_vscale noLps 400) 21 ([SV.ptr (nat_lit 0) (nat_lit 0), SV.agg [SV.int IntKind.i64 ax, SV.int IntKind.i64 ay, SV.int IntKind.i64 az], SV.agg [SV.int IntKind.i64 bx, SV.int IntKind.i64 b_y, SV.int IntKind.i64 bz]]) ([SObj.cells [SV.bool bad] (nat_lit 27)]) Q = Go.Proofs.Ytmcifgaaojgheaa.M.vdot bad ax ay az bx b_y bz (fun (x12 : Int) (x13 : Bool) => Q (SV.int IntKind.i64 x12) ([SObj.cells [SV.bool x13] (nat_lit 27)])) := by kernel_rfl
def vdot_sp : List AS := [.ptr 27 [.bool false], .val (.agg [.int .i64 0, .int .i64 0, .int .i64 0]), .val (.agg [.int .i64 0, .int .i64 0, .int .i64 0])]
noncomputable def vdot_go {α : Type} (ds : List D) (Q : SV → Hp → Option α) : Option α :=
  dB ds fun bad ds => dI ds fun ax ds => dI ds fun ay ds => dI ds fun az ds => dI ds fun bx ds => dI ds fun b_y ds => dI ds fun bz ds => dE ds (Go.Proofs.Ytmcifgaaojgheaa.M.vdot bad ax ay az bx b_y bz (fun (x12 : Int) (x13 : Bool) => Q (SV.int IntKind.i64 x12) ([SObj.cells [SV.bool x13] (nat_lit 27)])))
theorem vdot_ok {α : Type} : FnOk E.P 21 (fEnt (α := α) vdot_sp vdot_go) :=
  fEnt_ok E (look_vscale_ok) (exec_sound E E_ok (look_vscale_ok) (noLps_ok _) 400) fun ds Q r h => by
    unfold vdot_go at h
    obtain ⟨bad, ds, rfl, h1⟩ := dB_inv h
    obtain ⟨ax, ds, rfl, h2⟩ := dI_inv h1
    obtain ⟨ay, ds, rfl, h3⟩ := dI_inv h2
    obtain ⟨az, ds, rfl, h4⟩ := dI_inv h3
    obtain ⟨bx, ds, rfl, h5⟩ := dI_inv h4
    obtain ⟨b_y, ds, rfl, h6⟩ := dI_inv h5
    obtain ⟨bz, ds, rfl, h7⟩ := dI_inv h6
    obtain ⟨rfl, hE⟩ := dE_inv h7
    exact ⟨[SV.ptr (nat_lit 0) (nat_lit 0), SV.agg [SV.int IntKind.i64 ax, SV.int IntKind.i64 ay, SV.int IntKind.i64 az], SV.agg [SV.int IntKind.i64 bx, SV.int IntKind.i64 b_y, SV.int IntKind.i64 bz]], [SObj.cells [SV.bool bad] (nat_lit 27)], fun vs => by kernel_rfl, (vdot_eq bad ax ay az bx b_y bz Q).trans hE⟩
theorem vdot_v {α : Type} (bad : Bool) (ax : Int) (ay : Int) (az : Int) (bx : Int) (b_y : Int) (bz : Int) (k0 : Int → Bool → Option α) : M.vdot bad ax ay az bx b_y bz k0 = k0 (V.gv (V.tDot (ax, ay, az) (bx, b_y, bz))) (V.gn (V.tDot (ax, ay, az) (bx, b_y, bz)) bad) := by
  unfold M.vdot V.tDot
  generalize h0 : V.mDot [ax, ay, az] [bx, b_y, bz] = o0
  cases o0 <;> rfl
noncomputable def vdot_h {α : Type} (ds : List D) (Q : SV → Hp → Option α) : Option α :=
  dB ds fun bad ds => dI ds fun ax ds => dI ds fun ay ds => dI ds fun az ds => dI ds fun bx ds => dI ds fun b_y ds => dI ds fun bz ds => dE ds (Q (.int .i64 (V.gv (V.tDot (ax, ay, az) (bx, b_y, bz)))) ([.cells [.bool (V.gn (V.tDot (ax, ay, az) (bx, b_y, bz)) bad)] 27]))
theorem vdot_h_ok {α : Type} : FnOk E.P 21 (fEnt (α := α) vdot_sp vdot_h) :=
  fEnt_ok E (look_vscale_ok) (exec_sound E E_ok (look_vscale_ok) (noLps_ok _) 400) fun ds Q r h => by
    unfold vdot_h at h
    obtain ⟨bad, ds, rfl, h1⟩ := dB_inv h
    obtain ⟨ax, ds, rfl, h2⟩ := dI_inv h1
    obtain ⟨ay, ds, rfl, h3⟩ := dI_inv h2
    obtain ⟨az, ds, rfl, h4⟩ := dI_inv h3
    obtain ⟨bx, ds, rfl, h5⟩ := dI_inv h4
    obtain ⟨b_y, ds, rfl, h6⟩ := dI_inv h5
    obtain ⟨bz, ds, rfl, h7⟩ := dI_inv h6
    obtain ⟨rfl, hE⟩ := dE_inv h7
    exact ⟨[SV.ptr (nat_lit 0) (nat_lit 0), SV.agg [SV.int IntKind.i64 ax, SV.int IntKind.i64 ay, SV.int IntKind.i64 az], SV.agg [SV.int IntKind.i64 bx, SV.int IntKind.i64 b_y, SV.int IntKind.i64 bz]], [SObj.cells [SV.bool bad] (nat_lit 27)], fun vs => by kernel_rfl, (vdot_eq bad ax ay az bx b_y bz Q).trans ((vdot_v bad ax ay az bx b_y bz _).trans hE)⟩
noncomputable def look_vdot {α : Type} : LookF α := addFn 21 (fEnt vdot_sp vdot_h) look_vscale
theorem look_vdot_ok {α : Type} : LookOk E.P (look_vdot (α := α)) := addFn_ok vdot_h_ok (look_vscale_ok)
noncomputable def _root_.Go.Proofs.Ytmcifgaaojgheaa.M.vcross {α : Type} (bad : Bool) (ax : Int) (ay : Int) (az : Int) (bx : Int) (b_y : Int) (bz : Int) (k0 : Int → Int → Int → Bool → Option α) : Option α :=
  if V.gn (V.mDot [ax, ay] [b_y, V.gv (V.mSub (0 : Int) bx)]) (V.gn (V.mDot [az, ax] [bx, V.gv (V.mSub (0 : Int) bz)]) (V.gn (V.mDot [ay, az] [bz, V.gv (V.mSub (0 : Int) b_y)]) (V.gn (V.mSub (0 : Int) bz) (V.gn (V.mSub (0 : Int) b_y) (V.gn (V.mSub (0 : Int) bx) false))))) = true then k0 (0 : Int) (0 : Int) (0 : Int) true
else k0 (V.gv (V.mDot [ay, az] [bz, V.gv (V.mSub (0 : Int) b_y)])) (V.gv (V.mDot [az, ax] [bx, V.gv (V.mSub (0 : Int) bz)])) (V.gv (V.mDot [ax, ay] [b_y, V.gv (V.mSub (0 : Int) bx)])) bad
theorem vcross_eq {α : Type} (bad : Bool) (ax : Int) (ay : Int) (az : Int) (bx : Int) (b_y : Int) (bz : Int) (Q : SV → Hp → Option α) : callI E look_vdot (exec E look_vdot noLps 400) 11 ([SV.ptr (nat_lit 0) (nat_lit 0), SV.agg [SV.int IntKind.i64 ax, SV.int IntKind.i64 ay, SV.int IntKind.i64 az], SV.agg [SV.int IntKind.i64 bx, SV.int IntKind.i64 b_y, SV.int IntKind.i64 bz]]) ([SObj.cells [SV.bool bad] (nat_lit 27)]) Q = Go.Proofs.Ytmcifgaaojgheaa.M.vcross bad ax ay az bx b_y bz (fun (x14 : Int) (x15 : Int) (x16 : Int) (x17 : Bool) => Q (SV.agg [SV.int IntKind.i64 x14, SV.int IntKind.i64 x15, SV.int IntKind.i64 x16]) ([SObj.cells [SV.bool x17] (nat_lit 27)])) := by kernel_rfl
def vcross_sp : List AS := [.ptr 27 [.bool false], .val (.agg [.int .i64 0, .int .i64 0, .int .i64 0]), .val (.agg [.int .i64 0, .int .i64 0, .int .i64 0])]
noncomputable def vcross_go {α : Type} (ds : List D) (Q : SV → Hp → Option α) : Option α :=
  dB ds fun bad ds => dI ds fun ax ds => dI ds fun ay ds => dI ds fun az ds => dI ds fun bx ds => dI ds fun b_y ds => dI ds fun bz ds => dE ds (Go.Proofs.Ytmcifgaaojgheaa.M.vcross bad ax ay az bx b_y bz (fun (x14 : Int) (x15 : Int) (x16 : Int) (x17 : Bool) => Q (SV.agg [SV.int IntKind.i64 x14, SV.int IntKind.i64 x15, SV.int IntKind.i64 x16]) ([SObj.cells [SV.bool x17] (nat_lit 27)])))
theorem vcross_ok {α : Type} : FnOk E.P 11 (fEnt (α := α) vcross_sp vcross_go) :=
  fEnt_ok E (look_vdot_ok) (exec_sound E E_ok (look_vdot_ok) (noLps_ok _) 400) fun ds Q r h => by
    unfold vcross_go at h
    obtain ⟨bad, ds, rfl, h1⟩ := dB_inv h
    obtain ⟨ax, ds, rfl, h2⟩ := dI_inv h1
    obtain ⟨ay, ds, rfl, h3⟩ := dI_inv h2
    obtain ⟨az, ds, rfl, h4⟩ := dI_inv h3
    obtain ⟨bx, ds, rfl, h5⟩ := dI_inv h4
    obtain ⟨b_y, ds, rfl, h6⟩ := dI_inv h5
    obtain ⟨bz, ds, rfl, h7⟩ := dI_inv h6
    obtain ⟨rfl, hE⟩ := dE_inv h7
    exact ⟨[SV.ptr (nat_lit 0) (nat_lit 0), SV.agg [SV.int IntKind.i64 ax, SV.int IntKind.i64 ay, SV.int IntKind.i64 az], SV.agg [SV.int IntKind.i64 bx, SV.int IntKind.i64 b_y, SV.int IntKind.i64 bz]], [SObj.cells [SV.bool bad] (nat_lit 27)], fun vs => by kernel_rfl, (vcross_eq bad ax ay az bx b_y bz Q).trans hE⟩
theorem vcross_v {α : Type} (bad : Bool) (ax : Int) (ay : Int) (az : Int) (bx : Int) (b_y : Int) (bz : Int) (k0 : Int → Int → Int → Bool → Option α) : M.vcross bad ax ay az bx b_y bz k0 = k0 (V.x3 (V.tCross (ax, ay, az) (bx, b_y, bz))) (V.y3 (V.tCross (ax, ay, az) (bx, b_y, bz))) (V.z3 (V.tCross (ax, ay, az) (bx, b_y, bz))) (V.on (V.tCross (ax, ay, az) (bx, b_y, bz)) bad) := by
  unfold M.vcross V.tCross V.t3
  generalize V.mDot [ax, ay] [b_y, V.gv (V.mSub 0 bx)] = o3
  generalize V.mDot [az, ax] [bx, V.gv (V.mSub 0 bz)] = o4
  generalize V.mDot [ay, az] [bz, V.gv (V.mSub 0 b_y)] = o5
  generalize V.mSub 0 bx = o0
  generalize V.mSub 0 b_y = o1
  generalize V.mSub 0 bz = o2
  cases o0 <;> cases o1 <;> cases o2 <;> cases o3 <;> cases o4 <;> cases o5 <;> rfl
noncomputable def vcross_h {α : Type} (ds : List D) (Q : SV → Hp → Option α) : Option α :=
  dB ds fun bad ds => dI ds fun ax ds => dI ds fun ay ds => dI ds fun az ds => dI ds fun bx ds => dI ds fun b_y ds => dI ds fun bz ds => dE ds (Q (.agg [.int .i64 (V.x3 (V.tCross (ax, ay, az) (bx, b_y, bz))), .int .i64 (V.y3 (V.tCross (ax, ay, az) (bx, b_y, bz))), .int .i64 (V.z3 (V.tCross (ax, ay, az) (bx, b_y, bz)))]) ([.cells [.bool (V.on (V.tCross (ax, ay, az) (bx, b_y, bz)) bad)] 27]))
theorem vcross_h_ok {α : Type} : FnOk E.P 11 (fEnt (α := α) vcross_sp vcross_h) :=
  fEnt_ok E (look_vdot_ok) (exec_sound E E_ok (look_vdot_ok) (noLps_ok _) 400) fun ds Q r h => by
    unfold vcross_h at h
    obtain ⟨bad, ds, rfl, h1⟩ := dB_inv h
    obtain ⟨ax, ds, rfl, h2⟩ := dI_inv h1
    obtain ⟨ay, ds, rfl, h3⟩ := dI_inv h2
    obtain ⟨az, ds, rfl, h4⟩ := dI_inv h3
    obtain ⟨bx, ds, rfl, h5⟩ := dI_inv h4
    obtain ⟨b_y, ds, rfl, h6⟩ := dI_inv h5
    obtain ⟨bz, ds, rfl, h7⟩ := dI_inv h6
    obtain ⟨rfl, hE⟩ := dE_inv h7
    exact ⟨[SV.ptr (nat_lit 0) (nat_lit 0), SV.agg [SV.int IntKind.i64 ax, SV.int IntKind.i64 ay, SV.int IntKind.i64 az], SV.agg [SV.int IntKind.i64 bx, SV.int IntKind.i64 b_y, SV.int IntKind.i64 bz]], [SObj.cells [SV.bool bad] (nat_lit 27)], fun vs => by kernel_rfl, (vcross_eq bad ax ay az bx b_y bz Q).trans ((vcross_v bad ax ay az bx b_y bz _).trans hE)⟩
noncomputable def look_vcross {α : Type} : LookF α := addFn 11 (fEnt vcross_sp vcross_h) look_vdot
theorem look_vcross_ok {α : Type} : LookOk E.P (look_vcross (α := α)) := addFn_ok vcross_h_ok (look_vdot_ok)
noncomputable def _root_.Go.Proofs.Ytmcifgaaojgheaa.M.vlen {α : Type} (bad : Bool) (ax : Int) (ay : Int) (az : Int) (k0 : Int → Bool → Option α) : Option α :=
  if V.gn (V.mNorm [ax, ay, az]) false = true then k0 (0 : Int) true else k0 (V.gv (V.mNorm [ax, ay, az])) bad
theorem vlen_eq {α : Type} (bad : Bool) (ax : Int) (ay : Int) (az : Int) (Q : SV → Hp → Option α) : callI E look_vcross (exec E look_vcross noLps 400) 19 ([SV.ptr (nat_lit 0) (nat_lit 0), SV.agg [SV.int IntKind.i64 ax, SV.int IntKind.i64 ay, SV.int IntKind.i64 az]]) ([SObj.cells [SV.bool bad] (nat_lit 27)]) Q = Go.Proofs.Ytmcifgaaojgheaa.M.vlen bad ax ay az (fun (x18 : Int) (x19 : Bool) => Q (SV.int IntKind.i64 x18) ([SObj.cells [SV.bool x19] (nat_lit 27)])) := by kernel_rfl
def vlen_sp : List AS := [.ptr 27 [.bool false], .val (.agg [.int .i64 0, .int .i64 0, .int .i64 0])]
noncomputable def vlen_go {α : Type} (ds : List D) (Q : SV → Hp → Option α) : Option α :=
  dB ds fun bad ds => dI ds fun ax ds => dI ds fun ay ds => dI ds fun az ds => dE ds (Go.Proofs.Ytmcifgaaojgheaa.M.vlen bad ax ay az (fun (x18 : Int) (x19 : Bool) => Q (SV.int IntKind.i64 x18) ([SObj.cells [SV.bool x19] (nat_lit 27)])))
theorem vlen_ok {α : Type} : FnOk E.P 19 (fEnt (α := α) vlen_sp vlen_go) :=
  fEnt_ok E (look_vcross_ok) (exec_sound E E_ok (look_vcross_ok) (noLps_ok _) 400) fun ds Q r h => by
    unfold vlen_go at h
    obtain ⟨bad, ds, rfl, h1⟩ := dB_inv h
    obtain ⟨ax, ds, rfl, h2⟩ := dI_inv h1
    obtain ⟨ay, ds, rfl, h3⟩ := dI_inv h2
    obtain ⟨az, ds, rfl, h4⟩ := dI_inv h3
    obtain ⟨rfl, hE⟩ := dE_inv h4
    exact ⟨[SV.ptr (nat_lit 0) (nat_lit 0), SV.agg [SV.int IntKind.i64 ax, SV.int IntKind.i64 ay, SV.int IntKind.i64 az]], [SObj.cells [SV.bool bad] (nat_lit 27)], fun vs => by kernel_rfl, (vlen_eq bad ax ay az Q).trans hE⟩
theorem vlen_v {α : Type} (bad : Bool) (ax : Int) (ay : Int) (az : Int) (k0 : Int → Bool → Option α) : M.vlen bad ax ay az k0 = k0 (V.gv (V.tLen (ax, ay, az))) (V.gn (V.tLen (ax, ay, az)) bad) := by
  unfold M.vlen V.tLen
  generalize h0 : V.mNorm [ax, ay, az] = o0
  cases o0 <;> rfl
noncomputable def vlen_h {α : Type} (ds : List D) (Q : SV → Hp → Option α) : Option α :=
  dB ds fun bad ds => dI ds fun ax ds => dI ds fun ay ds => dI ds fun az ds => dE ds (Q (.int .i64 (V.gv (V.tLen (ax, ay, az)))) ([.cells [.bool (V.gn (V.tLen (ax, ay, az)) bad)] 27]))
theorem vlen_h_ok {α : Type} : FnOk E.P 19 (fEnt (α := α) vlen_sp vlen_h) :=
  fEnt_ok E (look_vcross_ok) (exec_sound E E_ok (look_vcross_ok) (noLps_ok _) 400) fun ds Q r h => by
    unfold vlen_h at h
    obtain ⟨bad, ds, rfl, h1⟩ := dB_inv h
    obtain ⟨ax, ds, rfl, h2⟩ := dI_inv h1
    obtain ⟨ay, ds, rfl, h3⟩ := dI_inv h2
    obtain ⟨az, ds, rfl, h4⟩ := dI_inv h3
    obtain ⟨rfl, hE⟩ := dE_inv h4
    exact ⟨[SV.ptr (nat_lit 0) (nat_lit 0), SV.agg [SV.int IntKind.i64 ax, SV.int IntKind.i64 ay, SV.int IntKind.i64 az]], [SObj.cells [SV.bool bad] (nat_lit 27)], fun vs => by kernel_rfl, (vlen_eq bad ax ay az Q).trans ((vlen_v bad ax ay az _).trans hE)⟩
noncomputable def look_vlen {α : Type} : LookF α := addFn 19 (fEnt vlen_sp vlen_h) look_vcross
theorem look_vlen_ok {α : Type} : LookOk E.P (look_vlen (α := α)) := addFn_ok vlen_h_ok (look_vcross_ok)
noncomputable def _root_.Go.Proofs.Ytmcifgaaojgheaa.M.vunit {α : Type} (bad : Bool) (ax : Int) (ay : Int) (az : Int) (k0 : Int → Int → Int → Bool → Option α) : Option α :=
  if V.gn (V.mDiv az (V.gv (V.mNorm [ax, ay, az]))) (V.gn (V.mDiv ay (V.gv (V.mNorm [ax, ay, az]))) (V.gn (V.mDiv ax (V.gv (V.mNorm [ax, ay, az]))) (V.gn (V.mNorm [ax, ay, az]) false))) = true then k0 (0 : Int) (0 : Int) (0 : Int) true else k0 (V.gv (V.mDiv ax (V.gv (V.mNorm [ax, ay, az])))) (V.gv (V.mDiv ay (V.gv (V.mNorm [ax, ay, az])))) (V.gv (V.mDiv az (V.gv (V.mNorm [ax, ay, az])))) bad
theorem vunit_eq {α : Type} (bad : Bool) (ax : Int) (ay : Int) (az : Int) (Q : SV → Hp → Option α) : callI E look_vlen (exec E look_vlen noLps 400) 23 ([SV.ptr (nat_lit 0) (nat_lit 0), SV.agg [SV.int IntKind.i64 ax, SV.int IntKind.i64 ay, SV.int IntKind.i64 az]]) ([SObj.cells [SV.bool bad] (nat_lit 27)]) Q = Go.Proofs.Ytmcifgaaojgheaa.M.vunit bad ax ay az (fun (x20 : Int) (x21 : Int) (x22 : Int) (x23 : Bool) => Q (SV.agg [SV.int IntKind.i64 x20, SV.int IntKind.i64 x21, SV.int IntKind.i64 x22]) ([SObj.cells [SV.bool x23] (nat_lit 27)])) := by kernel_rfl
def vunit_sp : List AS := [.ptr 27 [.bool false], .val (.agg [.int .i64 0, .int .i64 0, .int .i64 0])]
noncomputable def vunit_go {α : Type} (ds : List D) (Q : SV → Hp → Option α) : Option α :=
  dB ds fun bad ds => dI ds fun ax ds => dI ds fun ay ds => dI ds fun az ds => dE ds (Go.Proofs.Ytmcifgaaojgheaa.M.vunit bad ax ay az (fun (x20 : Int) (x21 : Int) (x22 : Int) (x23 : Bool) => Q (SV.agg [SV.int IntKind.i64 x20, SV.int IntKind.i64 x21, SV.int IntKind.i64 x22]) ([SObj.cells [SV.bool x23] (nat_lit 27)])))
theorem vunit_ok {α : Type} : FnOk E.P 23 (fEnt (α := α) vunit_sp vunit_go) :=
  fEnt_ok E (look_vlen_ok) (exec_sound E E_ok (look_vlen_ok) (noLps_ok _) 400) fun ds Q r h => by
    unfold vunit_go at h
    obtain ⟨bad, ds, rfl, h1⟩ := dB_inv h
    obtain ⟨ax, ds, rfl, h2⟩ := dI_inv h1
    obtain ⟨ay, ds, rfl, h3⟩ := dI_inv h2
    obtain ⟨az, ds, rfl, h4⟩ := dI_inv h3
    obtain ⟨rfl, hE⟩ := dE_inv h4
    exact ⟨[SV.ptr (nat_lit 0) (nat_lit 0), SV.agg [SV.int IntKind.i64 ax, SV.int IntKind.i64 ay, SV.int IntKind.i64 az]], [SObj.cells [SV.bool bad] (nat_lit 27)], fun vs => by kernel_rfl, (vunit_eq bad ax ay az Q).trans hE⟩
theorem vunit_v {α : Type} (bad : Bool) (ax : Int) (ay : Int) (az : Int) (k0 : Int → Int → Int → Bool → Option α) : M.vunit bad ax ay az k0 = k0 (V.x3 (V.tUnit (ax, ay, az))) (V.y3 (V.tUnit (ax, ay, az))) (V.z3 (V.tUnit (ax, ay, az))) (V.on (V.tUnit (ax, ay, az)) bad) := by
  unfold M.vunit V.tUnit V.t3 V.tLen
  generalize V.mDiv ax (V.gv (V.mNorm [ax, ay, az])) = o0
  generalize V.mDiv ay (V.gv (V.mNorm [ax, ay, az])) = o1
  generalize V.mDiv az (V.gv (V.mNorm [ax, ay, az])) = o2
  generalize V.mNorm [ax, ay, az] = o3
  cases o0 <;> cases o1 <;> cases o2 <;> cases o3 <;> rfl
noncomputable def vunit_h {α : Type} (ds : List D) (Q : SV → Hp → Option α) : Option α :=
  dB ds fun bad ds => dI ds fun ax ds => dI ds fun ay ds => dI ds fun az ds => dE ds (Q (.agg [.int .i64 (V.x3 (V.tUnit (ax, ay, az))), .int .i64 (V.y3 (V.tUnit (ax, ay, az))), .int .i64 (V.z3 (V.tUnit (ax, ay, az)))]) ([.cells [.bool (V.on (V.tUnit (ax, ay, az)) bad)] 27]))
theorem vunit_h_ok {α : Type} : FnOk E.P 23 (fEnt (α := α) vunit_sp vunit_h) :=
  fEnt_ok E (look_vlen_ok) (exec_sound E E_ok (look_vlen_ok) (noLps_ok _) 400) fun ds Q r h => by
    unfold vunit_h at h
    obtain ⟨bad, ds, rfl, h1⟩ := dB_inv h
    obtain ⟨ax, ds, rfl, h2⟩ := dI_inv h1
    obtain ⟨ay, ds, rfl, h3⟩ := dI_inv h2
    obtain ⟨az, ds, rfl, h4⟩ := dI_inv h3
    obtain ⟨rfl, hE⟩ := dE_inv h4
    exact ⟨[SV.ptr (nat_lit 0) (nat_lit 0), SV.agg [SV.int IntKind.i64 ax, SV.int IntKind.i64 ay, SV.int IntKind.i64 az]], [SObj.cells [SV.bool bad] (nat_lit 27)], fun vs => by kernel_rfl, (vunit_eq bad ax ay az Q).trans ((vunit_v bad ax ay az _).trans hE)⟩
noncomputable def look_vunit {α : Type} : LookF α := addFn 23 (fEnt vunit_sp vunit_h) look_vlen
theorem look_vunit_ok {α : Type} : LookOk E.P (look_vunit (α := α)) := addFn_ok vunit_h_ok (look_vlen_ok)
noncomputable def _root_.Go.Proofs.Ytmcifgaaojgheaa.M.vturn {α : Type} (bad : Bool) (m0 : Int) (m1 : Int) (m2 : Int) (m3 : Int) (m4 : Int) (m5 : Int) (m6 : Int) (m7 : Int) (m8 : Int) (ax : Int) (ay : Int) (az : Int) (k0 : Int → Int → Int → Bool → Option α) : Option α :=
  if V.gn (V.mDot [m6, m7, m8] [ax, ay, az]) (V.gn (V.mDot [m3, m4, m5] [ax, ay, az]) (V.gn (V.mDot [m0, m1, m2] [ax, ay, az]) false)) = true then k0 (0 : Int) (0 : Int) (0 : Int) true else k0 (V.gv (V.mDot [m0, m1, m2] [ax, ay, az])) (V.gv (V.mDot [m3, m4, m5] [ax, ay, az])) (V.gv (V.mDot [m6, m7, m8] [ax, ay, az])) bad
theorem vturn_eq {α : Type} (bad : Bool) (m0 : Int) (m1 : Int) (m2 : Int) (m3 : Int) (m4 : Int) (m5 : Int) (m6 : Int) (m7 : Int) (m8 : Int) (ax : Int) (ay : Int) (az : Int) (Q : SV → Hp → Option α) : callI E look_vunit (exec E look_vunit noLps 400) 14 ([SV.ptr (nat_lit 0) (nat_lit 0), SV.agg [SV.int IntKind.i64 m0, SV.int IntKind.i64 m1, SV.int IntKind.i64 m2, SV.int IntKind.i64 m3, SV.int IntKind.i64 m4, SV.int IntKind.i64 m5, SV.int IntKind.i64 m6, SV.int IntKind.i64 m7, SV.int IntKind.i64 m8], SV.agg [SV.int IntKind.i64 ax, SV.int IntKind.i64 ay, SV.int IntKind.i64 az]]) ([SObj.cells [SV.bool bad] (nat_lit 27)]) Q = Go.Proofs.Ytmcifgaaojgheaa.M.vturn bad m0 m1 m2 m3 m4 m5 m6 m7 m8 ax ay az (fun (x24 : Int) (x25 : Int) (x26 : Int) (x27 : Bool) => Q (SV.agg [SV.int IntKind.i64 x24, SV.int IntKind.i64 x25, SV.int IntKind.i64 x26]) ([SObj.cells [SV.bool x27] (nat_lit 27)])) := by kernel_rfl
def vturn_sp : List AS := [.ptr 27 [.bool false], .val (.agg [.int .i64 0, .int .i64 0, .int .i64 0, .int .i64 0, .int .i64 0, .int .i64 0, .int .i64 0, .int .i64 0, .int .i64 0]), .val (.agg [.int .i64 0, .int .i64 0, .int .i64 0])]
noncomputable def vturn_go {α : Type} (ds : List D) (Q : SV → Hp → Option α) : Option α :=
  dB ds fun bad ds => dI ds fun m0 ds => dI ds fun m1 ds => dI ds fun m2 ds => dI ds fun m3 ds => dI ds fun m4 ds => dI ds fun m5 ds => dI ds fun m6 ds => dI ds fun m7 ds => dI ds fun m8 ds => dI ds fun ax ds => dI ds fun ay ds => dI ds fun az ds => dE ds (Go.Proofs.Ytmcifgaaojgheaa.M.vturn bad m0 m1 m2 m3 m4 m5 m6 m7 m8 ax ay az (fun (x24 : Int) (x25 : Int) (x26 : Int) (x27 : Bool) => Q (SV.agg [SV.int IntKind.i64 x24, SV.int IntKind.i64 x25, SV.int IntKind.i64 x26]) ([SObj.cells [SV.bool x27] (nat_lit 27)])))
theorem vturn_ok {α : Type} : FnOk E.P 14 (fEnt (α := α) vturn_sp vturn_go) :=
  fEnt_ok E (look_vunit_ok) (exec_sound E E_ok (look_vunit_ok) (noLps_ok _) 400) fun ds Q r h => by
    unfold vturn_go at h
    obtain ⟨bad, ds, rfl, h1⟩ := dB_inv h
    obtain ⟨m0, ds, rfl, h2⟩ := dI_inv h1
    obtain ⟨m1, ds, rfl, h3⟩ := dI_inv h2
    obtain ⟨m2, ds, rfl, h4⟩ := dI_inv h3
    obtain ⟨m3, ds, rfl, h5⟩ := dI_inv h4
    obtain ⟨m4, ds, rfl, h6⟩ := dI_inv h5
    obtain ⟨m5, ds, rfl, h7⟩ := dI_inv h6
    obtain ⟨m6, ds, rfl, h8⟩ := dI_inv h7
    obtain ⟨m7, ds, rfl, h9⟩ := dI_inv h8
    obtain ⟨m8, ds, rfl, h10⟩ := dI_inv h9
    obtain ⟨ax, ds, rfl, h11⟩ := dI_inv h10
    obtain ⟨ay, ds, rfl, h12⟩ := dI_inv h11
    obtain ⟨az, ds, rfl, h13⟩ := dI_inv h12
    obtain ⟨rfl, hE⟩ := dE_inv h13
    exact ⟨[SV.ptr (nat_lit 0) (nat_lit 0), SV.agg [SV.int IntKind.i64 m0, SV.int IntKind.i64 m1, SV.int IntKind.i64 m2, SV.int IntKind.i64 m3, SV.int IntKind.i64 m4, SV.int IntKind.i64 m5, SV.int IntKind.i64 m6, SV.int IntKind.i64 m7, SV.int IntKind.i64 m8], SV.agg [SV.int IntKind.i64 ax, SV.int IntKind.i64 ay, SV.int IntKind.i64 az]], [SObj.cells [SV.bool bad] (nat_lit 27)], fun vs => by kernel_rfl, (vturn_eq bad m0 m1 m2 m3 m4 m5 m6 m7 m8 ax ay az Q).trans hE⟩
theorem vturn_v {α : Type} (bad : Bool) (m0 : Int) (m1 : Int) (m2 : Int) (m3 : Int) (m4 : Int) (m5 : Int) (m6 : Int) (m7 : Int) (m8 : Int) (ax : Int) (ay : Int) (az : Int) (k0 : Int → Int → Int → Bool → Option α) : M.vturn bad m0 m1 m2 m3 m4 m5 m6 m7 m8 ax ay az k0 = k0 (V.x3 (V.tTurn ((m0, m1, m2), (m3, m4, m5), (m6, m7, m8)) (ax, ay, az))) (V.y3 (V.tTurn ((m0, m1, m2), (m3, m4, m5), (m6, m7, m8)) (ax, ay, az))) (V.z3 (V.tTurn ((m0, m1, m2), (m3, m4, m5), (m6, m7, m8)) (ax, ay, az))) (V.on (V.tTurn ((m0, m1, m2), (m3, m4, m5), (m6, m7, m8)) (ax, ay, az)) bad) := by
  unfold M.vturn V.tTurn V.t3 V.tDot
  generalize h0 : V.mDot [m0, m1, m2] [ax, ay, az] = o0
  generalize h1 : V.mDot [m3, m4, m5] [ax, ay, az] = o1
  generalize h2 : V.mDot [m6, m7, m8] [ax, ay, az] = o2
  cases o0 <;> cases o1 <;> cases o2 <;> rfl
noncomputable def vturn_h {α : Type} (ds : List D) (Q : SV → Hp → Option α) : Option α :=
  dB ds fun bad ds => dI ds fun m0 ds => dI ds fun m1 ds => dI ds fun m2 ds => dI ds fun m3 ds => dI ds fun m4 ds => dI ds fun m5 ds => dI ds fun m6 ds => dI ds fun m7 ds => dI ds fun m8 ds => dI ds fun ax ds => dI ds fun ay ds => dI ds fun az ds => dE ds (Q (.agg [.int .i64 (V.x3 (V.tTurn ((m0, m1, m2), (m3, m4, m5), (m6, m7, m8)) (ax, ay, az))), .int .i64 (V.y3 (V.tTurn ((m0, m1, m2), (m3, m4, m5), (m6, m7, m8)) (ax, ay, az))), .int .i64 (V.z3 (V.tTurn ((m0, m1, m2), (m3, m4, m5), (m6, m7, m8)) (ax, ay, az)))]) ([.cells [.bool (V.on (V.tTurn ((m0, m1, m2), (m3, m4, m5), (m6, m7, m8)) (ax, ay, az)) bad)] 27]))
theorem vturn_h_ok {α : Type} : FnOk E.P 14 (fEnt (α := α) vturn_sp vturn_h) :=
  fEnt_ok E (look_vunit_ok) (exec_sound E E_ok (look_vunit_ok) (noLps_ok _) 400) fun ds Q r h => by
    unfold vturn_h at h
    obtain ⟨bad, ds, rfl, h1⟩ := dB_inv h
    obtain ⟨m0, ds, rfl, h2⟩ := dI_inv h1
    obtain ⟨m1, ds, rfl, h3⟩ := dI_inv h2
    obtain ⟨m2, ds, rfl, h4⟩ := dI_inv h3
    obtain ⟨m3, ds, rfl, h5⟩ := dI_inv h4
    obtain ⟨m4, ds, rfl, h6⟩ := dI_inv h5
    obtain ⟨m5, ds, rfl, h7⟩ := dI_inv h6
    obtain ⟨m6, ds, rfl, h8⟩ := dI_inv h7
    obtain ⟨m7, ds, rfl, h9⟩ := dI_inv h8
    obtain ⟨m8, ds, rfl, h10⟩ := dI_inv h9
    obtain ⟨ax, ds, rfl, h11⟩ := dI_inv h10
    obtain ⟨ay, ds, rfl, h12⟩ := dI_inv h11
    obtain ⟨az, ds, rfl, h13⟩ := dI_inv h12
    obtain ⟨rfl, hE⟩ := dE_inv h13
    exact ⟨[SV.ptr (nat_lit 0) (nat_lit 0), SV.agg [SV.int IntKind.i64 m0, SV.int IntKind.i64 m1, SV.int IntKind.i64 m2, SV.int IntKind.i64 m3, SV.int IntKind.i64 m4, SV.int IntKind.i64 m5, SV.int IntKind.i64 m6, SV.int IntKind.i64 m7, SV.int IntKind.i64 m8], SV.agg [SV.int IntKind.i64 ax, SV.int IntKind.i64 ay, SV.int IntKind.i64 az]], [SObj.cells [SV.bool bad] (nat_lit 27)], fun vs => by kernel_rfl, (vturn_eq bad m0 m1 m2 m3 m4 m5 m6 m7 m8 ax ay az Q).trans ((vturn_v bad m0 m1 m2 m3 m4 m5 m6 m7 m8 ax ay az _).trans hE)⟩
noncomputable def look_vturn {α : Type} : LookF α := addFn 14 (fEnt vturn_sp vturn_h) look_vunit
theorem look_vturn_ok {α : Type} : LookOk E.P (look_vturn (α := α)) := addFn_ok vturn_h_ok (look_vunit_ok)
noncomputable def _root_.Go.Proofs.Ytmcifgaaojgheaa.M.vback {α : Type} (bad : Bool) (m0 : Int) (m1 : Int) (m2 : Int) (m3 : Int) (m4 : Int) (m5 : Int) (m6 : Int) (m7 : Int) (m8 : Int) (ax : Int) (ay : Int) (az : Int) (k0 : Int → Int → Int → Bool → Option α) : Option α :=
  k0 (V.x3 (V.tTurn ((m0, m3, m6), (m1, m4, m7), m2, m5, m8) (ax, ay, az))) (V.y3 (V.tTurn ((m0, m3, m6), (m1, m4, m7), m2, m5, m8) (ax, ay, az))) (V.z3 (V.tTurn ((m0, m3, m6), (m1, m4, m7), m2, m5, m8) (ax, ay, az))) (V.on (V.tTurn ((m0, m3, m6), (m1, m4, m7), m2, m5, m8) (ax, ay, az)) bad)
theorem vback_eq {α : Type} (bad : Bool) (m0 : Int) (m1 : Int) (m2 : Int) (m3 : Int) (m4 : Int) (m5 : Int) (m6 : Int) (m7 : Int) (m8 : Int) (ax : Int) (ay : Int) (az : Int) (Q : SV → Hp → Option α) : callI E look_vturn (exec E look_vturn noLps 400) 15 ([SV.ptr (nat_lit 0) (nat_lit 0), SV.agg [SV.int IntKind.i64 m0, SV.int IntKind.i64 m1, SV.int IntKind.i64 m2, SV.int IntKind.i64 m3, SV.int IntKind.i64 m4, SV.int IntKind.i64 m5, SV.int IntKind.i64 m6, SV.int IntKind.i64 m7, SV.int IntKind.i64 m8], SV.agg [SV.int IntKind.i64 ax, SV.int IntKind.i64 ay, SV.int IntKind.i64 az]]) ([SObj.cells [SV.bool bad] (nat_lit 27)]) Q = Go.Proofs.Ytmcifgaaojgheaa.M.vback bad m0 m1 m2 m3 m4 m5 m6 m7 m8 ax ay az (fun (x28 : Int) (x29 : Int) (x30 : Int) (x31 : Bool) => Q (SV.agg [SV.int IntKind.i64 x28, SV.int IntKind.i64 x29, SV.int IntKind.i64 x30]) ([SObj.cells [SV.bool x31] (nat_lit 27)])) := by kernel_rfl
def vback_sp : List AS := [.ptr 27 [.bool false], .val (.agg [.int .i64 0, .int .i64 0, .int .i64 0, .int .i64 0, .int .i64 0, .int .i64 0, .int .i64 0, .int .i64 0, .int .i64 0]), .val (.agg [.int .i64 0, .int .i64 0, .int .i64 0])]
noncomputable def vback_go {α : Type} (ds : List D) (Q : SV → Hp → Option α) : Option α :=
  dB ds fun bad ds => dI ds fun m0 ds => dI ds fun m1 ds => dI ds fun m2 ds => dI ds fun m3 ds => dI ds fun m4 ds => dI ds fun m5 ds => dI ds fun m6 ds => dI ds fun m7 ds => dI ds fun m8 ds => dI ds fun ax ds => dI ds fun ay ds => dI ds fun az ds => dE ds (Go.Proofs.Ytmcifgaaojgheaa.M.vback bad m0 m1 m2 m3 m4 m5 m6 m7 m8 ax ay az (fun (x28 : Int) (x29 : Int) (x30 : Int) (x31 : Bool) => Q (SV.agg [SV.int IntKind.i64 x28, SV.int IntKind.i64 x29, SV.int IntKind.i64 x30]) ([SObj.cells [SV.bool x31] (nat_lit 27)])))
theorem vback_ok {α : Type} : FnOk E.P 15 (fEnt (α := α) vback_sp vback_go) :=
  fEnt_ok E (look_vturn_ok) (exec_sound E E_ok (look_vturn_ok) (noLps_ok _) 400) fun ds Q r h => by
    unfold vback_go at h
    obtain ⟨bad, ds, rfl, h1⟩ := dB_inv h
    obtain ⟨m0, ds, rfl, h2⟩ := dI_inv h1
    obtain ⟨m1, ds, rfl, h3⟩ := dI_inv h2
    obtain ⟨m2, ds, rfl, h4⟩ := dI_inv h3
    obtain ⟨m3, ds, rfl, h5⟩ := dI_inv h4
    obtain ⟨m4, ds, rfl, h6⟩ := dI_inv h5
    obtain ⟨m5, ds, rfl, h7⟩ := dI_inv h6
    obtain ⟨m6, ds, rfl, h8⟩ := dI_inv h7
    obtain ⟨m7, ds, rfl, h9⟩ := dI_inv h8
    obtain ⟨m8, ds, rfl, h10⟩ := dI_inv h9
    obtain ⟨ax, ds, rfl, h11⟩ := dI_inv h10
    obtain ⟨ay, ds, rfl, h12⟩ := dI_inv h11
    obtain ⟨az, ds, rfl, h13⟩ := dI_inv h12
    obtain ⟨rfl, hE⟩ := dE_inv h13
    exact ⟨[SV.ptr (nat_lit 0) (nat_lit 0), SV.agg [SV.int IntKind.i64 m0, SV.int IntKind.i64 m1, SV.int IntKind.i64 m2, SV.int IntKind.i64 m3, SV.int IntKind.i64 m4, SV.int IntKind.i64 m5, SV.int IntKind.i64 m6, SV.int IntKind.i64 m7, SV.int IntKind.i64 m8], SV.agg [SV.int IntKind.i64 ax, SV.int IntKind.i64 ay, SV.int IntKind.i64 az]], [SObj.cells [SV.bool bad] (nat_lit 27)], fun vs => by kernel_rfl, (vback_eq bad m0 m1 m2 m3 m4 m5 m6 m7 m8 ax ay az Q).trans hE⟩
theorem vback_v {α : Type} (bad : Bool) (m0 : Int) (m1 : Int) (m2 : Int) (m3 : Int) (m4 : Int) (m5 : Int) (m6 : Int) (m7 : Int) (m8 : Int) (ax : Int) (ay : Int) (az : Int) (k0 : Int → Int → Int → Bool → Option α) : M.vback bad m0 m1 m2 m3 m4 m5 m6 m7 m8 ax ay az k0 = k0 (V.x3 (V.tBack ((m0, m1, m2), (m3, m4, m5), (m6, m7, m8)) (ax, ay, az))) (V.y3 (V.tBack ((m0, m1, m2), (m3, m4, m5), (m6, m7, m8)) (ax, ay, az))) (V.z3 (V.tBack ((m0, m1, m2), (m3, m4, m5), (m6, m7, m8)) (ax, ay, az))) (V.on (V.tBack ((m0, m1, m2), (m3, m4, m5), (m6, m7, m8)) (ax, ay, az)) bad) := by
  rfl
noncomputable def vback_h {α : Type} (ds : List D) (Q : SV → Hp → Option α) : Option α :=
  dB ds fun bad ds => dI ds fun m0 ds => dI ds fun m1 ds => dI ds fun m2 ds => dI ds fun m3 ds => dI ds fun m4 ds => dI ds fun m5 ds => dI ds fun m6 ds => dI ds fun m7 ds => dI ds fun m8 ds => dI ds fun ax ds => dI ds fun ay ds => dI ds fun az ds => dE ds (Q (.agg [.int .i64 (V.x3 (V.tBack ((m0, m1, m2), (m3, m4, m5), (m6, m7, m8)) (ax, ay, az))), .int .i64 (V.y3 (V.tBack ((m0, m1, m2), (m3, m4, m5), (m6, m7, m8)) (ax, ay, az))), .int .i64 (V.z3 (V.tBack ((m0, m1, m2), (m3, m4, m5), (m6, m7, m8)) (ax, ay, az)))]) ([.cells [.bool (V.on (V.tBack ((m0, m1, m2), (m3, m4, m5), (m6, m7, m8)) (ax, ay, az)) bad)] 27]))
theorem vback_h_ok {α : Type} : FnOk E.P 15 (fEnt (α := α) vback_sp vback_h) :=
  fEnt_ok E (look_vturn_ok) (exec_sound E E_ok (look_vturn_ok) (noLps_ok _) 400) fun ds Q r h => by
    unfold vback_h at h
    obtain ⟨bad, ds, rfl, h1⟩ := dB_inv h
    obtain ⟨m0, ds, rfl, h2⟩ := dI_inv h1
    obtain ⟨m1, ds, rfl, h3⟩ := dI_inv h2
    obtain ⟨m2, ds, rfl, h4⟩ := dI_inv h3
    obtain ⟨m3, ds, rfl, h5⟩ := dI_inv h4
    obtain ⟨m4, ds, rfl, h6⟩ := dI_inv h5
    obtain ⟨m5, ds, rfl, h7⟩ := dI_inv h6
    obtain ⟨m6, ds, rfl, h8⟩ := dI_inv h7
    obtain ⟨m7, ds, rfl, h9⟩ := dI_inv h8
    obtain ⟨m8, ds, rfl, h10⟩ := dI_inv h9
    obtain ⟨ax, ds, rfl, h11⟩ := dI_inv h10
    obtain ⟨ay, ds, rfl, h12⟩ := dI_inv h11
    obtain ⟨az, ds, rfl, h13⟩ := dI_inv h12
    obtain ⟨rfl, hE⟩ := dE_inv h13
    exact ⟨[SV.ptr (nat_lit 0) (nat_lit 0), SV.agg [SV.int IntKind.i64 m0, SV.int IntKind.i64 m1, SV.int IntKind.i64 m2, SV.int IntKind.i64 m3, SV.int IntKind.i64 m4, SV.int IntKind.i64 m5, SV.int IntKind.i64 m6, SV.int IntKind.i64 m7, SV.int IntKind.i64 m8], SV.agg [SV.int IntKind.i64 ax, SV.int IntKind.i64 ay, SV.int IntKind.i64 az]], [SObj.cells [SV.bool bad] (nat_lit 27)], fun vs => by kernel_rfl, (vback_eq bad m0 m1 m2 m3 m4 m5 m6 m7 m8 ax ay az Q).trans ((vback_v bad m0 m1 m2 m3 m4 m5 m6 m7 m8 ax ay az _).trans hE)⟩
noncomputable def look_vback {α : Type} : LookF α := addFn 15 (fEnt vback_sp vback_h) look_vturn
theorem look_vback_ok {α : Type} : LookOk E.P (look_vback (α := α)) := addFn_ok vback_h_ok (look_vturn_ok)
end Go.Proofs.Ytmcifgaaojgheaa.Sx
