/- vec: what the document reckons. -/
import Derived.Test.YtmcifgaaojgheaaVecRA
namespace Go.Proofs.Ytmcifgaaojgheaa.Sx
open Go
set_option maxRecDepth 20000
set_option linter.unusedVariables false
set_option linter.unusedSimpArgs false
noncomputable def _root_.Go.Proofs.Ytmcifgaaojgheaa.M.dvtimes {α : Type} (bad : Bool) (pw : Int) (px : Int) (p_y : Int) (pz : Int) (qw : Int) (qx : Int) (qy : Int) (qz : Int) (k0 : Int → Int → Int → Int → Bool → Option α) : Option α :=
  if bad = true then
  if (!!V.gn (V.mDot [pw, px, p_y, pz] [qz, qy, V.gv (V.mSub (0 : Int) qx), qw]) (V.gn (V.mDot [pw, px, p_y, pz] [qy, V.gv (V.mSub (0 : Int) qz), qw, qx]) (V.gn (V.mDot [pw, px, p_y, pz] [qx, qw, qz, V.gv (V.mSub (0 : Int) qy)]) (V.gn (V.mDot [pw, px, p_y, pz] [qw, V.gv (V.mSub (0 : Int) qx), V.gv (V.mSub (0 : Int) qy), V.gv (V.mSub (0 : Int) qz)]) (V.gn (V.mSub (0 : Int) qz) (V.gn (V.mSub (0 : Int) qy) (V.gn (V.mSub (0 : Int) qx) false))))))) = true then
    k0 (0 : Int) (0 : Int) (0 : Int) (0 : Int) true
  else k0 (V.gv (V.mDot [pw, px, p_y, pz] [qw, V.gv (V.mSub (0 : Int) qx), V.gv (V.mSub (0 : Int) qy), V.gv (V.mSub (0 : Int) qz)])) (V.gv (V.mDot [pw, px, p_y, pz] [qx, qw, qz, V.gv (V.mSub (0 : Int) qy)])) (V.gv (V.mDot [pw, px, p_y, pz] [qy, V.gv (V.mSub (0 : Int) qz), qw, qx])) (V.gv (V.mDot [pw, px, p_y, pz] [qz, qy, V.gv (V.mSub (0 : Int) qx), qw])) true
else
  if (!!V.gn (V.mDot [pw, px, p_y, pz] [qz, qy, V.gv (V.mSub (0 : Int) qx), qw]) (V.gn (V.mDot [pw, px, p_y, pz] [qy, V.gv (V.mSub (0 : Int) qz), qw, qx]) (V.gn (V.mDot [pw, px, p_y, pz] [qx, qw, qz, V.gv (V.mSub (0 : Int) qy)]) (V.gn (V.mDot [pw, px, p_y, pz] [qw, V.gv (V.mSub (0 : Int) qx), V.gv (V.mSub (0 : Int) qy), V.gv (V.mSub (0 : Int) qz)]) (V.gn (V.mSub (0 : Int) qz) (V.gn (V.mSub (0 : Int) qy) (V.gn (V.mSub (0 : Int) qx) false))))))) = true then
    k0 (0 : Int) (0 : Int) (0 : Int) (0 : Int) (V.gn (V.mDot [pw, px, p_y, pz] [qz, qy, V.gv (V.mSub (0 : Int) qx), qw]) (V.gn (V.mDot [pw, px, p_y, pz] [qy, V.gv (V.mSub (0 : Int) qz), qw, qx]) (V.gn (V.mDot [pw, px, p_y, pz] [qx, qw, qz, V.gv (V.mSub (0 : Int) qy)]) (V.gn (V.mDot [pw, px, p_y, pz] [qw, V.gv (V.mSub (0 : Int) qx), V.gv (V.mSub (0 : Int) qy), V.gv (V.mSub (0 : Int) qz)]) (V.gn (V.mSub (0 : Int) qz) (V.gn (V.mSub (0 : Int) qy) (V.gn (V.mSub (0 : Int) qx) false)))))))
  else
    k0 (V.gv (V.mDot [pw, px, p_y, pz] [qw, V.gv (V.mSub (0 : Int) qx), V.gv (V.mSub (0 : Int) qy), V.gv (V.mSub (0 : Int) qz)])) (V.gv (V.mDot [pw, px, p_y, pz] [qx, qw, qz, V.gv (V.mSub (0 : Int) qy)])) (V.gv (V.mDot [pw, px, p_y, pz] [qy, V.gv (V.mSub (0 : Int) qz), qw, qx])) (V.gv (V.mDot [pw, px, p_y, pz] [qz, qy, V.gv (V.mSub (0 : Int) qx), qw]))
      (V.gn (V.mDot [pw, px, p_y, pz] [qz, qy, V.gv (V.mSub (0 : Int) qx), qw]) (V.gn (V.mDot [pw, px, p_y, pz] [qy, V.gv (V.mSub (0 : Int) qz), qw, qx]) (V.gn (V.mDot [pw, px, p_y, pz] [qx, qw, qz, V.gv (V.mSub (0 : Int) qy)]) (V.gn (V.mDot [pw, px, p_y, pz] [qw, V.gv (V.mSub (0 : Int) qx), V.gv (V.mSub (0 : Int) qy), V.gv (V.mSub (0 : Int) qz)]) (V.gn (V.mSub (0 : Int) qz) (V.gn (V.mSub (0 : Int) qy) (V.gn (V.mSub (0 : Int) qx) false)))))))
theorem dvtimes_eq {α : Type} (bad : Bool) (pw : Int) (px : Int) (p_y : Int) (pz : Int) (qw : Int) (qx : Int) (qy : Int) (qz : Int) (Q : SV → Hp → Option α) : callI E look_dvback (exec E look_dvback noLps 400) 33 ([SV.ptr (nat_lit 0) (nat_lit 0), SV.agg [SV.int IntKind.i64 pw, SV.int IntKind.i64 px, SV.int IntKind.i64 p_y, SV.int IntKind.i64 pz], SV.agg [SV.int IntKind.i64 qw, SV.int IntKind.i64 qx, SV.int IntKind.i64 qy, SV.int IntKind.i64 qz]]) ([SObj.cells [SV.bool bad] (nat_lit 51)]) Q = Go.Proofs.Ytmcifgaaojgheaa.M.dvtimes bad pw px p_y pz qw qx qy qz (fun (x0 : Int) (x1 : Int) (x2 : Int) (x3 : Int) (x4 : Bool) => Q (SV.agg [SV.int IntKind.i64 x0, SV.int IntKind.i64 x1, SV.int IntKind.i64 x2, SV.int IntKind.i64 x3]) ([SObj.cells [SV.bool x4] (nat_lit 51)])) := by kernel_rfl
def dvtimes_sp : List AS := [.ptr 51 [.bool false], .val (.agg [.int .i64 0, .int .i64 0, .int .i64 0, .int .i64 0]), .val (.agg [.int .i64 0, .int .i64 0, .int .i64 0, .int .i64 0])]
noncomputable def dvtimes_go {α : Type} (ds : List D) (Q : SV → Hp → Option α) : Option α :=
  dB ds fun bad ds => dI ds fun pw ds => dI ds fun px ds => dI ds fun p_y ds => dI ds fun pz ds => dI ds fun qw ds => dI ds fun qx ds => dI ds fun qy ds => dI ds fun qz ds => dE ds (Go.Proofs.Ytmcifgaaojgheaa.M.dvtimes bad pw px p_y pz qw qx qy qz (fun (x0 : Int) (x1 : Int) (x2 : Int) (x3 : Int) (x4 : Bool) => Q (SV.agg [SV.int IntKind.i64 x0, SV.int IntKind.i64 x1, SV.int IntKind.i64 x2, SV.int IntKind.i64 x3]) ([SObj.cells [SV.bool x4] (nat_lit 51)])))
theorem dvtimes_ok {α : Type} : FnOk E.P 33 (fEnt (α := α) dvtimes_sp dvtimes_go) :=
  fEnt_ok E (look_dvback_ok) (exec_sound E E_ok (look_dvback_ok) (noLps_ok _) 400) fun ds Q r h => by
    unfold dvtimes_go at h
    obtain ⟨bad, ds, rfl, h1⟩ := dB_inv h
    obtain ⟨pw, ds, rfl, h2⟩ := dI_inv h1
    obtain ⟨px, ds, rfl, h3⟩ := dI_inv h2
    obtain ⟨p_y, ds, rfl, h4⟩ := dI_inv h3
    obtain ⟨pz, ds, rfl, h5⟩ := dI_inv h4
    obtain ⟨qw, ds, rfl, h6⟩ := dI_inv h5
    obtain ⟨qx, ds, rfl, h7⟩ := dI_inv h6
    obtain ⟨qy, ds, rfl, h8⟩ := dI_inv h7
    obtain ⟨qz, ds, rfl, h9⟩ := dI_inv h8
    obtain ⟨rfl, hE⟩ := dE_inv h9
    exact ⟨[SV.ptr (nat_lit 0) (nat_lit 0), SV.agg [SV.int IntKind.i64 pw, SV.int IntKind.i64 px, SV.int IntKind.i64 p_y, SV.int IntKind.i64 pz], SV.agg [SV.int IntKind.i64 qw, SV.int IntKind.i64 qx, SV.int IntKind.i64 qy, SV.int IntKind.i64 qz]], [SObj.cells [SV.bool bad] (nat_lit 51)], fun vs => by kernel_rfl, (dvtimes_eq bad pw px p_y pz qw qx qy qz Q).trans hE⟩
theorem dvtimes_v {α : Type} (bad : Bool) (pw : Int) (px : Int) (p_y : Int) (pz : Int) (qw : Int) (qx : Int) (qy : Int) (qz : Int) (k0 : Int → Int → Int → Int → Bool → Option α) : M.dvtimes bad pw px p_y pz qw qx qy qz k0 = k0 (V.w4 (V.tTimes (pw, px, p_y, pz) (qw, qx, qy, qz))) (V.x4 (V.tTimes (pw, px, p_y, pz) (qw, qx, qy, qz))) (V.y4 (V.tTimes (pw, px, p_y, pz) (qw, qx, qy, qz))) (V.z4 (V.tTimes (pw, px, p_y, pz) (qw, qx, qy, qz))) (V.on (V.tTimes (pw, px, p_y, pz) (qw, qx, qy, qz)) bad) := by
  unfold M.dvtimes V.tTimes V.t4
  generalize V.mDot [pw, px, p_y, pz] [qz, qy, V.gv (V.mSub 0 qx), qw] = o3
  generalize V.mDot [pw, px, p_y, pz] [qy, V.gv (V.mSub 0 qz), qw, qx] = o4
  generalize V.mDot [pw, px, p_y, pz] [qx, qw, qz, V.gv (V.mSub 0 qy)] = o5
  generalize V.mDot [pw, px, p_y, pz] [qw, V.gv (V.mSub 0 qx), V.gv (V.mSub 0 qy), V.gv (V.mSub 0 qz)] = o6
  generalize V.mSub 0 qx = o0
  generalize V.mSub 0 qy = o1
  generalize V.mSub 0 qz = o2
  cases bad <;> cases o0 <;> cases o1 <;> cases o2 <;> cases o3 <;> cases o4 <;> cases o5 <;> cases o6 <;> rfl
noncomputable def dvtimes_h {α : Type} (ds : List D) (Q : SV → Hp → Option α) : Option α :=
  dB ds fun bad ds => dI ds fun pw ds => dI ds fun px ds => dI ds fun p_y ds => dI ds fun pz ds => dI ds fun qw ds => dI ds fun qx ds => dI ds fun qy ds => dI ds fun qz ds => dE ds (Q (.agg [.int .i64 (V.w4 (V.tTimes (pw, px, p_y, pz) (qw, qx, qy, qz))), .int .i64 (V.x4 (V.tTimes (pw, px, p_y, pz) (qw, qx, qy, qz))), .int .i64 (V.y4 (V.tTimes (pw, px, p_y, pz) (qw, qx, qy, qz))), .int .i64 (V.z4 (V.tTimes (pw, px, p_y, pz) (qw, qx, qy, qz)))]) ([.cells [.bool (V.on (V.tTimes (pw, px, p_y, pz) (qw, qx, qy, qz)) bad)] 51]))
theorem dvtimes_h_ok {α : Type} : FnOk E.P 33 (fEnt (α := α) dvtimes_sp dvtimes_h) :=
  fEnt_ok E (look_dvback_ok) (exec_sound E E_ok (look_dvback_ok) (noLps_ok _) 400) fun ds Q r h => by
    unfold dvtimes_h at h
    obtain ⟨bad, ds, rfl, h1⟩ := dB_inv h
    obtain ⟨pw, ds, rfl, h2⟩ := dI_inv h1
    obtain ⟨px, ds, rfl, h3⟩ := dI_inv h2
    obtain ⟨p_y, ds, rfl, h4⟩ := dI_inv h3
    obtain ⟨pz, ds, rfl, h5⟩ := dI_inv h4
    obtain ⟨qw, ds, rfl, h6⟩ := dI_inv h5
    obtain ⟨qx, ds, rfl, h7⟩ := dI_inv h6
    obtain ⟨qy, ds, rfl, h8⟩ := dI_inv h7
    obtain ⟨qz, ds, rfl, h9⟩ := dI_inv h8
    obtain ⟨rfl, hE⟩ := dE_inv h9
    exact ⟨[SV.ptr (nat_lit 0) (nat_lit 0), SV.agg [SV.int IntKind.i64 pw, SV.int IntKind.i64 px, SV.int IntKind.i64 p_y, SV.int IntKind.i64 pz], SV.agg [SV.int IntKind.i64 qw, SV.int IntKind.i64 qx, SV.int IntKind.i64 qy, SV.int IntKind.i64 qz]], [SObj.cells [SV.bool bad] (nat_lit 51)], fun vs => by kernel_rfl, (dvtimes_eq bad pw px p_y pz qw qx qy qz Q).trans ((dvtimes_v bad pw px p_y pz qw qx qy qz _).trans hE)⟩
noncomputable def look_dvtimes {α : Type} : LookF α := addFn 33 (fEnt dvtimes_sp dvtimes_h) look_dvback
theorem look_dvtimes_ok {α : Type} : LookOk E.P (look_dvtimes (α := α)) := addFn_ok dvtimes_h_ok (look_dvback_ok)
noncomputable def _root_.Go.Proofs.Ytmcifgaaojgheaa.M.dvwhole {α : Type} (bad : Bool) (qw : Int) (qx : Int) (qy : Int) (qz : Int) (k0 : Int → Int → Int → Int → Bool → Option α) : Option α :=
  if cLt (V.gv (V.mNorm [qw, qx, qy, qz])) (2147483648 : Int) = true then k0 (0 : Int) (0 : Int) (0 : Int) (0 : Int) true
else
  if bad = true then
    if (!!V.gn (V.mDiv qz (V.gv (V.mNorm [qw, qx, qy, qz]))) (V.gn (V.mDiv qy (V.gv (V.mNorm [qw, qx, qy, qz]))) (V.gn (V.mDiv qx (V.gv (V.mNorm [qw, qx, qy, qz]))) (V.gn (V.mDiv qw (V.gv (V.mNorm [qw, qx, qy, qz]))) (V.gn (V.mNorm [qw, qx, qy, qz]) false))))) = true then k0 (0 : Int) (0 : Int) (0 : Int) (0 : Int) true
    else k0 (V.gv (V.mDiv qw (V.gv (V.mNorm [qw, qx, qy, qz])))) (V.gv (V.mDiv qx (V.gv (V.mNorm [qw, qx, qy, qz])))) (V.gv (V.mDiv qy (V.gv (V.mNorm [qw, qx, qy, qz])))) (V.gv (V.mDiv qz (V.gv (V.mNorm [qw, qx, qy, qz])))) true
  else
    if (!!V.gn (V.mDiv qz (V.gv (V.mNorm [qw, qx, qy, qz]))) (V.gn (V.mDiv qy (V.gv (V.mNorm [qw, qx, qy, qz]))) (V.gn (V.mDiv qx (V.gv (V.mNorm [qw, qx, qy, qz]))) (V.gn (V.mDiv qw (V.gv (V.mNorm [qw, qx, qy, qz]))) (V.gn (V.mNorm [qw, qx, qy, qz]) false))))) = true then
      k0 (0 : Int) (0 : Int) (0 : Int) (0 : Int) (V.gn (V.mDiv qz (V.gv (V.mNorm [qw, qx, qy, qz]))) (V.gn (V.mDiv qy (V.gv (V.mNorm [qw, qx, qy, qz]))) (V.gn (V.mDiv qx (V.gv (V.mNorm [qw, qx, qy, qz]))) (V.gn (V.mDiv qw (V.gv (V.mNorm [qw, qx, qy, qz]))) (V.gn (V.mNorm [qw, qx, qy, qz]) false)))))
    else k0 (V.gv (V.mDiv qw (V.gv (V.mNorm [qw, qx, qy, qz])))) (V.gv (V.mDiv qx (V.gv (V.mNorm [qw, qx, qy, qz])))) (V.gv (V.mDiv qy (V.gv (V.mNorm [qw, qx, qy, qz])))) (V.gv (V.mDiv qz (V.gv (V.mNorm [qw, qx, qy, qz])))) (V.gn (V.mDiv qz (V.gv (V.mNorm [qw, qx, qy, qz]))) (V.gn (V.mDiv qy (V.gv (V.mNorm [qw, qx, qy, qz]))) (V.gn (V.mDiv qx (V.gv (V.mNorm [qw, qx, qy, qz]))) (V.gn (V.mDiv qw (V.gv (V.mNorm [qw, qx, qy, qz]))) (V.gn (V.mNorm [qw, qx, qy, qz]) false)))))
theorem dvwhole_eq {α : Type} (bad : Bool) (qw : Int) (qx : Int) (qy : Int) (qz : Int) (Q : SV → Hp → Option α) : callI E look_dvtimes (exec E look_dvtimes noLps 400) 34 ([SV.ptr (nat_lit 0) (nat_lit 0), SV.agg [SV.int IntKind.i64 qw, SV.int IntKind.i64 qx, SV.int IntKind.i64 qy, SV.int IntKind.i64 qz]]) ([SObj.cells [SV.bool bad] (nat_lit 51)]) Q = Go.Proofs.Ytmcifgaaojgheaa.M.dvwhole bad qw qx qy qz (fun (x5 : Int) (x6 : Int) (x7 : Int) (x8 : Int) (x9 : Bool) => Q (SV.agg [SV.int IntKind.i64 x5, SV.int IntKind.i64 x6, SV.int IntKind.i64 x7, SV.int IntKind.i64 x8]) ([SObj.cells [SV.bool x9] (nat_lit 51)])) := by kernel_rfl
def dvwhole_sp : List AS := [.ptr 51 [.bool false], .val (.agg [.int .i64 0, .int .i64 0, .int .i64 0, .int .i64 0])]
noncomputable def dvwhole_go {α : Type} (ds : List D) (Q : SV → Hp → Option α) : Option α :=
  dB ds fun bad ds => dI ds fun qw ds => dI ds fun qx ds => dI ds fun qy ds => dI ds fun qz ds => dE ds (Go.Proofs.Ytmcifgaaojgheaa.M.dvwhole bad qw qx qy qz (fun (x5 : Int) (x6 : Int) (x7 : Int) (x8 : Int) (x9 : Bool) => Q (SV.agg [SV.int IntKind.i64 x5, SV.int IntKind.i64 x6, SV.int IntKind.i64 x7, SV.int IntKind.i64 x8]) ([SObj.cells [SV.bool x9] (nat_lit 51)])))
theorem dvwhole_ok {α : Type} : FnOk E.P 34 (fEnt (α := α) dvwhole_sp dvwhole_go) :=
  fEnt_ok E (look_dvtimes_ok) (exec_sound E E_ok (look_dvtimes_ok) (noLps_ok _) 400) fun ds Q r h => by
    unfold dvwhole_go at h
    obtain ⟨bad, ds, rfl, h1⟩ := dB_inv h
    obtain ⟨qw, ds, rfl, h2⟩ := dI_inv h1
    obtain ⟨qx, ds, rfl, h3⟩ := dI_inv h2
    obtain ⟨qy, ds, rfl, h4⟩ := dI_inv h3
    obtain ⟨qz, ds, rfl, h5⟩ := dI_inv h4
    obtain ⟨rfl, hE⟩ := dE_inv h5
    exact ⟨[SV.ptr (nat_lit 0) (nat_lit 0), SV.agg [SV.int IntKind.i64 qw, SV.int IntKind.i64 qx, SV.int IntKind.i64 qy, SV.int IntKind.i64 qz]], [SObj.cells [SV.bool bad] (nat_lit 51)], fun vs => by kernel_rfl, (dvwhole_eq bad qw qx qy qz Q).trans hE⟩
theorem dvwhole_v {α : Type} (bad : Bool) (qw : Int) (qx : Int) (qy : Int) (qz : Int) (k0 : Int → Int → Int → Int → Bool → Option α) : M.dvwhole bad qw qx qy qz k0 = k0 (V.w4 (V.tWhole (qw, qx, qy, qz))) (V.x4 (V.tWhole (qw, qx, qy, qz))) (V.y4 (V.tWhole (qw, qx, qy, qz))) (V.z4 (V.tWhole (qw, qx, qy, qz))) (V.on (V.tWhole (qw, qx, qy, qz)) bad) := by
  unfold M.dvwhole V.tWhole V.t4 V.tLen4
  simp only [cLt_eq]
  generalize V.mDiv qw (V.gv (V.mNorm [qw, qx, qy, qz])) = o0
  generalize V.mDiv qx (V.gv (V.mNorm [qw, qx, qy, qz])) = o1
  generalize V.mDiv qy (V.gv (V.mNorm [qw, qx, qy, qz])) = o2
  generalize V.mDiv qz (V.gv (V.mNorm [qw, qx, qy, qz])) = o3
  generalize V.mNorm [qw, qx, qy, qz] = o4
  by_cases h : V.gv o4 < 2147483648
  · simp only [h, decide_true, if_true, true_or]
    cases bad <;> rfl
  · simp only [h, decide_false, false_or]
    cases bad <;> cases o0 <;> cases o1 <;> cases o2 <;> cases o3 <;> cases o4 <;> rfl
noncomputable def dvwhole_h {α : Type} (ds : List D) (Q : SV → Hp → Option α) : Option α :=
  dB ds fun bad ds => dI ds fun qw ds => dI ds fun qx ds => dI ds fun qy ds => dI ds fun qz ds => dE ds (Q (.agg [.int .i64 (V.w4 (V.tWhole (qw, qx, qy, qz))), .int .i64 (V.x4 (V.tWhole (qw, qx, qy, qz))), .int .i64 (V.y4 (V.tWhole (qw, qx, qy, qz))), .int .i64 (V.z4 (V.tWhole (qw, qx, qy, qz)))]) ([.cells [.bool (V.on (V.tWhole (qw, qx, qy, qz)) bad)] 51]))
theorem dvwhole_h_ok {α : Type} : FnOk E.P 34 (fEnt (α := α) dvwhole_sp dvwhole_h) :=
  fEnt_ok E (look_dvtimes_ok) (exec_sound E E_ok (look_dvtimes_ok) (noLps_ok _) 400) fun ds Q r h => by
    unfold dvwhole_h at h
    obtain ⟨bad, ds, rfl, h1⟩ := dB_inv h
    obtain ⟨qw, ds, rfl, h2⟩ := dI_inv h1
    obtain ⟨qx, ds, rfl, h3⟩ := dI_inv h2
    obtain ⟨qy, ds, rfl, h4⟩ := dI_inv h3
    obtain ⟨qz, ds, rfl, h5⟩ := dI_inv h4
    obtain ⟨rfl, hE⟩ := dE_inv h5
    exact ⟨[SV.ptr (nat_lit 0) (nat_lit 0), SV.agg [SV.int IntKind.i64 qw, SV.int IntKind.i64 qx, SV.int IntKind.i64 qy, SV.int IntKind.i64 qz]], [SObj.cells [SV.bool bad] (nat_lit 51)], fun vs => by kernel_rfl, (dvwhole_eq bad qw qx qy qz Q).trans ((dvwhole_v bad qw qx qy qz _).trans hE)⟩
noncomputable def look_dvwhole {α : Type} : LookF α := addFn 34 (fEnt dvwhole_sp dvwhole_h) look_dvtimes
theorem look_dvwhole_ok {α : Type} : LookOk E.P (look_dvwhole (α := α)) := addFn_ok dvwhole_h_ok (look_dvtimes_ok)
noncomputable def _root_.Go.Proofs.Ytmcifgaaojgheaa.M.dvrows {α : Type} (bad : Bool) (qw : Int) (qx : Int) (qy : Int) (qz : Int) (k0 : Int → Int → Int → Int → Int → Int → Int → Int → Int → Bool → Option α) : Option α :=
  if bad = true then
  if
      (!!V.gn (V.mSub (4294967296 : Int) (V.gv (V.mDot [V.gv (V.mAdd qx qx), V.gv (V.mAdd qy qy)] [qx, qy])))
              (V.gn (V.mDot [V.gv (V.mAdd qx qx), V.gv (V.mAdd qy qy)] [qx, qy])
                (V.gn (V.mDot [V.gv (V.mAdd qy qy), V.gv (V.mAdd qw qw)] [qz, qx])
                  (V.gn (V.mDot [V.gv (V.mAdd qx qx), V.gv (V.mAdd qw qw)] [qz, V.gv (V.mSub (0 : Int) qy)])
                    (V.gn (V.mDot [V.gv (V.mAdd qy qy), V.gv (V.mAdd qw qw)] [qz, V.gv (V.mSub (0 : Int) qx)])
                      (V.gn (V.mSub (4294967296 : Int) (V.gv (V.mDot [V.gv (V.mAdd qx qx), V.gv (V.mAdd qz qz)] [qx, qz])))
                        (V.gn (V.mDot [V.gv (V.mAdd qx qx), V.gv (V.mAdd qz qz)] [qx, qz])
                          (V.gn (V.mDot [V.gv (V.mAdd qx qx), V.gv (V.mAdd qw qw)] [qy, qz])
                            (V.gn (V.mDot [V.gv (V.mAdd qx qx), V.gv (V.mAdd qw qw)] [qz, qy])
                              (V.gn (V.mDot [V.gv (V.mAdd qx qx), V.gv (V.mAdd qw qw)] [qy, V.gv (V.mSub (0 : Int) qz)]) (V.gn (V.mSub (4294967296 : Int) (V.gv (V.mDot [V.gv (V.mAdd qy qy), V.gv (V.mAdd qz qz)] [qy, qz]))) (V.gn (V.mDot [V.gv (V.mAdd qy qy), V.gv (V.mAdd qz qz)] [qy, qz]) (V.gn (V.mSub (0 : Int) qz) (V.gn (V.mSub (0 : Int) qy) (V.gn (V.mSub (0 : Int) qx) (V.gn (V.mAdd qz qz) (V.gn (V.mAdd qy qy) (V.gn (V.mAdd qx qx) (V.gn (V.mAdd qw qw) false))))))))))))))))))) =
        true then
    k0 (0 : Int) (0 : Int) (0 : Int) (0 : Int) (0 : Int) (0 : Int) (0 : Int) (0 : Int) (0 : Int) true
  else
    k0 (V.gv (V.mSub (4294967296 : Int) (V.gv (V.mDot [V.gv (V.mAdd qy qy), V.gv (V.mAdd qz qz)] [qy, qz])))) (V.gv (V.mDot [V.gv (V.mAdd qx qx), V.gv (V.mAdd qw qw)] [qy, V.gv (V.mSub (0 : Int) qz)])) (V.gv (V.mDot [V.gv (V.mAdd qx qx), V.gv (V.mAdd qw qw)] [qz, qy])) (V.gv (V.mDot [V.gv (V.mAdd qx qx), V.gv (V.mAdd qw qw)] [qy, qz])) (V.gv (V.mSub (4294967296 : Int) (V.gv (V.mDot [V.gv (V.mAdd qx qx), V.gv (V.mAdd qz qz)] [qx, qz]))))
      (V.gv (V.mDot [V.gv (V.mAdd qy qy), V.gv (V.mAdd qw qw)] [qz, V.gv (V.mSub (0 : Int) qx)])) (V.gv (V.mDot [V.gv (V.mAdd qx qx), V.gv (V.mAdd qw qw)] [qz, V.gv (V.mSub (0 : Int) qy)])) (V.gv (V.mDot [V.gv (V.mAdd qy qy), V.gv (V.mAdd qw qw)] [qz, qx])) (V.gv (V.mSub (4294967296 : Int) (V.gv (V.mDot [V.gv (V.mAdd qx qx), V.gv (V.mAdd qy qy)] [qx, qy])))) true
else
  if
      (!!V.gn (V.mSub (4294967296 : Int) (V.gv (V.mDot [V.gv (V.mAdd qx qx), V.gv (V.mAdd qy qy)] [qx, qy])))
              (V.gn (V.mDot [V.gv (V.mAdd qx qx), V.gv (V.mAdd qy qy)] [qx, qy])
                (V.gn (V.mDot [V.gv (V.mAdd qy qy), V.gv (V.mAdd qw qw)] [qz, qx])
                  (V.gn (V.mDot [V.gv (V.mAdd qx qx), V.gv (V.mAdd qw qw)] [qz, V.gv (V.mSub (0 : Int) qy)])
                    (V.gn (V.mDot [V.gv (V.mAdd qy qy), V.gv (V.mAdd qw qw)] [qz, V.gv (V.mSub (0 : Int) qx)])
                      (V.gn (V.mSub (4294967296 : Int) (V.gv (V.mDot [V.gv (V.mAdd qx qx), V.gv (V.mAdd qz qz)] [qx, qz])))
                        (V.gn (V.mDot [V.gv (V.mAdd qx qx), V.gv (V.mAdd qz qz)] [qx, qz])
                          (V.gn (V.mDot [V.gv (V.mAdd qx qx), V.gv (V.mAdd qw qw)] [qy, qz])
                            (V.gn (V.mDot [V.gv (V.mAdd qx qx), V.gv (V.mAdd qw qw)] [qz, qy])
                              (V.gn (V.mDot [V.gv (V.mAdd qx qx), V.gv (V.mAdd qw qw)] [qy, V.gv (V.mSub (0 : Int) qz)]) (V.gn (V.mSub (4294967296 : Int) (V.gv (V.mDot [V.gv (V.mAdd qy qy), V.gv (V.mAdd qz qz)] [qy, qz]))) (V.gn (V.mDot [V.gv (V.mAdd qy qy), V.gv (V.mAdd qz qz)] [qy, qz]) (V.gn (V.mSub (0 : Int) qz) (V.gn (V.mSub (0 : Int) qy) (V.gn (V.mSub (0 : Int) qx) (V.gn (V.mAdd qz qz) (V.gn (V.mAdd qy qy) (V.gn (V.mAdd qx qx) (V.gn (V.mAdd qw qw) false))))))))))))))))))) =
        true then
    k0 (0 : Int) (0 : Int) (0 : Int) (0 : Int) (0 : Int) (0 : Int) (0 : Int) (0 : Int) (0 : Int)
      (V.gn (V.mSub (4294967296 : Int) (V.gv (V.mDot [V.gv (V.mAdd qx qx), V.gv (V.mAdd qy qy)] [qx, qy])))
        (V.gn (V.mDot [V.gv (V.mAdd qx qx), V.gv (V.mAdd qy qy)] [qx, qy])
          (V.gn (V.mDot [V.gv (V.mAdd qy qy), V.gv (V.mAdd qw qw)] [qz, qx])
            (V.gn (V.mDot [V.gv (V.mAdd qx qx), V.gv (V.mAdd qw qw)] [qz, V.gv (V.mSub (0 : Int) qy)])
              (V.gn (V.mDot [V.gv (V.mAdd qy qy), V.gv (V.mAdd qw qw)] [qz, V.gv (V.mSub (0 : Int) qx)])
                (V.gn (V.mSub (4294967296 : Int) (V.gv (V.mDot [V.gv (V.mAdd qx qx), V.gv (V.mAdd qz qz)] [qx, qz])))
                  (V.gn (V.mDot [V.gv (V.mAdd qx qx), V.gv (V.mAdd qz qz)] [qx, qz])
                    (V.gn (V.mDot [V.gv (V.mAdd qx qx), V.gv (V.mAdd qw qw)] [qy, qz])
                      (V.gn (V.mDot [V.gv (V.mAdd qx qx), V.gv (V.mAdd qw qw)] [qz, qy])
                        (V.gn (V.mDot [V.gv (V.mAdd qx qx), V.gv (V.mAdd qw qw)] [qy, V.gv (V.mSub (0 : Int) qz)]) (V.gn (V.mSub (4294967296 : Int) (V.gv (V.mDot [V.gv (V.mAdd qy qy), V.gv (V.mAdd qz qz)] [qy, qz]))) (V.gn (V.mDot [V.gv (V.mAdd qy qy), V.gv (V.mAdd qz qz)] [qy, qz]) (V.gn (V.mSub (0 : Int) qz) (V.gn (V.mSub (0 : Int) qy) (V.gn (V.mSub (0 : Int) qx) (V.gn (V.mAdd qz qz) (V.gn (V.mAdd qy qy) (V.gn (V.mAdd qx qx) (V.gn (V.mAdd qw qw) false)))))))))))))))))))
  else
    k0 (V.gv (V.mSub (4294967296 : Int) (V.gv (V.mDot [V.gv (V.mAdd qy qy), V.gv (V.mAdd qz qz)] [qy, qz])))) (V.gv (V.mDot [V.gv (V.mAdd qx qx), V.gv (V.mAdd qw qw)] [qy, V.gv (V.mSub (0 : Int) qz)])) (V.gv (V.mDot [V.gv (V.mAdd qx qx), V.gv (V.mAdd qw qw)] [qz, qy])) (V.gv (V.mDot [V.gv (V.mAdd qx qx), V.gv (V.mAdd qw qw)] [qy, qz])) (V.gv (V.mSub (4294967296 : Int) (V.gv (V.mDot [V.gv (V.mAdd qx qx), V.gv (V.mAdd qz qz)] [qx, qz]))))
      (V.gv (V.mDot [V.gv (V.mAdd qy qy), V.gv (V.mAdd qw qw)] [qz, V.gv (V.mSub (0 : Int) qx)])) (V.gv (V.mDot [V.gv (V.mAdd qx qx), V.gv (V.mAdd qw qw)] [qz, V.gv (V.mSub (0 : Int) qy)])) (V.gv (V.mDot [V.gv (V.mAdd qy qy), V.gv (V.mAdd qw qw)] [qz, qx])) (V.gv (V.mSub (4294967296 : Int) (V.gv (V.mDot [V.gv (V.mAdd qx qx), V.gv (V.mAdd qy qy)] [qx, qy]))))
      (V.gn (V.mSub (4294967296 : Int) (V.gv (V.mDot [V.gv (V.mAdd qx qx), V.gv (V.mAdd qy qy)] [qx, qy])))
        (V.gn (V.mDot [V.gv (V.mAdd qx qx), V.gv (V.mAdd qy qy)] [qx, qy])
          (V.gn (V.mDot [V.gv (V.mAdd qy qy), V.gv (V.mAdd qw qw)] [qz, qx])
            (V.gn (V.mDot [V.gv (V.mAdd qx qx), V.gv (V.mAdd qw qw)] [qz, V.gv (V.mSub (0 : Int) qy)])
              (V.gn (V.mDot [V.gv (V.mAdd qy qy), V.gv (V.mAdd qw qw)] [qz, V.gv (V.mSub (0 : Int) qx)])
                (V.gn (V.mSub (4294967296 : Int) (V.gv (V.mDot [V.gv (V.mAdd qx qx), V.gv (V.mAdd qz qz)] [qx, qz])))
                  (V.gn (V.mDot [V.gv (V.mAdd qx qx), V.gv (V.mAdd qz qz)] [qx, qz])
                    (V.gn (V.mDot [V.gv (V.mAdd qx qx), V.gv (V.mAdd qw qw)] [qy, qz])
                      (V.gn (V.mDot [V.gv (V.mAdd qx qx), V.gv (V.mAdd qw qw)] [qz, qy])
                        (V.gn (V.mDot [V.gv (V.mAdd qx qx), V.gv (V.mAdd qw qw)] [qy, V.gv (V.mSub (0 : Int) qz)]) (V.gn (V.mSub (4294967296 : Int) (V.gv (V.mDot [V.gv (V.mAdd qy qy), V.gv (V.mAdd qz qz)] [qy, qz]))) (V.gn (V.mDot [V.gv (V.mAdd qy qy), V.gv (V.mAdd qz qz)] [qy, qz]) (V.gn (V.mSub (0 : Int) qz) (V.gn (V.mSub (0 : Int) qy) (V.gn (V.mSub (0 : Int) qx) (V.gn (V.mAdd qz qz) (V.gn (V.mAdd qy qy) (V.gn (V.mAdd qx qx) (V.gn (V.mAdd qw qw) false)))))))))))))))))))
theorem dvrows_eq {α : Type} (bad : Bool) (qw : Int) (qx : Int) (qy : Int) (qz : Int) (Q : SV → Hp → Option α) : callI E look_dvwhole (exec E look_dvwhole noLps 400) 38 ([SV.ptr (nat_lit 0) (nat_lit 0), SV.agg [SV.int IntKind.i64 qw, SV.int IntKind.i64 qx, SV.int IntKind.i64 qy, SV.int IntKind.i64 qz]]) ([SObj.cells [SV.bool bad] (nat_lit 51)]) Q = Go.Proofs.Ytmcifgaaojgheaa.M.dvrows bad qw qx qy qz (fun (x10 : Int) (x11 : Int) (x12 : Int) (x13 : Int) (x14 : Int) (x15 : Int) (x16 : Int) (x17 : Int) (x18 : Int) (x19 : Bool) => Q (SV.agg [SV.int IntKind.i64 x10, SV.int IntKind.i64 x11, SV.int IntKind.i64 x12, SV.int IntKind.i64 x13, SV.int IntKind.i64 x14, SV.int IntKind.i64 x15, SV.int IntKind.i64 x16, SV.int IntKind.i64 x17, SV.int IntKind.i64 x18]) ([SObj.cells [SV.bool x19] (nat_lit 51)])) := by kernel_rfl
def dvrows_sp : List AS := [.ptr 51 [.bool false], .val (.agg [.int .i64 0, .int .i64 0, .int .i64 0, .int .i64 0])]
noncomputable def dvrows_go {α : Type} (ds : List D) (Q : SV → Hp → Option α) : Option α :=
  dB ds fun bad ds => dI ds fun qw ds => dI ds fun qx ds => dI ds fun qy ds => dI ds fun qz ds => dE ds (Go.Proofs.Ytmcifgaaojgheaa.M.dvrows bad qw qx qy qz (fun (x10 : Int) (x11 : Int) (x12 : Int) (x13 : Int) (x14 : Int) (x15 : Int) (x16 : Int) (x17 : Int) (x18 : Int) (x19 : Bool) => Q (SV.agg [SV.int IntKind.i64 x10, SV.int IntKind.i64 x11, SV.int IntKind.i64 x12, SV.int IntKind.i64 x13, SV.int IntKind.i64 x14, SV.int IntKind.i64 x15, SV.int IntKind.i64 x16, SV.int IntKind.i64 x17, SV.int IntKind.i64 x18]) ([SObj.cells [SV.bool x19] (nat_lit 51)])))
theorem dvrows_ok {α : Type} : FnOk E.P 38 (fEnt (α := α) dvrows_sp dvrows_go) :=
  fEnt_ok E (look_dvwhole_ok) (exec_sound E E_ok (look_dvwhole_ok) (noLps_ok _) 400) fun ds Q r h => by
    unfold dvrows_go at h
    obtain ⟨bad, ds, rfl, h1⟩ := dB_inv h
    obtain ⟨qw, ds, rfl, h2⟩ := dI_inv h1
    obtain ⟨qx, ds, rfl, h3⟩ := dI_inv h2
    obtain ⟨qy, ds, rfl, h4⟩ := dI_inv h3
    obtain ⟨qz, ds, rfl, h5⟩ := dI_inv h4
    obtain ⟨rfl, hE⟩ := dE_inv h5
    exact ⟨[SV.ptr (nat_lit 0) (nat_lit 0), SV.agg [SV.int IntKind.i64 qw, SV.int IntKind.i64 qx, SV.int IntKind.i64 qy, SV.int IntKind.i64 qz]], [SObj.cells [SV.bool bad] (nat_lit 51)], fun vs => by kernel_rfl, (dvrows_eq bad qw qx qy qz Q).trans hE⟩
theorem dvrows_v {α : Type} (bad : Bool) (qw : Int) (qx : Int) (qy : Int) (qz : Int) (k0 : Int → Int → Int → Int → Int → Int → Int → Int → Int → Bool → Option α) : M.dvrows bad qw qx qy qz k0 = k0 (V.m0 (V.tRows (qw, qx, qy, qz))) (V.m1 (V.tRows (qw, qx, qy, qz))) (V.m2 (V.tRows (qw, qx, qy, qz))) (V.m3 (V.tRows (qw, qx, qy, qz))) (V.m4 (V.tRows (qw, qx, qy, qz))) (V.m5 (V.tRows (qw, qx, qy, qz))) (V.m6 (V.tRows (qw, qx, qy, qz))) (V.m7 (V.tRows (qw, qx, qy, qz))) (V.m8 (V.tRows (qw, qx, qy, qz))) (V.on (V.tRows (qw, qx, qy, qz)) bad) := by
  unfold M.dvrows V.tRows
  have e : (V.gn (V.mSub (4294967296 : Int) (V.gv (V.mDot [V.gv (V.mAdd qx qx), V.gv (V.mAdd qy qy)] [qx, qy]))) (V.gn (V.mDot [V.gv (V.mAdd qx qx), V.gv (V.mAdd qy qy)] [qx, qy]) (V.gn (V.mDot [V.gv (V.mAdd qy qy), V.gv (V.mAdd qw qw)] [qz, qx]) (V.gn (V.mDot [V.gv (V.mAdd qx qx), V.gv (V.mAdd qw qw)] [qz, V.gv (V.mSub (0 : Int) qy)]) (V.gn (V.mDot [V.gv (V.mAdd qy qy), V.gv (V.mAdd qw qw)] [qz, V.gv (V.mSub (0 : Int) qx)]) (V.gn (V.mSub (4294967296 : Int) (V.gv (V.mDot [V.gv (V.mAdd qx qx), V.gv (V.mAdd qz qz)] [qx, qz]))) (V.gn (V.mDot [V.gv (V.mAdd qx qx), V.gv (V.mAdd qz qz)] [qx, qz]) (V.gn (V.mDot [V.gv (V.mAdd qx qx), V.gv (V.mAdd qw qw)] [qy, qz]) (V.gn (V.mDot [V.gv (V.mAdd qx qx), V.gv (V.mAdd qw qw)] [qz, qy]) (V.gn (V.mDot [V.gv (V.mAdd qx qx), V.gv (V.mAdd qw qw)] [qy, V.gv (V.mSub (0 : Int) qz)]) (V.gn (V.mSub (4294967296 : Int) (V.gv (V.mDot [V.gv (V.mAdd qy qy), V.gv (V.mAdd qz qz)] [qy, qz]))) (V.gn (V.mDot [V.gv (V.mAdd qy qy), V.gv (V.mAdd qz qz)] [qy, qz]) (V.gn (V.mSub (0 : Int) qz) (V.gn (V.mSub (0 : Int) qy) (V.gn (V.mSub (0 : Int) qx) (V.gn (V.mAdd qz qz) (V.gn (V.mAdd qy qy) (V.gn (V.mAdd qx qx) (V.gn (V.mAdd qw qw) (false)))))))))))))))))))) = (V.no [V.mAdd qw qw, V.mAdd qx qx, V.mAdd qy qy, V.mAdd qz qz, V.mSub 0 qx, V.mSub 0 qy, V.mSub 0 qz, V.twoD (V.dbl qy) (V.dbl qz) qy qz, V.twoD (V.dbl qx) (V.dbl qz) qx qz, V.twoD (V.dbl qx) (V.dbl qy) qx qy] || V.no [V.mSub 4294967296 (V.gv (V.twoD (V.dbl qy) (V.dbl qz) qy qz)), V.twoD (V.dbl qx) (V.dbl qw) qy (V.neg qz), V.twoD (V.dbl qx) (V.dbl qw) qz qy, V.twoD (V.dbl qx) (V.dbl qw) qy qz, V.mSub 4294967296 (V.gv (V.twoD (V.dbl qx) (V.dbl qz) qx qz)), V.twoD (V.dbl qy) (V.dbl qw) qz (V.neg qx), V.twoD (V.dbl qx) (V.dbl qw) qz (V.neg qy), V.twoD (V.dbl qy) (V.dbl qw) qz qx, V.mSub 4294967296 (V.gv (V.twoD (V.dbl qx) (V.dbl qy) qx qy))]) := by
    simp only [V.gn, no_cons, no_nil, V.twoD, V.dbl, V.neg, Bool.or_false]
    ac_rfl
  rw [e]
  simp only []
  generalize V.no [V.mAdd qw qw, V.mAdd qx qx, V.mAdd qy qy, V.mAdd qz qz, V.mSub 0 qx, V.mSub 0 qy, V.mSub 0 qz, V.twoD (V.dbl qy) (V.dbl qz) qy qz, V.twoD (V.dbl qx) (V.dbl qz) qx qz, V.twoD (V.dbl qx) (V.dbl qy) qx qy] = f
  generalize V.no _ = g
  cases bad <;> cases f <;> cases g <;> rfl
noncomputable def dvrows_h {α : Type} (ds : List D) (Q : SV → Hp → Option α) : Option α :=
  dB ds fun bad ds => dI ds fun qw ds => dI ds fun qx ds => dI ds fun qy ds => dI ds fun qz ds => dE ds (Q (.agg [.int .i64 (V.m0 (V.tRows (qw, qx, qy, qz))), .int .i64 (V.m1 (V.tRows (qw, qx, qy, qz))), .int .i64 (V.m2 (V.tRows (qw, qx, qy, qz))), .int .i64 (V.m3 (V.tRows (qw, qx, qy, qz))), .int .i64 (V.m4 (V.tRows (qw, qx, qy, qz))), .int .i64 (V.m5 (V.tRows (qw, qx, qy, qz))), .int .i64 (V.m6 (V.tRows (qw, qx, qy, qz))), .int .i64 (V.m7 (V.tRows (qw, qx, qy, qz))), .int .i64 (V.m8 (V.tRows (qw, qx, qy, qz)))]) ([.cells [.bool (V.on (V.tRows (qw, qx, qy, qz)) bad)] 51]))
theorem dvrows_h_ok {α : Type} : FnOk E.P 38 (fEnt (α := α) dvrows_sp dvrows_h) :=
  fEnt_ok E (look_dvwhole_ok) (exec_sound E E_ok (look_dvwhole_ok) (noLps_ok _) 400) fun ds Q r h => by
    unfold dvrows_h at h
    obtain ⟨bad, ds, rfl, h1⟩ := dB_inv h
    obtain ⟨qw, ds, rfl, h2⟩ := dI_inv h1
    obtain ⟨qx, ds, rfl, h3⟩ := dI_inv h2
    obtain ⟨qy, ds, rfl, h4⟩ := dI_inv h3
    obtain ⟨qz, ds, rfl, h5⟩ := dI_inv h4
    obtain ⟨rfl, hE⟩ := dE_inv h5
    exact ⟨[SV.ptr (nat_lit 0) (nat_lit 0), SV.agg [SV.int IntKind.i64 qw, SV.int IntKind.i64 qx, SV.int IntKind.i64 qy, SV.int IntKind.i64 qz]], [SObj.cells [SV.bool bad] (nat_lit 51)], fun vs => by kernel_rfl, (dvrows_eq bad qw qx qy qz Q).trans ((dvrows_v bad qw qx qy qz _).trans hE)⟩
noncomputable def look_dvrows {α : Type} : LookF α := addFn 38 (fEnt dvrows_sp dvrows_h) look_dvwhole
theorem look_dvrows_ok {α : Type} : LookOk E.P (look_dvrows (α := α)) := addFn_ok dvrows_h_ok (look_dvwhole_ok)
noncomputable def _root_.Go.Proofs.Ytmcifgaaojgheaa.M.dvspin {α : Type} (bad : Bool) (qw : Int) (qx : Int) (qy : Int) (qz : Int) (hx : Int) (hy : Int) (hz : Int) (k0 : Int → Int → Int → Int → Bool → Option α) : Option α :=
  if bad = true then
  if (!!V.on (V.tWhole (V.q4 (V.tTimes ((4294967296 : Int), hx, hy, hz) (qw, qx, qy, qz)))) (V.on (V.tTimes ((4294967296 : Int), hx, hy, hz) (qw, qx, qy, qz)) false)) = true then k0 (0 : Int) (0 : Int) (0 : Int) (0 : Int) true
  else k0 (V.w4 (V.tWhole (V.q4 (V.tTimes ((4294967296 : Int), hx, hy, hz) (qw, qx, qy, qz))))) (V.x4 (V.tWhole (V.q4 (V.tTimes ((4294967296 : Int), hx, hy, hz) (qw, qx, qy, qz))))) (V.y4 (V.tWhole (V.q4 (V.tTimes ((4294967296 : Int), hx, hy, hz) (qw, qx, qy, qz))))) (V.z4 (V.tWhole (V.q4 (V.tTimes ((4294967296 : Int), hx, hy, hz) (qw, qx, qy, qz))))) true
else
  if (!!V.on (V.tWhole (V.q4 (V.tTimes ((4294967296 : Int), hx, hy, hz) (qw, qx, qy, qz)))) (V.on (V.tTimes ((4294967296 : Int), hx, hy, hz) (qw, qx, qy, qz)) false)) = true then k0 (0 : Int) (0 : Int) (0 : Int) (0 : Int) (V.on (V.tWhole (V.q4 (V.tTimes ((4294967296 : Int), hx, hy, hz) (qw, qx, qy, qz)))) (V.on (V.tTimes ((4294967296 : Int), hx, hy, hz) (qw, qx, qy, qz)) false))
  else
    k0 (V.w4 (V.tWhole (V.q4 (V.tTimes ((4294967296 : Int), hx, hy, hz) (qw, qx, qy, qz))))) (V.x4 (V.tWhole (V.q4 (V.tTimes ((4294967296 : Int), hx, hy, hz) (qw, qx, qy, qz))))) (V.y4 (V.tWhole (V.q4 (V.tTimes ((4294967296 : Int), hx, hy, hz) (qw, qx, qy, qz))))) (V.z4 (V.tWhole (V.q4 (V.tTimes ((4294967296 : Int), hx, hy, hz) (qw, qx, qy, qz)))))
      (V.on (V.tWhole (V.q4 (V.tTimes ((4294967296 : Int), hx, hy, hz) (qw, qx, qy, qz)))) (V.on (V.tTimes ((4294967296 : Int), hx, hy, hz) (qw, qx, qy, qz)) false))
theorem dvspin_eq {α : Type} (bad : Bool) (qw : Int) (qx : Int) (qy : Int) (qz : Int) (hx : Int) (hy : Int) (hz : Int) (Q : SV → Hp → Option α) : callI E look_dvrows (exec E look_dvrows noLps 400) 36 ([SV.ptr (nat_lit 0) (nat_lit 0), SV.agg [SV.int IntKind.i64 qw, SV.int IntKind.i64 qx, SV.int IntKind.i64 qy, SV.int IntKind.i64 qz], SV.agg [SV.int IntKind.i64 hx, SV.int IntKind.i64 hy, SV.int IntKind.i64 hz]]) ([SObj.cells [SV.bool bad] (nat_lit 51)]) Q = Go.Proofs.Ytmcifgaaojgheaa.M.dvspin bad qw qx qy qz hx hy hz (fun (x20 : Int) (x21 : Int) (x22 : Int) (x23 : Int) (x24 : Bool) => Q (SV.agg [SV.int IntKind.i64 x20, SV.int IntKind.i64 x21, SV.int IntKind.i64 x22, SV.int IntKind.i64 x23]) ([SObj.cells [SV.bool x24] (nat_lit 51)])) := by kernel_rfl
def dvspin_sp : List AS := [.ptr 51 [.bool false], .val (.agg [.int .i64 0, .int .i64 0, .int .i64 0, .int .i64 0]), .val (.agg [.int .i64 0, .int .i64 0, .int .i64 0])]
noncomputable def dvspin_go {α : Type} (ds : List D) (Q : SV → Hp → Option α) : Option α :=
  dB ds fun bad ds => dI ds fun qw ds => dI ds fun qx ds => dI ds fun qy ds => dI ds fun qz ds => dI ds fun hx ds => dI ds fun hy ds => dI ds fun hz ds => dE ds (Go.Proofs.Ytmcifgaaojgheaa.M.dvspin bad qw qx qy qz hx hy hz (fun (x20 : Int) (x21 : Int) (x22 : Int) (x23 : Int) (x24 : Bool) => Q (SV.agg [SV.int IntKind.i64 x20, SV.int IntKind.i64 x21, SV.int IntKind.i64 x22, SV.int IntKind.i64 x23]) ([SObj.cells [SV.bool x24] (nat_lit 51)])))
theorem dvspin_ok {α : Type} : FnOk E.P 36 (fEnt (α := α) dvspin_sp dvspin_go) :=
  fEnt_ok E (look_dvrows_ok) (exec_sound E E_ok (look_dvrows_ok) (noLps_ok _) 400) fun ds Q r h => by
    unfold dvspin_go at h
    obtain ⟨bad, ds, rfl, h1⟩ := dB_inv h
    obtain ⟨qw, ds, rfl, h2⟩ := dI_inv h1
    obtain ⟨qx, ds, rfl, h3⟩ := dI_inv h2
    obtain ⟨qy, ds, rfl, h4⟩ := dI_inv h3
    obtain ⟨qz, ds, rfl, h5⟩ := dI_inv h4
    obtain ⟨hx, ds, rfl, h6⟩ := dI_inv h5
    obtain ⟨hy, ds, rfl, h7⟩ := dI_inv h6
    obtain ⟨hz, ds, rfl, h8⟩ := dI_inv h7
    obtain ⟨rfl, hE⟩ := dE_inv h8
    exact ⟨[SV.ptr (nat_lit 0) (nat_lit 0), SV.agg [SV.int IntKind.i64 qw, SV.int IntKind.i64 qx, SV.int IntKind.i64 qy, SV.int IntKind.i64 qz], SV.agg [SV.int IntKind.i64 hx, SV.int IntKind.i64 hy, SV.int IntKind.i64 hz]], [SObj.cells [SV.bool bad] (nat_lit 51)], fun vs => by kernel_rfl, (dvspin_eq bad qw qx qy qz hx hy hz Q).trans hE⟩
theorem dvspin_v {α : Type} (bad : Bool) (qw : Int) (qx : Int) (qy : Int) (qz : Int) (hx : Int) (hy : Int) (hz : Int) (k0 : Int → Int → Int → Int → Bool → Option α) : M.dvspin bad qw qx qy qz hx hy hz k0 = k0 (V.w4 (V.tSpin (qw, qx, qy, qz) (hx, hy, hz))) (V.x4 (V.tSpin (qw, qx, qy, qz) (hx, hy, hz))) (V.y4 (V.tSpin (qw, qx, qy, qz) (hx, hy, hz))) (V.z4 (V.tSpin (qw, qx, qy, qz) (hx, hy, hz))) (V.on (V.tSpin (qw, qx, qy, qz) (hx, hy, hz)) bad) := by
  unfold M.dvspin V.tSpin
  try simp only [V.q4_eta]
  cases ho : V.tTimes (4294967296, hx, hy, hz) (qw, qx, qy, qz) with
  | none =>
    have e : ∀ (o : Option V.T4), V.on o (V.on (none : Option V.T4) false) = true := fun o => by cases o <;> rfl
    simp only [e, Option.bind_none]
    cases bad <;> rfl
  | some p =>
    simp only [show V.q4 (some p) = p from rfl, Option.bind_some]
    cases V.tWhole p <;> cases bad <;> rfl
noncomputable def dvspin_h {α : Type} (ds : List D) (Q : SV → Hp → Option α) : Option α :=
  dB ds fun bad ds => dI ds fun qw ds => dI ds fun qx ds => dI ds fun qy ds => dI ds fun qz ds => dI ds fun hx ds => dI ds fun hy ds => dI ds fun hz ds => dE ds (Q (.agg [.int .i64 (V.w4 (V.tSpin (qw, qx, qy, qz) (hx, hy, hz))), .int .i64 (V.x4 (V.tSpin (qw, qx, qy, qz) (hx, hy, hz))), .int .i64 (V.y4 (V.tSpin (qw, qx, qy, qz) (hx, hy, hz))), .int .i64 (V.z4 (V.tSpin (qw, qx, qy, qz) (hx, hy, hz)))]) ([.cells [.bool (V.on (V.tSpin (qw, qx, qy, qz) (hx, hy, hz)) bad)] 51]))
theorem dvspin_h_ok {α : Type} : FnOk E.P 36 (fEnt (α := α) dvspin_sp dvspin_h) :=
  fEnt_ok E (look_dvrows_ok) (exec_sound E E_ok (look_dvrows_ok) (noLps_ok _) 400) fun ds Q r h => by
    unfold dvspin_h at h
    obtain ⟨bad, ds, rfl, h1⟩ := dB_inv h
    obtain ⟨qw, ds, rfl, h2⟩ := dI_inv h1
    obtain ⟨qx, ds, rfl, h3⟩ := dI_inv h2
    obtain ⟨qy, ds, rfl, h4⟩ := dI_inv h3
    obtain ⟨qz, ds, rfl, h5⟩ := dI_inv h4
    obtain ⟨hx, ds, rfl, h6⟩ := dI_inv h5
    obtain ⟨hy, ds, rfl, h7⟩ := dI_inv h6
    obtain ⟨hz, ds, rfl, h8⟩ := dI_inv h7
    obtain ⟨rfl, hE⟩ := dE_inv h8
    exact ⟨[SV.ptr (nat_lit 0) (nat_lit 0), SV.agg [SV.int IntKind.i64 qw, SV.int IntKind.i64 qx, SV.int IntKind.i64 qy, SV.int IntKind.i64 qz], SV.agg [SV.int IntKind.i64 hx, SV.int IntKind.i64 hy, SV.int IntKind.i64 hz]], [SObj.cells [SV.bool bad] (nat_lit 51)], fun vs => by kernel_rfl, (dvspin_eq bad qw qx qy qz hx hy hz Q).trans ((dvspin_v bad qw qx qy qz hx hy hz _).trans hE)⟩
noncomputable def look_dvspin {α : Type} : LookF α := addFn 36 (fEnt dvspin_sp dvspin_h) look_dvrows
theorem look_dvspin_ok {α : Type} : LookOk E.P (look_dvspin (α := α)) := addFn_ok dvspin_h_ok (look_dvrows_ok)
end Go.Proofs.Ytmcifgaaojgheaa.Sx
