/- Texts of the walk, merged. -/
import Derived.Test.YtlagndfhibkjpaaMg8
import Derived.Test.YtlagndfhibkjpaaMg7
import Derived.Test.YtlagndfhibkjpaaMg6
section
/- vec: what the document reckons. -/
namespace Go.Proofs.Ytlagndfhibkjpaa.Sx
open Go
set_option maxRecDepth 20000
set_option linter.unusedVariables false
set_option linter.unusedSimpArgs false
noncomputable def _root_.Go.Proofs.Ytlagndfhibkjpaa.M.dvwhole {α:Type} (bad:Bool) (qw:Int) (qx:Int) (qy:Int) (qz:Int) (k0:Int → Int → Int → Int → Bool → Option α):Option α := if cLt (V.gv (V.mNorm [qw,qx,qy,qz])) (2147483648:Int) = true then k0 (0:Int) (0:Int) (0:Int) (0:Int) true else if bad = true then if (!!V.gn (V.mDiv qz (V.gv (V.mNorm [qw,qx,qy,qz]))) (V.gn (V.mDiv qy (V.gv (V.mNorm [qw,qx,qy,qz]))) (V.gn (V.mDiv qx (V.gv (V.mNorm [qw,qx,qy,qz]))) (V.gn (V.mDiv qw (V.gv (V.mNorm [qw,qx,qy,qz]))) (V.gn (V.mNorm [qw,qx,qy,qz]) false))))) = true then k0 (0:Int) (0:Int) (0:Int) (0:Int) true else k0 (V.gv (V.mDiv qw (V.gv (V.mNorm [qw,qx,qy,qz])))) (V.gv (V.mDiv qx (V.gv (V.mNorm [qw,qx,qy,qz])))) (V.gv (V.mDiv qy (V.gv (V.mNorm [qw,qx,qy,qz])))) (V.gv (V.mDiv qz (V.gv (V.mNorm [qw,qx,qy,qz])))) true else if (!!V.gn (V.mDiv qz (V.gv (V.mNorm [qw,qx,qy,qz]))) (V.gn (V.mDiv qy (V.gv (V.mNorm [qw,qx,qy,qz]))) (V.gn (V.mDiv qx (V.gv (V.mNorm [qw,qx,qy,qz]))) (V.gn (V.mDiv qw (V.gv (V.mNorm [qw,qx,qy,qz]))) (V.gn (V.mNorm [qw,qx,qy,qz]) false))))) = true then k0 (0:Int) (0:Int) (0:Int) (0:Int) (V.gn (V.mDiv qz (V.gv (V.mNorm [qw,qx,qy,qz]))) (V.gn (V.mDiv qy (V.gv (V.mNorm [qw,qx,qy,qz]))) (V.gn (V.mDiv qx (V.gv (V.mNorm [qw,qx,qy,qz]))) (V.gn (V.mDiv qw (V.gv (V.mNorm [qw,qx,qy,qz]))) (V.gn (V.mNorm [qw,qx,qy,qz]) false))))) else k0 (V.gv (V.mDiv qw (V.gv (V.mNorm [qw,qx,qy,qz])))) (V.gv (V.mDiv qx (V.gv (V.mNorm [qw,qx,qy,qz])))) (V.gv (V.mDiv qy (V.gv (V.mNorm [qw,qx,qy,qz])))) (V.gv (V.mDiv qz (V.gv (V.mNorm [qw,qx,qy,qz])))) (V.gn (V.mDiv qz (V.gv (V.mNorm [qw,qx,qy,qz]))) (V.gn (V.mDiv qy (V.gv (V.mNorm [qw,qx,qy,qz]))) (V.gn (V.mDiv qx (V.gv (V.mNorm [qw,qx,qy,qz]))) (V.gn (V.mDiv qw (V.gv (V.mNorm [qw,qx,qy,qz]))) (V.gn (V.mNorm [qw,qx,qy,qz]) false)))))
theorem dvwhole_eq {α:Type} (bad:Bool) (qw:Int) (qx:Int) (qy:Int) (qz:Int) (Q:SV → Hp → Option α):callI E look_dvturn (exec E look_dvturn noLps 400) 39 ([SV.ptr (nat_lit 0) (nat_lit 0),SV.agg [SV.int .i64 qw,SV.int .i64 qx,SV.int .i64 qy,SV.int .i64 qz]]) ([.cells [SV.bool bad] (nat_lit 80)]) Q = M.dvwhole bad qw qx qy qz (fun (x0 x1 x2 x3:Int) (x4:Bool) => Q (SV.agg [SV.int .i64 x0,SV.int .i64 x1,SV.int .i64 x2,SV.int .i64 x3]) ([.cells [SV.bool x4] (nat_lit 80)])) := by kernel_rfl
def dvwhole_sp:List AS := [.ptr 80 [.bool false],.val (.agg [.int .i64 0,.int .i64 0,.int .i64 0,.int .i64 0])]
noncomputable def dvwhole_go {α:Type} (ds:List D) (Q:SV → Hp → Option α):Option α :=
  dB ds fun bad ds => dI ds fun qw ds => dI ds fun qx ds => dI ds fun qy ds => dI ds fun qz ds => dE ds (M.dvwhole bad qw qx qy qz (fun (x0 x1 x2 x3:Int) (x4:Bool) => Q (SV.agg [SV.int .i64 x0,SV.int .i64 x1,SV.int .i64 x2,SV.int .i64 x3]) ([.cells [SV.bool x4] (nat_lit 80)])))
theorem dvwhole_ok {α:Type}:FnOk E.P 39 (fEnt (α := α) dvwhole_sp dvwhole_go) :=
  fEnt_ok E (look_dvturn_ok) (exec_sound E E_ok (look_dvturn_ok) (noLps_ok _) 400) fun ds Q r h => by
    unfold dvwhole_go at h
    obtain ⟨bad,ds,rfl,h1⟩ := dB_inv h
    obtain ⟨qw,ds,rfl,h2⟩ := dI_inv h1
    obtain ⟨qx,ds,rfl,h3⟩ := dI_inv h2
    obtain ⟨qy,ds,rfl,h4⟩ := dI_inv h3
    obtain ⟨qz,ds,rfl,h5⟩ := dI_inv h4
    obtain ⟨rfl,hE⟩ := dE_inv h5
    exact ⟨[SV.ptr (nat_lit 0) (nat_lit 0),SV.agg [SV.int .i64 qw,SV.int .i64 qx,SV.int .i64 qy,SV.int .i64 qz]],[.cells [SV.bool bad] (nat_lit 80)],fun vs => by kernel_rfl,(dvwhole_eq bad qw qx qy qz Q).trans hE⟩
theorem dvwhole_v {α:Type} (bad:Bool) (qw:Int) (qx:Int) (qy:Int) (qz:Int) (k0:Int → Int → Int → Int → Bool → Option α):M.dvwhole bad qw qx qy qz k0 = k0 (V.w4 (V.tWhole (qw,qx,qy,qz))) (V.x4 (V.tWhole (qw,qx,qy,qz))) (V.y4 (V.tWhole (qw,qx,qy,qz))) (V.z4 (V.tWhole (qw,qx,qy,qz))) (V.on (V.tWhole (qw,qx,qy,qz)) bad) := by
  unfold M.dvwhole V.tWhole V.t4 V.tLen4
  simp only [cLt_eq]
  generalize V.mDiv qw (V.gv (V.mNorm [qw,qx,qy,qz])) = o0
  generalize V.mDiv qx (V.gv (V.mNorm [qw,qx,qy,qz])) = o1
  generalize V.mDiv qy (V.gv (V.mNorm [qw,qx,qy,qz])) = o2
  generalize V.mDiv qz (V.gv (V.mNorm [qw,qx,qy,qz])) = o3
  generalize V.mNorm [qw,qx,qy,qz] = o4
  by_cases h:V.gv o4 < 2147483648
  · simp only [h, decide_true, if_true, true_or]
    cases bad <;> rfl
  · simp only [h, decide_false, false_or]
    cases bad <;> cases o0 <;> cases o1 <;> cases o2 <;> cases o3 <;> cases o4 <;> rfl
noncomputable def dvwhole_h {α:Type} (ds:List D) (Q:SV → Hp → Option α):Option α :=
  dB ds fun bad ds => dI ds fun qw ds => dI ds fun qx ds => dI ds fun qy ds => dI ds fun qz ds => dE ds (Q (.agg [.int .i64 (V.w4 (V.tWhole (qw,qx,qy,qz))),.int .i64 (V.x4 (V.tWhole (qw,qx,qy,qz))),.int .i64 (V.y4 (V.tWhole (qw,qx,qy,qz))),.int .i64 (V.z4 (V.tWhole (qw,qx,qy,qz)))]) ([.cells [.bool (V.on (V.tWhole (qw,qx,qy,qz)) bad)] 80]))
theorem dvwhole_h_ok {α:Type}:FnOk E.P 39 (fEnt (α := α) dvwhole_sp dvwhole_h) :=
  fEnt_ok E (look_dvturn_ok) (exec_sound E E_ok (look_dvturn_ok) (noLps_ok _) 400) fun ds Q r h => by
    unfold dvwhole_h at h
    obtain ⟨bad,ds,rfl,h1⟩ := dB_inv h
    obtain ⟨qw,ds,rfl,h2⟩ := dI_inv h1
    obtain ⟨qx,ds,rfl,h3⟩ := dI_inv h2
    obtain ⟨qy,ds,rfl,h4⟩ := dI_inv h3
    obtain ⟨qz,ds,rfl,h5⟩ := dI_inv h4
    obtain ⟨rfl,hE⟩ := dE_inv h5
    exact ⟨[SV.ptr (nat_lit 0) (nat_lit 0),SV.agg [SV.int .i64 qw,SV.int .i64 qx,SV.int .i64 qy,SV.int .i64 qz]],[.cells [SV.bool bad] (nat_lit 80)],fun vs => by kernel_rfl,(dvwhole_eq bad qw qx qy qz Q).trans ((dvwhole_v bad qw qx qy qz _).trans hE)⟩
noncomputable def look_dvwhole {α:Type}:LookF α := addFn 39 (fEnt dvwhole_sp dvwhole_h) look_dvturn
theorem look_dvwhole_ok {α:Type}:LookOk E.P (look_dvwhole (α := α)) := addFn_ok dvwhole_h_ok (look_dvturn_ok)
noncomputable def _root_.Go.Proofs.Ytlagndfhibkjpaa.M.dvrows {α:Type} (bad:Bool) (qw:Int) (qx:Int) (qy:Int) (qz:Int) (k0:Int → Int → Int → Int → Int → Int → Int → Int → Int → Bool → Option α):Option α := if bad = true then if (!!V.gn (V.mSub (4294967296:Int) (V.gv (V.mDot [V.gv (V.mAdd qx qx),V.gv (V.mAdd qy qy)] [qx,qy]))) (V.gn (V.mDot [V.gv (V.mAdd qx qx),V.gv (V.mAdd qy qy)] [qx,qy]) (V.gn (V.mDot [V.gv (V.mAdd qy qy),V.gv (V.mAdd qw qw)] [qz,qx]) (V.gn (V.mDot [V.gv (V.mAdd qx qx),V.gv (V.mAdd qw qw)] [qz,V.gv (V.mSub (0:Int) qy)]) (V.gn (V.mDot [V.gv (V.mAdd qy qy),V.gv (V.mAdd qw qw)] [qz,V.gv (V.mSub (0:Int) qx)]) (V.gn (V.mSub (4294967296:Int) (V.gv (V.mDot [V.gv (V.mAdd qx qx),V.gv (V.mAdd qz qz)] [qx,qz]))) (V.gn (V.mDot [V.gv (V.mAdd qx qx),V.gv (V.mAdd qz qz)] [qx,qz]) (V.gn (V.mDot [V.gv (V.mAdd qx qx),V.gv (V.mAdd qw qw)] [qy,qz]) (V.gn (V.mDot [V.gv (V.mAdd qx qx),V.gv (V.mAdd qw qw)] [qz,qy]) (V.gn (V.mDot [V.gv (V.mAdd qx qx),V.gv (V.mAdd qw qw)] [qy,V.gv (V.mSub (0:Int) qz)]) (V.gn (V.mSub (4294967296:Int) (V.gv (V.mDot [V.gv (V.mAdd qy qy),V.gv (V.mAdd qz qz)] [qy,qz]))) (V.gn (V.mDot [V.gv (V.mAdd qy qy),V.gv (V.mAdd qz qz)] [qy,qz]) (V.gn (V.mSub (0:Int) qz) (V.gn (V.mSub (0:Int) qy) (V.gn (V.mSub (0:Int) qx) (V.gn (V.mAdd qz qz) (V.gn (V.mAdd qy qy) (V.gn (V.mAdd qx qx) (V.gn (V.mAdd qw qw) false))))))))))))))))))) = true then k0 (0:Int) (0:Int) (0:Int) (0:Int) (0:Int) (0:Int) (0:Int) (0:Int) (0:Int) true else k0 (V.gv (V.mSub (4294967296:Int) (V.gv (V.mDot [V.gv (V.mAdd qy qy),V.gv (V.mAdd qz qz)] [qy,qz])))) (V.gv (V.mDot [V.gv (V.mAdd qx qx),V.gv (V.mAdd qw qw)] [qy,V.gv (V.mSub (0:Int) qz)])) (V.gv (V.mDot [V.gv (V.mAdd qx qx),V.gv (V.mAdd qw qw)] [qz,qy])) (V.gv (V.mDot [V.gv (V.mAdd qx qx),V.gv (V.mAdd qw qw)] [qy,qz])) (V.gv (V.mSub (4294967296:Int) (V.gv (V.mDot [V.gv (V.mAdd qx qx),V.gv (V.mAdd qz qz)] [qx,qz])))) (V.gv (V.mDot [V.gv (V.mAdd qy qy),V.gv (V.mAdd qw qw)] [qz,V.gv (V.mSub (0:Int) qx)])) (V.gv (V.mDot [V.gv (V.mAdd qx qx),V.gv (V.mAdd qw qw)] [qz,V.gv (V.mSub (0:Int) qy)])) (V.gv (V.mDot [V.gv (V.mAdd qy qy),V.gv (V.mAdd qw qw)] [qz,qx])) (V.gv (V.mSub (4294967296:Int) (V.gv (V.mDot [V.gv (V.mAdd qx qx),V.gv (V.mAdd qy qy)] [qx,qy])))) true else if (!!V.gn (V.mSub (4294967296:Int) (V.gv (V.mDot [V.gv (V.mAdd qx qx),V.gv (V.mAdd qy qy)] [qx,qy]))) (V.gn (V.mDot [V.gv (V.mAdd qx qx),V.gv (V.mAdd qy qy)] [qx,qy]) (V.gn (V.mDot [V.gv (V.mAdd qy qy),V.gv (V.mAdd qw qw)] [qz,qx]) (V.gn (V.mDot [V.gv (V.mAdd qx qx),V.gv (V.mAdd qw qw)] [qz,V.gv (V.mSub (0:Int) qy)]) (V.gn (V.mDot [V.gv (V.mAdd qy qy),V.gv (V.mAdd qw qw)] [qz,V.gv (V.mSub (0:Int) qx)]) (V.gn (V.mSub (4294967296:Int) (V.gv (V.mDot [V.gv (V.mAdd qx qx),V.gv (V.mAdd qz qz)] [qx,qz]))) (V.gn (V.mDot [V.gv (V.mAdd qx qx),V.gv (V.mAdd qz qz)] [qx,qz]) (V.gn (V.mDot [V.gv (V.mAdd qx qx),V.gv (V.mAdd qw qw)] [qy,qz]) (V.gn (V.mDot [V.gv (V.mAdd qx qx),V.gv (V.mAdd qw qw)] [qz,qy]) (V.gn (V.mDot [V.gv (V.mAdd qx qx),V.gv (V.mAdd qw qw)] [qy,V.gv (V.mSub (0:Int) qz)]) (V.gn (V.mSub (4294967296:Int) (V.gv (V.mDot [V.gv (V.mAdd qy qy),V.gv (V.mAdd qz qz)] [qy,qz]))) (V.gn (V.mDot [V.gv (V.mAdd qy qy),V.gv (V.mAdd qz qz)] [qy,qz]) (V.gn (V.mSub (0:Int) qz) (V.gn (V.mSub (0:Int) qy) (V.gn (V.mSub (0:Int) qx) (V.gn (V.mAdd qz qz) (V.gn (V.mAdd qy qy) (V.gn (V.mAdd qx qx) (V.gn (V.mAdd qw qw) false))))))))))))))))))) = true then k0 (0:Int) (0:Int) (0:Int) (0:Int) (0:Int) (0:Int) (0:Int) (0:Int) (0:Int) (V.gn (V.mSub (4294967296:Int) (V.gv (V.mDot [V.gv (V.mAdd qx qx),V.gv (V.mAdd qy qy)] [qx,qy]))) (V.gn (V.mDot [V.gv (V.mAdd qx qx),V.gv (V.mAdd qy qy)] [qx,qy]) (V.gn (V.mDot [V.gv (V.mAdd qy qy),V.gv (V.mAdd qw qw)] [qz,qx]) (V.gn (V.mDot [V.gv (V.mAdd qx qx),V.gv (V.mAdd qw qw)] [qz,V.gv (V.mSub (0:Int) qy)]) (V.gn (V.mDot [V.gv (V.mAdd qy qy),V.gv (V.mAdd qw qw)] [qz,V.gv (V.mSub (0:Int) qx)]) (V.gn (V.mSub (4294967296:Int) (V.gv (V.mDot [V.gv (V.mAdd qx qx),V.gv (V.mAdd qz qz)] [qx,qz]))) (V.gn (V.mDot [V.gv (V.mAdd qx qx),V.gv (V.mAdd qz qz)] [qx,qz]) (V.gn (V.mDot [V.gv (V.mAdd qx qx),V.gv (V.mAdd qw qw)] [qy,qz]) (V.gn (V.mDot [V.gv (V.mAdd qx qx),V.gv (V.mAdd qw qw)] [qz,qy]) (V.gn (V.mDot [V.gv (V.mAdd qx qx),V.gv (V.mAdd qw qw)] [qy,V.gv (V.mSub (0:Int) qz)]) (V.gn (V.mSub (4294967296:Int) (V.gv (V.mDot [V.gv (V.mAdd qy qy),V.gv (V.mAdd qz qz)] [qy,qz]))) (V.gn (V.mDot [V.gv (V.mAdd qy qy),V.gv (V.mAdd qz qz)] [qy,qz]) (V.gn (V.mSub (0:Int) qz) (V.gn (V.mSub (0:Int) qy) (V.gn (V.mSub (0:Int) qx) (V.gn (V.mAdd qz qz) (V.gn (V.mAdd qy qy) (V.gn (V.mAdd qx qx) (V.gn (V.mAdd qw qw) false))))))))))))))))))) else k0 (V.gv (V.mSub (4294967296:Int) (V.gv (V.mDot [V.gv (V.mAdd qy qy),V.gv (V.mAdd qz qz)] [qy,qz])))) (V.gv (V.mDot [V.gv (V.mAdd qx qx),V.gv (V.mAdd qw qw)] [qy,V.gv (V.mSub (0:Int) qz)])) (V.gv (V.mDot [V.gv (V.mAdd qx qx),V.gv (V.mAdd qw qw)] [qz,qy])) (V.gv (V.mDot [V.gv (V.mAdd qx qx),V.gv (V.mAdd qw qw)] [qy,qz])) (V.gv (V.mSub (4294967296:Int) (V.gv (V.mDot [V.gv (V.mAdd qx qx),V.gv (V.mAdd qz qz)] [qx,qz])))) (V.gv (V.mDot [V.gv (V.mAdd qy qy),V.gv (V.mAdd qw qw)] [qz,V.gv (V.mSub (0:Int) qx)])) (V.gv (V.mDot [V.gv (V.mAdd qx qx),V.gv (V.mAdd qw qw)] [qz,V.gv (V.mSub (0:Int) qy)])) (V.gv (V.mDot [V.gv (V.mAdd qy qy),V.gv (V.mAdd qw qw)] [qz,qx])) (V.gv (V.mSub (4294967296:Int) (V.gv (V.mDot [V.gv (V.mAdd qx qx),V.gv (V.mAdd qy qy)] [qx,qy])))) (V.gn (V.mSub (4294967296:Int) (V.gv (V.mDot [V.gv (V.mAdd qx qx),V.gv (V.mAdd qy qy)] [qx,qy]))) (V.gn (V.mDot [V.gv (V.mAdd qx qx),V.gv (V.mAdd qy qy)] [qx,qy]) (V.gn (V.mDot [V.gv (V.mAdd qy qy),V.gv (V.mAdd qw qw)] [qz,qx]) (V.gn (V.mDot [V.gv (V.mAdd qx qx),V.gv (V.mAdd qw qw)] [qz,V.gv (V.mSub (0:Int) qy)]) (V.gn (V.mDot [V.gv (V.mAdd qy qy),V.gv (V.mAdd qw qw)] [qz,V.gv (V.mSub (0:Int) qx)]) (V.gn (V.mSub (4294967296:Int) (V.gv (V.mDot [V.gv (V.mAdd qx qx),V.gv (V.mAdd qz qz)] [qx,qz]))) (V.gn (V.mDot [V.gv (V.mAdd qx qx),V.gv (V.mAdd qz qz)] [qx,qz]) (V.gn (V.mDot [V.gv (V.mAdd qx qx),V.gv (V.mAdd qw qw)] [qy,qz]) (V.gn (V.mDot [V.gv (V.mAdd qx qx),V.gv (V.mAdd qw qw)] [qz,qy]) (V.gn (V.mDot [V.gv (V.mAdd qx qx),V.gv (V.mAdd qw qw)] [qy,V.gv (V.mSub (0:Int) qz)]) (V.gn (V.mSub (4294967296:Int) (V.gv (V.mDot [V.gv (V.mAdd qy qy),V.gv (V.mAdd qz qz)] [qy,qz]))) (V.gn (V.mDot [V.gv (V.mAdd qy qy),V.gv (V.mAdd qz qz)] [qy,qz]) (V.gn (V.mSub (0:Int) qz) (V.gn (V.mSub (0:Int) qy) (V.gn (V.mSub (0:Int) qx) (V.gn (V.mAdd qz qz) (V.gn (V.mAdd qy qy) (V.gn (V.mAdd qx qx) (V.gn (V.mAdd qw qw) false)))))))))))))))))))
theorem dvrows_eq {α:Type} (bad:Bool) (qw:Int) (qx:Int) (qy:Int) (qz:Int) (Q:SV → Hp → Option α):callI E look_dvwhole (exec E look_dvwhole noLps 400) 40 ([SV.ptr (nat_lit 0) (nat_lit 0),SV.agg [SV.int .i64 qw,SV.int .i64 qx,SV.int .i64 qy,SV.int .i64 qz]]) ([.cells [SV.bool bad] (nat_lit 80)]) Q = M.dvrows bad qw qx qy qz (fun (x5 x6 x7 x8 x9 x10 x11 x12 x13:Int) (x14:Bool) => Q (SV.agg [SV.int .i64 x5,SV.int .i64 x6,SV.int .i64 x7,SV.int .i64 x8,SV.int .i64 x9,SV.int .i64 x10,SV.int .i64 x11,SV.int .i64 x12,SV.int .i64 x13]) ([.cells [SV.bool x14] (nat_lit 80)])) := by kernel_rfl
def dvrows_sp:List AS := [.ptr 80 [.bool false],.val (.agg [.int .i64 0,.int .i64 0,.int .i64 0,.int .i64 0])]
noncomputable def dvrows_go {α:Type} (ds:List D) (Q:SV → Hp → Option α):Option α :=
  dB ds fun bad ds => dI ds fun qw ds => dI ds fun qx ds => dI ds fun qy ds => dI ds fun qz ds => dE ds (M.dvrows bad qw qx qy qz (fun (x5 x6 x7 x8 x9 x10 x11 x12 x13:Int) (x14:Bool) => Q (SV.agg [SV.int .i64 x5,SV.int .i64 x6,SV.int .i64 x7,SV.int .i64 x8,SV.int .i64 x9,SV.int .i64 x10,SV.int .i64 x11,SV.int .i64 x12,SV.int .i64 x13]) ([.cells [SV.bool x14] (nat_lit 80)])))
theorem dvrows_ok {α:Type}:FnOk E.P 40 (fEnt (α := α) dvrows_sp dvrows_go) :=
  fEnt_ok E (look_dvwhole_ok) (exec_sound E E_ok (look_dvwhole_ok) (noLps_ok _) 400) fun ds Q r h => by
    unfold dvrows_go at h
    obtain ⟨bad,ds,rfl,h1⟩ := dB_inv h
    obtain ⟨qw,ds,rfl,h2⟩ := dI_inv h1
    obtain ⟨qx,ds,rfl,h3⟩ := dI_inv h2
    obtain ⟨qy,ds,rfl,h4⟩ := dI_inv h3
    obtain ⟨qz,ds,rfl,h5⟩ := dI_inv h4
    obtain ⟨rfl,hE⟩ := dE_inv h5
    exact ⟨[SV.ptr (nat_lit 0) (nat_lit 0),SV.agg [SV.int .i64 qw,SV.int .i64 qx,SV.int .i64 qy,SV.int .i64 qz]],[.cells [SV.bool bad] (nat_lit 80)],fun vs => by kernel_rfl,(dvrows_eq bad qw qx qy qz Q).trans hE⟩
theorem dvrows_v {α:Type} (bad:Bool) (qw:Int) (qx:Int) (qy:Int) (qz:Int) (k0:Int → Int → Int → Int → Int → Int → Int → Int → Int → Bool → Option α):M.dvrows bad qw qx qy qz k0 = k0 (V.m0 (V.tRows (qw,qx,qy,qz))) (V.m1 (V.tRows (qw,qx,qy,qz))) (V.m2 (V.tRows (qw,qx,qy,qz))) (V.m3 (V.tRows (qw,qx,qy,qz))) (V.m4 (V.tRows (qw,qx,qy,qz))) (V.m5 (V.tRows (qw,qx,qy,qz))) (V.m6 (V.tRows (qw,qx,qy,qz))) (V.m7 (V.tRows (qw,qx,qy,qz))) (V.m8 (V.tRows (qw,qx,qy,qz))) (V.on (V.tRows (qw,qx,qy,qz)) bad) := by
  unfold M.dvrows V.tRows
  have e:(V.gn (V.mSub (4294967296:Int) (V.gv (V.mDot [V.gv (V.mAdd qx qx),V.gv (V.mAdd qy qy)] [qx,qy]))) (V.gn (V.mDot [V.gv (V.mAdd qx qx),V.gv (V.mAdd qy qy)] [qx,qy]) (V.gn (V.mDot [V.gv (V.mAdd qy qy),V.gv (V.mAdd qw qw)] [qz,qx]) (V.gn (V.mDot [V.gv (V.mAdd qx qx),V.gv (V.mAdd qw qw)] [qz,V.gv (V.mSub (0:Int) qy)]) (V.gn (V.mDot [V.gv (V.mAdd qy qy),V.gv (V.mAdd qw qw)] [qz,V.gv (V.mSub (0:Int) qx)]) (V.gn (V.mSub (4294967296:Int) (V.gv (V.mDot [V.gv (V.mAdd qx qx),V.gv (V.mAdd qz qz)] [qx,qz]))) (V.gn (V.mDot [V.gv (V.mAdd qx qx),V.gv (V.mAdd qz qz)] [qx,qz]) (V.gn (V.mDot [V.gv (V.mAdd qx qx),V.gv (V.mAdd qw qw)] [qy,qz]) (V.gn (V.mDot [V.gv (V.mAdd qx qx),V.gv (V.mAdd qw qw)] [qz,qy]) (V.gn (V.mDot [V.gv (V.mAdd qx qx),V.gv (V.mAdd qw qw)] [qy,V.gv (V.mSub (0:Int) qz)]) (V.gn (V.mSub (4294967296:Int) (V.gv (V.mDot [V.gv (V.mAdd qy qy),V.gv (V.mAdd qz qz)] [qy,qz]))) (V.gn (V.mDot [V.gv (V.mAdd qy qy),V.gv (V.mAdd qz qz)] [qy,qz]) (V.gn (V.mSub (0:Int) qz) (V.gn (V.mSub (0:Int) qy) (V.gn (V.mSub (0:Int) qx) (V.gn (V.mAdd qz qz) (V.gn (V.mAdd qy qy) (V.gn (V.mAdd qx qx) (V.gn (V.mAdd qw qw) (false)))))))))))))))))))) = (V.no [V.mAdd qw qw,V.mAdd qx qx,V.mAdd qy qy,V.mAdd qz qz,V.mSub 0 qx,V.mSub 0 qy,V.mSub 0 qz,V.twoD (V.dbl qy) (V.dbl qz) qy qz,V.twoD (V.dbl qx) (V.dbl qz) qx qz,V.twoD (V.dbl qx) (V.dbl qy) qx qy] || V.no [V.mSub 4294967296 (V.gv (V.twoD (V.dbl qy) (V.dbl qz) qy qz)),V.twoD (V.dbl qx) (V.dbl qw) qy (V.neg qz),V.twoD (V.dbl qx) (V.dbl qw) qz qy,V.twoD (V.dbl qx) (V.dbl qw) qy qz,V.mSub 4294967296 (V.gv (V.twoD (V.dbl qx) (V.dbl qz) qx qz)),V.twoD (V.dbl qy) (V.dbl qw) qz (V.neg qx),V.twoD (V.dbl qx) (V.dbl qw) qz (V.neg qy),V.twoD (V.dbl qy) (V.dbl qw) qz qx,V.mSub 4294967296 (V.gv (V.twoD (V.dbl qx) (V.dbl qy) qx qy))]) := by
    simp only [V.gn,no_cons,no_nil,V.twoD,V.dbl,V.neg,Bool.or_false]
    ac_rfl
  rw [e]
  simp only []
  generalize V.no [V.mAdd qw qw,V.mAdd qx qx,V.mAdd qy qy,V.mAdd qz qz,V.mSub 0 qx,V.mSub 0 qy,V.mSub 0 qz,V.twoD (V.dbl qy) (V.dbl qz) qy qz,V.twoD (V.dbl qx) (V.dbl qz) qx qz,V.twoD (V.dbl qx) (V.dbl qy) qx qy] = f
  generalize V.no _ = g
  cases bad <;> cases f <;> cases g <;> rfl
noncomputable def dvrows_h {α:Type} (ds:List D) (Q:SV → Hp → Option α):Option α :=
  dB ds fun bad ds => dI ds fun qw ds => dI ds fun qx ds => dI ds fun qy ds => dI ds fun qz ds => dE ds (Q (.agg [.int .i64 (V.m0 (V.tRows (qw,qx,qy,qz))),.int .i64 (V.m1 (V.tRows (qw,qx,qy,qz))),.int .i64 (V.m2 (V.tRows (qw,qx,qy,qz))),.int .i64 (V.m3 (V.tRows (qw,qx,qy,qz))),.int .i64 (V.m4 (V.tRows (qw,qx,qy,qz))),.int .i64 (V.m5 (V.tRows (qw,qx,qy,qz))),.int .i64 (V.m6 (V.tRows (qw,qx,qy,qz))),.int .i64 (V.m7 (V.tRows (qw,qx,qy,qz))),.int .i64 (V.m8 (V.tRows (qw,qx,qy,qz)))]) ([.cells [.bool (V.on (V.tRows (qw,qx,qy,qz)) bad)] 80]))
theorem dvrows_h_ok {α:Type}:FnOk E.P 40 (fEnt (α := α) dvrows_sp dvrows_h) :=
  fEnt_ok E (look_dvwhole_ok) (exec_sound E E_ok (look_dvwhole_ok) (noLps_ok _) 400) fun ds Q r h => by
    unfold dvrows_h at h
    obtain ⟨bad,ds,rfl,h1⟩ := dB_inv h
    obtain ⟨qw,ds,rfl,h2⟩ := dI_inv h1
    obtain ⟨qx,ds,rfl,h3⟩ := dI_inv h2
    obtain ⟨qy,ds,rfl,h4⟩ := dI_inv h3
    obtain ⟨qz,ds,rfl,h5⟩ := dI_inv h4
    obtain ⟨rfl,hE⟩ := dE_inv h5
    exact ⟨[SV.ptr (nat_lit 0) (nat_lit 0),SV.agg [SV.int .i64 qw,SV.int .i64 qx,SV.int .i64 qy,SV.int .i64 qz]],[.cells [SV.bool bad] (nat_lit 80)],fun vs => by kernel_rfl,(dvrows_eq bad qw qx qy qz Q).trans ((dvrows_v bad qw qx qy qz _).trans hE)⟩
noncomputable def look_dvrows {α:Type}:LookF α := addFn 40 (fEnt dvrows_sp dvrows_h) look_dvwhole
theorem look_dvrows_ok {α:Type}:LookOk E.P (look_dvrows (α := α)) := addFn_ok dvrows_h_ok (look_dvwhole_ok)
end Go.Proofs.Ytlagndfhibkjpaa.Sx
end

section
/- pose: right poses. -/
namespace Go.Proofs.Ytlagndfhibkjpaa.Sx
open Go
set_option maxRecDepth 20000
set_option linter.unusedVariables false
set_option linter.unusedSimpArgs false
noncomputable def look_PoS_place {α:Type}:LookF α := addFn 12 (fEnt place_sp place_h) look_right
theorem look_PoS_place_ok {α:Type}:LookOk E.P (look_PoS_place (α := α)) := addFn_ok place_h_ok (look_right_ok)
noncomputable def look_PoS_pspan {α:Type}:LookF α := addFn 21 (fEnt pspan_sp pspan_h) look_PoS_place
theorem look_PoS_pspan_ok {α:Type}:LookOk E.P (look_PoS_pspan (α := α)) := addFn_ok pspan_h_ok (look_PoS_place_ok)
noncomputable def look_PoS_pmeet {α:Type}:LookF α := addFn 15 (fEnt pmeet_sp pmeet_c) look_PoS_pspan
theorem look_PoS_pmeet_ok {α:Type}:LookOk E.P (look_PoS_pmeet (α := α)) := addFn_ok pmeet_c_ok (look_PoS_pspan_ok)
noncomputable def look_PoS_pjoin {α:Type}:LookF α := addFn 14 (fEnt pjoin_sp pjoin_c) look_PoS_pmeet
theorem look_PoS_pjoin_ok {α:Type}:LookOk E.P (look_PoS_pjoin (α := α)) := addFn_ok pjoin_c_ok (look_PoS_pmeet_ok)
noncomputable def look_PoS_pawake {α:Type}:LookF α := addFn 8 (fEnt pawake_sp pawake_h) look_PoS_pjoin
theorem look_PoS_pawake_ok {α:Type}:LookOk E.P (look_PoS_pawake (α := α)) := addFn_ok pawake_h_ok (look_PoS_pjoin_ok)
noncomputable def look_PoS_dvwhole {α:Type}:LookF α := addFn 39 (fEnt dvwhole_sp dvwhole_h) look_PoS_pawake
theorem look_PoS_dvwhole_ok {α:Type}:LookOk E.P (look_PoS_dvwhole (α := α)) := addFn_ok dvwhole_h_ok (look_PoS_pawake_ok)
noncomputable def _root_.Go.Proofs.Ytlagndfhibkjpaa.M.qpick {α:Type} (c:Int) (n:Int) (k0:Int → Option α):Option α := if cLt c (0:Int) = true then if n = (0:Int) then none else k0 (Int.tmod (IntKind.wrap .i64 ((0:Int) - IntKind.wrap .i64 (c + (1:Int)))) n) else if n = (0:Int) then none else k0 (Int.tmod c n)
theorem qpick_eq {α:Type} (c:Int) (n:Int) (Q:SV → Hp → Option α):callI E look_PoS_dvwhole (exec E look_PoS_dvwhole noLps 400) 11 ([SV.int .i64 c,SV.int .i64 n]) ([]) Q = M.qpick c n (fun (x0:Int) => Q (SV.int .i64 x0) ([])) := by kernel_rfl
def qpick_sp:List AS := [.val (.int .i64 0),.val (.int .i64 0)]
noncomputable def _root_.Go.Proofs.Ytlagndfhibkjpaa.V.qpick_g (c:Int) (n:Int):Bool := if cLt c (0:Int) = true then if n = (0:Int) then false else true else if n = (0:Int) then false else true
noncomputable def _root_.Go.Proofs.Ytlagndfhibkjpaa.V.qpick_r0 (c:Int) (n:Int):Int := if cLt c (0:Int) = true then if n = (0:Int) then (0:Int) else Int.tmod (IntKind.wrap .i64 ((0:Int) - IntKind.wrap .i64 (c + (1:Int)))) n else if n = (0:Int) then (0:Int) else Int.tmod c n
theorem qpick_val {α:Type} (c:Int) (n:Int) (k0:Int → Option α):M.qpick c n k0 = if V.qpick_g c n = true then k0 (V.qpick_r0 c n) else none := by
  unfold M.qpick V.qpick_g V.qpick_r0
  repeat' first | rfl | (split <;> rename_i h <;> first | simp only [if_pos h] | simp only [if_neg h] | skip)
noncomputable def qpick_c {α:Type} (ds:List D) (Q:SV → Hp → Option α):Option α :=
  dI ds fun c ds => dI ds fun n ds => dE ds (if V.qpick_g c n = true then Q (SV.int .i64 (V.qpick_r0 c n)) ([]) else none)
theorem qpick_c_ok {α:Type}:FnOk E.P 11 (fEnt (α := α) qpick_sp qpick_c) :=
  fEnt_ok E (look_PoS_dvwhole_ok) (exec_sound E E_ok (look_PoS_dvwhole_ok) (noLps_ok _) 400) fun ds Q r h => by
    unfold qpick_c at h
    obtain ⟨c,ds,rfl,h1⟩ := dI_inv h
    obtain ⟨n,ds,rfl,h2⟩ := dI_inv h1
    obtain ⟨rfl,hE⟩ := dE_inv h2
    exact ⟨[SV.int .i64 c,SV.int .i64 n],[],fun vs => by kernel_rfl,(qpick_eq c n Q).trans ((qpick_val c n (fun (x0:Int) => Q (SV.int .i64 x0) ([]))).trans hE)⟩
noncomputable def qpick_go {α:Type} (ds:List D) (Q:SV → Hp → Option α):Option α :=
  dI ds fun c ds => dI ds fun n ds => dE ds (M.qpick c n (fun (x0:Int) => Q (SV.int .i64 x0) ([])))
theorem qpick_ok {α:Type}:FnOk E.P 11 (fEnt (α := α) qpick_sp qpick_go) :=
  fEnt_ok E (look_PoS_dvwhole_ok) (exec_sound E E_ok (look_PoS_dvwhole_ok) (noLps_ok _) 400) fun ds Q r h => by
    unfold qpick_go at h
    obtain ⟨c,ds,rfl,h1⟩ := dI_inv h
    obtain ⟨n,ds,rfl,h2⟩ := dI_inv h1
    obtain ⟨rfl,hE⟩ := dE_inv h2
    exact ⟨[SV.int .i64 c,SV.int .i64 n],[],fun vs => by kernel_rfl,(qpick_eq c n Q).trans hE⟩
noncomputable def look_qpick {α:Type}:LookF α := addFn 11 (fEnt qpick_sp qpick_c) look_PoS_dvwhole
theorem look_qpick_ok {α:Type}:LookOk E.P (look_qpick (α := α)) := addFn_ok qpick_c_ok (look_PoS_dvwhole_ok)
noncomputable def _root_.Go.Proofs.Ytlagndfhibkjpaa.M.qpart {α:Type} (c:Int) (n:Int) (k0:Int → Option α):Option α := if V.qpick_g c (IntKind.wrap .i64 (IntKind.wrap .i64 ((2:Int) * n) + (1:Int))) = true then k0 (IntKind.wrap .i64 (V.qpick_r0 c (IntKind.wrap .i64 (IntKind.wrap .i64 ((2:Int) * n) + (1:Int))) - n)) else none
theorem qpart_eq {α:Type} (c:Int) (n:Int) (Q:SV → Hp → Option α):callI E look_qpick (exec E look_qpick noLps 400) 27 ([SV.int .i64 c,SV.int .i64 n]) ([]) Q = M.qpart c n (fun (x1:Int) => Q (SV.int .i64 x1) ([])) := by kernel_rfl
def qpart_sp:List AS := [.val (.int .i64 0),.val (.int .i64 0)]
noncomputable def qpart_go {α:Type} (ds:List D) (Q:SV → Hp → Option α):Option α :=
  dI ds fun c ds => dI ds fun n ds => dE ds (M.qpart c n (fun (x1:Int) => Q (SV.int .i64 x1) ([])))
theorem qpart_ok {α:Type}:FnOk E.P 27 (fEnt (α := α) qpart_sp qpart_go) :=
  fEnt_ok E (look_qpick_ok) (exec_sound E E_ok (look_qpick_ok) (noLps_ok _) 400) fun ds Q r h => by
    unfold qpart_go at h
    obtain ⟨c,ds,rfl,h1⟩ := dI_inv h
    obtain ⟨n,ds,rfl,h2⟩ := dI_inv h1
    obtain ⟨rfl,hE⟩ := dE_inv h2
    exact ⟨[SV.int .i64 c,SV.int .i64 n],[],fun vs => by kernel_rfl,(qpart_eq c n Q).trans hE⟩
theorem qg (c n:Int) (h:n ≠ 0):V.qpick_g c n = true := by
  unfold V.qpick_g
  rw [if_neg h,ite_self]
noncomputable def _root_.Go.Proofs.Ytlagndfhibkjpaa.M.qright {α:Type} (px:Int) (p_y:Int) (pz:Int) (tw:Int) (tx:Int) (ty:Int) (tz:Int) (k0:Int → Int → Int → Int → Int → Int → Int → Option α):Option α := if V.qpick_g tw (2199023255553:Int) = true then if V.qpick_g tx (2199023255553:Int) = true then if V.qpick_g ty (2199023255553:Int) = true then if V.qpick_g tz (2199023255553:Int) = true then if V.on (V.tWhole (IntKind.wrap .i64 (V.qpick_r0 tw (2199023255553:Int) - (1099511627776:Int)),IntKind.wrap .i64 (V.qpick_r0 tx (2199023255553:Int) - (1099511627776:Int)),IntKind.wrap .i64 (V.qpick_r0 ty (2199023255553:Int) - (1099511627776:Int)),IntKind.wrap .i64 (V.qpick_r0 tz (2199023255553:Int) - (1099511627776:Int)))) false = true then if V.qpick_g px (8796093022209:Int) = true then if V.qpick_g p_y (8796093022209:Int) = true then if V.qpick_g pz (8796093022209:Int) = true then k0 (IntKind.wrap .i64 (V.qpick_r0 px (8796093022209:Int) - (4398046511104:Int))) (IntKind.wrap .i64 (V.qpick_r0 p_y (8796093022209:Int) - (4398046511104:Int))) (IntKind.wrap .i64 (V.qpick_r0 pz (8796093022209:Int) - (4398046511104:Int))) (4294967296:Int) (0:Int) (0:Int) (0:Int) else none else none else none else if V.qpick_g px (8796093022209:Int) = true then if V.qpick_g p_y (8796093022209:Int) = true then if V.qpick_g pz (8796093022209:Int) = true then k0 (IntKind.wrap .i64 (V.qpick_r0 px (8796093022209:Int) - (4398046511104:Int))) (IntKind.wrap .i64 (V.qpick_r0 p_y (8796093022209:Int) - (4398046511104:Int))) (IntKind.wrap .i64 (V.qpick_r0 pz (8796093022209:Int) - (4398046511104:Int))) (V.w4 (V.tWhole (IntKind.wrap .i64 (V.qpick_r0 tw (2199023255553:Int) - (1099511627776:Int)),IntKind.wrap .i64 (V.qpick_r0 tx (2199023255553:Int) - (1099511627776:Int)),IntKind.wrap .i64 (V.qpick_r0 ty (2199023255553:Int) - (1099511627776:Int)),IntKind.wrap .i64 (V.qpick_r0 tz (2199023255553:Int) - (1099511627776:Int))))) (V.x4 (V.tWhole (IntKind.wrap .i64 (V.qpick_r0 tw (2199023255553:Int) - (1099511627776:Int)),IntKind.wrap .i64 (V.qpick_r0 tx (2199023255553:Int) - (1099511627776:Int)),IntKind.wrap .i64 (V.qpick_r0 ty (2199023255553:Int) - (1099511627776:Int)),IntKind.wrap .i64 (V.qpick_r0 tz (2199023255553:Int) - (1099511627776:Int))))) (V.y4 (V.tWhole (IntKind.wrap .i64 (V.qpick_r0 tw (2199023255553:Int) - (1099511627776:Int)),IntKind.wrap .i64 (V.qpick_r0 tx (2199023255553:Int) - (1099511627776:Int)),IntKind.wrap .i64 (V.qpick_r0 ty (2199023255553:Int) - (1099511627776:Int)),IntKind.wrap .i64 (V.qpick_r0 tz (2199023255553:Int) - (1099511627776:Int))))) (V.z4 (V.tWhole (IntKind.wrap .i64 (V.qpick_r0 tw (2199023255553:Int) - (1099511627776:Int)),IntKind.wrap .i64 (V.qpick_r0 tx (2199023255553:Int) - (1099511627776:Int)),IntKind.wrap .i64 (V.qpick_r0 ty (2199023255553:Int) - (1099511627776:Int)),IntKind.wrap .i64 (V.qpick_r0 tz (2199023255553:Int) - (1099511627776:Int))))) else none else none else none else none else none else none else none
theorem qright_eq {α:Type} (px:Int) (p_y:Int) (pz:Int) (tw:Int) (tx:Int) (ty:Int) (tz:Int) (Q:SV → Hp → Option α):callI E look_qpick (exec E look_qpick noLps 400) 20 ([SV.agg [SV.int .i64 px,SV.int .i64 p_y,SV.int .i64 pz,SV.int .i64 tw,SV.int .i64 tx,SV.int .i64 ty,SV.int .i64 tz]]) ([]) Q = M.qright px p_y pz tw tx ty tz (fun (x2 x3 x4 x5 x6 x7 x8:Int) => Q (SV.agg [SV.int .i64 x2,SV.int .i64 x3,SV.int .i64 x4,SV.int .i64 x5,SV.int .i64 x6,SV.int .i64 x7,SV.int .i64 x8]) ([])) := by kernel_rfl
def qright_sp:List AS := [.val (.agg [.int .i64 0,.int .i64 0,.int .i64 0,.int .i64 0,.int .i64 0,.int .i64 0,.int .i64 0])]
noncomputable def qright_go {α:Type} (ds:List D) (Q:SV → Hp → Option α):Option α :=
  dI ds fun px ds => dI ds fun p_y ds => dI ds fun pz ds => dI ds fun tw ds => dI ds fun tx ds => dI ds fun ty ds => dI ds fun tz ds => dE ds (M.qright px p_y pz tw tx ty tz (fun (x2 x3 x4 x5 x6 x7 x8:Int) => Q (SV.agg [SV.int .i64 x2,SV.int .i64 x3,SV.int .i64 x4,SV.int .i64 x5,SV.int .i64 x6,SV.int .i64 x7,SV.int .i64 x8]) ([])))
theorem qright_ok {α:Type}:FnOk E.P 20 (fEnt (α := α) qright_sp qright_go) :=
  fEnt_ok E (look_qpick_ok) (exec_sound E E_ok (look_qpick_ok) (noLps_ok _) 400) fun ds Q r h => by
    unfold qright_go at h
    obtain ⟨px,ds,rfl,h1⟩ := dI_inv h
    obtain ⟨p_y,ds,rfl,h2⟩ := dI_inv h1
    obtain ⟨pz,ds,rfl,h3⟩ := dI_inv h2
    obtain ⟨tw,ds,rfl,h4⟩ := dI_inv h3
    obtain ⟨tx,ds,rfl,h5⟩ := dI_inv h4
    obtain ⟨ty,ds,rfl,h6⟩ := dI_inv h5
    obtain ⟨tz,ds,rfl,h7⟩ := dI_inv h6
    obtain ⟨rfl,hE⟩ := dE_inv h7
    exact ⟨[SV.agg [SV.int .i64 px,SV.int .i64 p_y,SV.int .i64 pz,SV.int .i64 tw,SV.int .i64 tx,SV.int .i64 ty,SV.int .i64 tz]],[],fun vs => by kernel_rfl,(qright_eq px p_y pz tw tx ty tz Q).trans hE⟩
noncomputable def qp (n:Int):Int := IntKind.wrap .i64 (V.qpick_r0 n 8796093022209 - 4398046511104)
noncomputable def qq (n:Int):Int := IntKind.wrap .i64 (V.qpick_r0 n 2199023255553 - 1099511627776)
noncomputable def _root_.Go.Proofs.Ytlagndfhibkjpaa.V.prP (n:Int):Int := hid (qp n)
noncomputable def _root_.Go.Proofs.Ytlagndfhibkjpaa.V.prQ (tw tx ty tz:Int):V.T4 := hid ((V.tWhole (qq tw,qq tx,qq ty,qq tz)).getD (4294967296,0,0,0))
theorem qright_v {α:Type} (px p_y pz tw tx ty tz:Int) (k0:Int → Int → Int → Int → Int → Int → Int → Option α):M.qright px p_y pz tw tx ty tz k0 = k0 (V.prP px) (V.prP p_y) (V.prP pz) (V.prQ tw tx ty tz).1 (V.prQ tw tx ty tz).2.1 (V.prQ tw tx ty tz).2.2.1 (V.prQ tw tx ty tz).2.2.2 := by
  unfold M.qright V.prP V.prQ
  simp only [qg _ 2199023255553 (by decide),qg _ 8796093022209 (by decide),if_true,hid_eq]
  show (if V.on (V.tWhole (qq tw,qq tx,qq ty,qq tz)) false = true then k0 (qp px) (qp p_y) (qp pz) 4294967296 0 0 0 else k0 (qp px) (qp p_y) (qp pz) (V.w4 (V.tWhole (qq tw,qq tx,qq ty,qq tz))) (V.x4 (V.tWhole (qq tw,qq tx,qq ty,qq tz))) (V.y4 (V.tWhole (qq tw,qq tx,qq ty,qq tz))) (V.z4 (V.tWhole (qq tw,qq tx,qq ty,qq tz)))) = _
  cases V.tWhole (qq tw,qq tx,qq ty,qq tz) with
  | none => rw [on_none,if_pos rfl]; rfl
  | some t => rw [on_some,if_neg (by decide)]; rfl
noncomputable def qright_h {α:Type} (ds:List D) (Q:SV → Hp → Option α):Option α :=
  dI ds fun px ds => dI ds fun p_y ds => dI ds fun pz ds => dI ds fun tw ds => dI ds fun tx ds => dI ds fun ty ds => dI ds fun tz ds => dE ds (Q (.agg [.int .i64 (V.prP px),.int .i64 (V.prP p_y),.int .i64 (V.prP pz),.int .i64 (V.prQ tw tx ty tz).1,.int .i64 (V.prQ tw tx ty tz).2.1,.int .i64 (V.prQ tw tx ty tz).2.2.1,.int .i64 (V.prQ tw tx ty tz).2.2.2]) ([]))
theorem qright_h_ok {α:Type}:FnOk E.P 20 (fEnt (α := α) qright_sp qright_h) :=
  fEnt_ok E (look_qpick_ok) (exec_sound E E_ok (look_qpick_ok) (noLps_ok _) 400) fun ds Q r h => by
    unfold qright_h at h
    obtain ⟨px,ds,rfl,h1⟩ := dI_inv h
    obtain ⟨p_y,ds,rfl,h2⟩ := dI_inv h1
    obtain ⟨pz,ds,rfl,h3⟩ := dI_inv h2
    obtain ⟨tw,ds,rfl,h4⟩ := dI_inv h3
    obtain ⟨tx,ds,rfl,h5⟩ := dI_inv h4
    obtain ⟨ty,ds,rfl,h6⟩ := dI_inv h5
    obtain ⟨tz,ds,rfl,h7⟩ := dI_inv h6
    obtain ⟨rfl,hE⟩ := dE_inv h7
    exact ⟨[SV.agg [SV.int .i64 px,SV.int .i64 p_y,SV.int .i64 pz,SV.int .i64 tw,SV.int .i64 tx,SV.int .i64 ty,SV.int .i64 tz]],[],fun vs => by kernel_rfl,(qright_eq px p_y pz tw tx ty tz Q).trans ((qright_v px p_y pz tw tx ty tz _).trans hE)⟩
noncomputable def look_qright {α:Type}:LookF α := addFn 20 (fEnt qright_sp qright_h) look_qpick
theorem look_qright_ok {α:Type}:LookOk E.P (look_qright (α := α)) := addFn_ok qright_h_ok (look_qpick_ok)
end Go.Proofs.Ytlagndfhibkjpaa.Sx
end

section
/- vec: what is made whole is whole; what is turned and turned back. -/
namespace Go.Proofs.Ytlagndfhibkjpaa.Sx
open Go
set_option linter.unusedVariables false
set_option linter.unusedSimpArgs false
theorem mul_bd {a b m n:Int} (h1:-m ≤ a) (h2:a ≤ m) (h3:-n ≤ b) (h4:b ≤ n):-(m * n) ≤ a * b ∧ a * b ≤ m * n := by
  have e1:0 ≤ (m + a) * (n + b) := Int.mul_nonneg (by omega) (by omega)
  have e2:0 ≤ (m - a) * (n - b) := Int.mul_nonneg (by omega) (by omega)
  have e3:0 ≤ (m + a) * (n - b) := Int.mul_nonneg (by omega) (by omega)
  have e4:0 ≤ (m - a) * (n + b) := Int.mul_nonneg (by omega) (by omega)
  have f1:(m + a) * (n + b) = m * n + m * b + a * n + a * b := by grind
  have f2:(m - a) * (n - b) = m * n - m * b - a * n + a * b := by grind
  have f3:(m + a) * (n - b) = m * n - m * b + a * n - a * b := by grind
  have f4:(m - a) * (n + b) = m * n + m * b - a * n - a * b := by grind
  omega
/-- A quotient that is rounded down, by a length: its square. -/
theorem part_sq {a n t:Int} (hn:0 < n) (h1:-n ≤ a) (h2:a ≤ n) (ht:t = Int.fdiv (a * 4294967296) n) :
    -4294967296 ≤ t ∧ t ≤ 4294967296 ∧ ∃ r,0 ≤ r ∧ r < n ∧ n * n * (t * t) = a * a * 18446744073709551616 - 8589934592 * (a * r) + r * r := by
  rw [fdiv_pos _ _ hn] at ht
  have e1:a * 4294967296 / n * n + a * 4294967296 % n = a * 4294967296 := Int.ediv_mul_add_emod _ n
  have e2:0 ≤ a * 4294967296 % n := Int.emod_nonneg _ (by omega)
  have e3:a * 4294967296 % n < n := Int.emod_lt_of_pos _ hn
  rw [← ht] at e1
  generalize a * 4294967296 % n = r at *
  refine ⟨?_,?_,r,e2,e3,?_⟩
  · rw [ht]; exact Int.le_ediv_of_mul_le hn (by omega)
  · rw [ht]; exact Int.ediv_le_of_le_mul hn (by omega)
  · have : n * n * (t * t) = (t * n) * (t * n) := by grind
    rw [this,show t * n = a * 4294967296 - r by omega]
    grind
/-- parts' sizes together -/
theorem four_sum {a b c d n:Int} (hn:0 ≤ n) (h:a * a + (b * b + (c * c + d * d)) < (n + 1) * (n + 1)):a + b + c + d ≤ 2 * n + 1 := by
  have e:(a + b + c + d) * (a + b + c + d) + ((a - b) * (a - b) + (a - c) * (a - c) + (a - d) * (a - d) + (b - c) * (b - c) + (b - d) * (b - d) + (c - d) * (c - d)) = 4 * (a * a + (b * b + (c * c + d * d))) := by grind
  have := sq_nn (a - b); have := sq_nn (a - c); have := sq_nn (a - d); have := sq_nn (b - c); have := sq_nn (b - d); have := sq_nn (c - d)
  by_cases hh:a + b + c + d ≤ 2 * n + 1
  · exact hh
  · have : (2 * n + 2) * (2 * n + 2) ≤ (a + b + c + d) * (a + b + c + d) := Int.mul_le_mul (by omega) (by omega) (by omega) (by omega)
    have e2:(2 * n + 2) * (2 * n + 2) = 4 * ((n + 1) * (n + 1)) := by grind
    omega
theorem natAbs_sq (a:Int):(a.natAbs:Int) * a.natAbs = a * a := by
  rcases Int.natAbs_eq a with h | h <;> (generalize a.natAbs = m at *; subst h; grind)
theorem rest_bd {a r n:Int} (h1:0 ≤ r) (h2:r ≤ n):-(n * (a.natAbs:Int)) ≤ a * r ∧ a * r ≤ n * (a.natAbs:Int) := by
  have := mul_bd (a := a) (b := r) (m := a.natAbs) (n := n) (by omega) (by omega) (by omega) (by omega)
  rw [Int.mul_comm (a.natAbs:Int) n] at this
  exact this
theorem whole_norm {q t:V.T4} (h:V.tWhole q = some t):18446744056529682423 ≤ t.1 * t.1 + (t.2.1 * t.2.1 + (t.2.2.1 * t.2.2.1 + t.2.2.2 * t.2.2.2)) ∧
    t.1 * t.1 + (t.2.1 * t.2.1 + (t.2.2.1 * t.2.2.1 + t.2.2.2 * t.2.2.2)) ≤ 18446744108069289992 := by
  obtain ⟨n,hn,hlo,h1,h2,h3,h4⟩ := tWhole_some.1 h
  obtain ⟨w,x,y,z⟩ := q
  obtain ⟨tw,tx,ty,tz⟩ := t
  obtain ⟨_,_,_,_,hs,hm⟩ := mNorm4_some.1 hn
  simp only at hs h1 h2 h3 h4 ⊢
  have pw := sq_nn w; have px := sq_nn x; have py := sq_nn y; have pz := sq_nn z
  have hS:0 ≤ w * w + (x * x + (y * y + z * z)) := by omega
  obtain ⟨q0,q1,q2⟩ := isqSpec hS
  rw [← hs] at q0 q1 q2
  have bw := sq_le (a := w) q0 (by omega)
  have bx := sq_le (a := x) q0 (by omega)
  have b_y := sq_le (a := y) q0 (by omega)
  have bz := sq_le (a := z) q0 (by omega)
  obtain ⟨_,_,r0,c0,d0,e0⟩ := part_sq (by omega) bw.1 bw.2 (mDiv_some.1 h1).2.2.2.2
  obtain ⟨_,_,r1,c1,d1,e1⟩ := part_sq (by omega) bx.1 bx.2 (mDiv_some.1 h2).2.2.2.2
  obtain ⟨_,_,r2,c2,d2,e2⟩ := part_sq (by omega) b_y.1 b_y.2 (mDiv_some.1 h3).2.2.2.2
  obtain ⟨_,_,r3,c3,d3,e3⟩ := part_sq (by omega) bz.1 bz.2 (mDiv_some.1 h4).2.2.2.2
  have f0 := rest_bd (a := w) c0 (Int.le_of_lt d0)
  have f1 := rest_bd (a := x) c1 (Int.le_of_lt d1)
  have f2 := rest_bd (a := y) c2 (Int.le_of_lt d2)
  have f3 := rest_bd (a := z) c3 (Int.le_of_lt d3)
  have g := four_sum (a := w.natAbs) (b := x.natAbs) (c := y.natAbs) (d := z.natAbs) q0 (by rw [natAbs_sq,natAbs_sq,natAbs_sq,natAbs_sq]; exact q2)
  have g2:n * ((w.natAbs:Int) + x.natAbs + y.natAbs + z.natAbs) ≤ n * (2 * n + 1) := Int.mul_le_mul_of_nonneg_left g q0
  have g3:n * ((w.natAbs:Int) + x.natAbs + y.natAbs + z.natAbs) = n * (w.natAbs:Int) + n * (x.natAbs:Int) + n * (y.natAbs:Int) + n * (z.natAbs:Int) := by grind
  have g4:n * (2 * n + 1) = 2 * (n * n) + n := by grind
  have k0:r0 * r0 ≤ n * n := Int.mul_le_mul (by omega) (by omega) c0 (by omega)
  have k1:r1 * r1 ≤ n * n := Int.mul_le_mul (by omega) (by omega) c1 (by omega)
  have k2:r2 * r2 ≤ n * n := Int.mul_le_mul (by omega) (by omega) c2 (by omega)
  have k3:r3 * r3 ≤ n * n := Int.mul_le_mul (by omega) (by omega) c3 (by omega)
  have := sq_nn r0; have := sq_nn r1; have := sq_nn r2; have := sq_nn r3
  have hc:n * 2147483648 ≤ n * n := Int.mul_le_mul_of_nonneg_left hlo q0
  have hN:0 < n * n := Int.mul_pos (by omega) (by omega)
  have e5:(n + 1) * (n + 1) = n * n + 2 * n + 1 := by grind
  rw [e5] at q2
  have eT:n * n * (tw * tw + (tx * tx + (ty * ty + tz * tz))) = n * n * (tw * tw) + (n * n * (tx * tx) + (n * n * (ty * ty) + n * n * (tz * tz))) := by grind
  generalize tw * tw + (tx * tx + (ty * ty + tz * tz)) = T at *
  rw [e0,e1,e2,e3] at eT
  generalize n * n = N at *
  constructor
  · refine Int.le_of_mul_le_mul_left (a := N) ?_ hN
    rw [eT]; omega
  · refine Int.le_of_mul_le_mul_left (a := N) ?_ hN
    rw [eT]; omega
theorem two_some {a b c d:Int} (ha:-8589934608 ≤ a ∧ a ≤ 8589934608) (hb:-8589934608 ≤ b ∧ b ≤ 8589934608) (hc:-4294967304 ≤ c ∧ c ≤ 4294967304) (hd:-4294967304 ≤ d ∧ d ≤ 4294967304) :
    V.twoD a b c d = some ((a * c + b * d) / 4294967296) ∧ -17179869256 ≤ (a * c + b * d) / 4294967296 ∧ (a * c + b * d) / 4294967296 ≤ 17179869256 := by
  have e1 := mul_bd ha.1 ha.2 hc.1 hc.2
  have e2 := mul_bd hb.1 hb.2 hd.1 hd.2
  refine ⟨mDot2_some.2 ⟨?_,?_,?_,?_,?_,rfl⟩,by omega,by omega⟩ <;> unfold Gd <;> omega
theorem dbl_eq {n:Int} (h:-4294967304 ≤ n ∧ n ≤ 4294967304):V.mAdd n n = some (n + n) := mAdd_some.2 ⟨by unfold Gd; omega,by unfold Gd; omega,by unfold Gd; omega,rfl⟩
theorem neg_eq1 {n:Int} (h:-4294967304 ≤ n ∧ n ≤ 4294967304):V.mSub 0 n = some (-n) := negO.2 ⟨by unfold Gd; omega,rfl⟩
theorem one_eq {n:Int} (h1:-17179869256 ≤ n) (h2:n ≤ 17179869256):V.mSub 4294967296 n = some (4294967296 - n) := mSub_some.2 ⟨by decide,by unfold Gd; omega,by unfold Gd; omega,rfl⟩
def rowsM (w x y z:Int):V.T9 :=
  ((4294967296 - ((y + y) * y + (z + z) * z) / 4294967296,((x + x) * y + (w + w) * -z) / 4294967296,((x + x) * z + (w + w) * y) / 4294967296),
   (((x + x) * y + (w + w) * z) / 4294967296,4294967296 - ((x + x) * x + (z + z) * z) / 4294967296,((y + y) * z + (w + w) * -x) / 4294967296),
   (((x + x) * z + (w + w) * -y) / 4294967296,((y + y) * z + (w + w) * x) / 4294967296,4294967296 - ((x + x) * x + (y + y) * y) / 4294967296))
theorem rows_some {w x y z:Int} (hw:-4294967304 ≤ w ∧ w ≤ 4294967304) (hx:-4294967304 ≤ x ∧ x ≤ 4294967304) (hy:-4294967304 ≤ y ∧ y ≤ 4294967304) (hz:-4294967304 ≤ z ∧ z ≤ 4294967304) :
    V.tRows (w,x,y,z) = some (rowsM w x y z) := by
  have dw:-8589934608 ≤ w + w ∧ w + w ≤ 8589934608 := by omega
  have dx:-8589934608 ≤ x + x ∧ x + x ≤ 8589934608 := by omega
  have dy:-8589934608 ≤ y + y ∧ y + y ≤ 8589934608 := by omega
  have dz:-8589934608 ≤ z + z ∧ z + z ≤ 8589934608 := by omega
  have nx:-4294967304 ≤ -x ∧ -x ≤ 4294967304 := by omega
  have ny:-4294967304 ≤ -y ∧ -y ≤ 4294967304 := by omega
  have nz:-4294967304 ≤ -z ∧ -z ≤ 4294967304 := by omega
  have a0 := two_some dy dz hy hz
  have a4 := two_some dx dz hx hz
  have a8 := two_some dx dy hx hy
  unfold V.tRows rowsM
  simp only [V.dbl,V.neg,dbl_eq hw,dbl_eq hx,dbl_eq hy,dbl_eq hz,neg_eq1 hx,neg_eq1 hy,neg_eq1 hz,gv_some,a0.1,a4.1,a8.1,one_eq a0.2.1 a0.2.2,one_eq a4.2.1 a4.2.2,one_eq a8.2.1 a8.2.2,
    (two_some dx dw hy nz).1,(two_some dx dw hz hy).1,(two_some dx dw hy hz).1,(two_some dy dw hz nx).1,(two_some dx dw hz ny).1,(two_some dy dw hz hx).1]
  rfl
/-- one part of what is turned -/
theorem turn_part {n0 n1 n2 p0 p1 p2 d0 d1 d2 a0 a1 a2 t L:Int} (hL:0 ≤ L) (h0:4294967296 * n0 = p0 + d0) (h1:4294967296 * n1 = p1 + d1) (h2:4294967296 * n2 = p2 + d2)
    (e0:-4294967296 ≤ d0 ∧ d0 ≤ 4294967296) (e1:-4294967296 ≤ d1 ∧ d1 ≤ 4294967296) (e2:-4294967296 ≤ d2 ∧ d2 ≤ 4294967296)
    (b0:-L ≤ a0 ∧ a0 ≤ L) (b1:-L ≤ a1 ∧ a1 ≤ L) (b2:-L ≤ a2 ∧ a2 ≤ L) (ht:t = (n0 * a0 + (n1 * a1 + n2 * a2)) / 4294967296) :
    ∃ E,18446744073709551616 * t = (p0 * a0 + (p1 * a1 + p2 * a2)) + E ∧ -(12884901888 * L + 18446744073709551616) ≤ E ∧ E ≤ 12884901888 * L + 18446744073709551616 := by
  have f0 := mul_bd e0.1 e0.2 b0.1 b0.2
  have f1 := mul_bd e1.1 e1.2 b1.1 b1.2
  have f2 := mul_bd e2.1 e2.2 b2.1 b2.2
  have g0:4294967296 * (n0 * a0) = p0 * a0 + d0 * a0 := by rw [← Int.mul_assoc,h0,Int.add_mul]
  have g1:4294967296 * (n1 * a1) = p1 * a1 + d1 * a1 := by rw [← Int.mul_assoc,h1,Int.add_mul]
  have g2:4294967296 * (n2 * a2) = p2 * a2 + d2 * a2 := by rw [← Int.mul_assoc,h2,Int.add_mul]
  exact ⟨18446744073709551616 * t - (p0 * a0 + (p1 * a1 + p2 * a2)),by omega,by omega,by omega⟩
/-- one part of what is turned back -/
theorem back_part {n0 n1 n2 p0 p1 p2 d0 d1 d2 t0 t1 t2 u0 u1 u2 E0 E1 E2 a b L K:Int} (hL:0 ≤ L) (h0:4294967296 * n0 = p0 + d0) (h1:4294967296 * n1 = p1 + d1) (h2:4294967296 * n2 = p2 + d2)
    (e0:-4294967296 ≤ d0 ∧ d0 ≤ 4294967296) (e1:-4294967296 ≤ d1 ∧ d1 ≤ 4294967296) (e2:-4294967296 ≤ d2 ∧ d2 ≤ 4294967296)
    (q0:-36893488147419103232 ≤ p0 ∧ p0 ≤ 36893488147419103232) (q1:-36893488147419103232 ≤ p1 ∧ p1 ≤ 36893488147419103232) (q2:-36893488147419103232 ≤ p2 ∧ p2 ≤ 36893488147419103232)
    (s0:18446744073709551616 * t0 = u0 + E0) (s1:18446744073709551616 * t1 = u1 + E1) (s2:18446744073709551616 * t2 = u2 + E2)
    (r0:-(12884901888 * L + 18446744073709551616) ≤ E0 ∧ E0 ≤ 12884901888 * L + 18446744073709551616) (r1:-(12884901888 * L + 18446744073709551616) ≤ E1 ∧ E1 ≤ 12884901888 * L + 18446744073709551616)
    (r2:-(12884901888 * L + 18446744073709551616) ≤ E2 ∧ E2 ≤ 12884901888 * L + 18446744073709551616)
    (v0:-(7 * L + 2) ≤ t0 ∧ t0 ≤ 7 * L + 2) (v1:-(7 * L + 2) ≤ t1 ∧ t1 ≤ 7 * L + 2) (v2:-(7 * L + 2) ≤ t2 ∧ t2 ≤ 7 * L + 2)
    (hK:-(K * L) ≤ p0 * u0 + (p1 * u1 + p2 * u2) - 340282366920938463463374607431768211456 * a ∧ p0 * u0 + (p1 * u1 + p2 * u2) - 340282366920938463463374607431768211456 * a ≤ K * L)
    (hK2:K = 17113283103081096920205493272576) (hb:b = (n0 * t0 + (n1 * t1 + n2 * t2)) / 4294967296) :
    -(255 * L + 38654705664) ≤ 4294967296 * (b - a) ∧ 4294967296 * (b - a) ≤ 255 * L + 38654705664 := by
  have f0 := mul_bd e0.1 e0.2 v0.1 v0.2
  have f1 := mul_bd e1.1 e1.2 v1.1 v1.2
  have f2 := mul_bd e2.1 e2.2 v2.1 v2.2
  have k0 := mul_bd q0.1 q0.2 r0.1 r0.2
  have k1 := mul_bd q1.1 q1.2 r1.1 r1.2
  have k2 := mul_bd q2.1 q2.2 r2.1 r2.2
  have g0:4294967296 * (n0 * t0) = p0 * t0 + d0 * t0 := by rw [← Int.mul_assoc,h0,Int.add_mul]
  have g1:4294967296 * (n1 * t1) = p1 * t1 + d1 * t1 := by rw [← Int.mul_assoc,h1,Int.add_mul]
  have g2:4294967296 * (n2 * t2) = p2 * t2 + d2 * t2 := by rw [← Int.mul_assoc,h2,Int.add_mul]
  have m0:18446744073709551616 * (p0 * t0) = p0 * u0 + p0 * E0 := by rw [← Int.mul_add,← s0]; grind
  have m1:18446744073709551616 * (p1 * t1) = p1 * u1 + p1 * E1 := by rw [← Int.mul_add,← s1]; grind
  have m2:18446744073709551616 * (p2 * t2) = p2 * u2 + p2 * E2 := by rw [← Int.mul_add,← s2]; grind
  subst hK2
  generalize p0 * t0 = x0 at *
  generalize p1 * t1 = x1 at *
  generalize p2 * t2 = x2 at *
  generalize n0 * t0 = y0 at *
  generalize n1 * t1 = y1 at *
  generalize n2 * t2 = y2 at *
  generalize p0 * E0 = w0 at *
  generalize p1 * E1 = w1 at *
  generalize p2 * E2 = w2 at *
  generalize d0 * t0 = z0 at *
  generalize d1 * t1 = z1 at *
  generalize d2 * t2 = z2 at *
  generalize p0 * u0 = U0 at *
  generalize p1 * u1 = U1 at *
  generalize p2 * u2 = U2 at *
  clear s0 s1 s2 h0 h1 h2 e0 e1 e2 q0 q1 q2 r0 r1 r2 v0 v1 v2
  omega
/-- an entry: near to the exact one -/
theorem entry {s p:Int} (h:s = p):∃ d,4294967296 * (s / 4294967296) = p + d ∧ -4294967296 ≤ d ∧ d ≤ 4294967296 := ⟨4294967296 * (s / 4294967296) - p,by omega,by omega,by omega⟩
theorem entry1 {s p:Int} (h:18446744073709551616 - s = p):∃ d,4294967296 * (4294967296 - s / 4294967296) = p + d ∧ -4294967296 ≤ d ∧ d ≤ 4294967296 := ⟨4294967296 * (4294967296 - s / 4294967296) - p,by omega,by omega,by omega⟩
/-- the exact matrix's columns stand across one another, but for how far the turn is from whole -/
theorem col_bd {xy xz yy zz a b c L D:Int} (hL:0 ≤ L) (h1:-4294967304 * 4294967304 ≤ xy ∧ xy ≤ 4294967304 * 4294967304) (h2:-4294967304 * 4294967304 ≤ xz ∧ xz ≤ 4294967304 * 4294967304)
    (h3:0 ≤ yy ∧ yy ≤ 4294967304 * 4294967304) (h4:0 ≤ zz ∧ zz ≤ 4294967304 * 4294967304) (ha:-L ≤ a ∧ a ≤ L) (hb:-L ≤ b ∧ b ≤ L) (hc:-L ≤ c ∧ c ≤ L) (hD:-34359738376 ≤ D ∧ D ≤ 34359738376) :
    -(17113283103081096920205493272576 * L) ≤ 4 * D * (xy * b + xz * c - (yy + zz) * a) ∧ 4 * D * (xy * b + xz * c - (yy + zz) * a) ≤ 17113283103081096920205493272576 * L := by
  have e1 := mul_bd (m := 18446744142429028416) (n := L) (a := xy) (b := b) (by omega) (by omega) hb.1 hb.2
  have e2 := mul_bd (m := 18446744142429028416) (n := L) (a := xz) (b := c) (by omega) (by omega) hc.1 hc.2
  have e3 := mul_bd (m := 36893488284858056832) (n := L) (a := yy + zz) (b := a) (by omega) (by omega) ha.1 ha.2
  have e4 := mul_bd (m := 137438953504) (n := 73786976569716113664 * L) (a := 4 * D) (b := xy * b + xz * c - (yy + zz) * a) (by omega) (by omega) (by omega) (by omega)
  omega
theorem small_t {u E t L:Int} (hL:0 ≤ L) (h:18446744073709551616 * t = u + E) (h1:-(12884901888 * L + 18446744073709551616) ≤ E) (h2:E ≤ 12884901888 * L + 18446744073709551616) (h3:-(110680464442257309696 * L) ≤ u) (h4:u ≤ 110680464442257309696 * L):-(7 * L + 2) ≤ t ∧ t ≤ 7 * L + 2 := by omega
theorem exact_u {p0 p1 p2 a0 a1 a2 L:Int} (q0:-36893488147419103232 ≤ p0 ∧ p0 ≤ 36893488147419103232) (q1:-36893488147419103232 ≤ p1 ∧ p1 ≤ 36893488147419103232) (q2:-36893488147419103232 ≤ p2 ∧ p2 ≤ 36893488147419103232)
    (b0:-L ≤ a0 ∧ a0 ≤ L) (b1:-L ≤ a1 ∧ a1 ≤ L) (b2:-L ≤ a2 ∧ a2 ≤ L):-(110680464442257309696 * L) ≤ p0 * a0 + (p1 * a1 + p2 * a2) ∧ p0 * a0 + (p1 * a1 + p2 * a2) ≤ 110680464442257309696 * L := by
  have f0 := mul_bd q0.1 q0.2 b0.1 b0.2
  have f1 := mul_bd q1.1 q1.2 b1.1 b1.2
  have f2 := mul_bd q2.1 q2.2 b2.1 b2.2
  omega
theorem ortho0 (C w x y z a0 a1 a2:Int):(C - 2 * (y * y) - 2 * (z * z)) * ((C - 2 * (y * y) - 2 * (z * z)) * a0 + ((2 * (x * y) - 2 * (w * z)) * a1 + (2 * (x * z) + 2 * (w * y)) * a2)) + ((2 * (x * y) + 2 * (w * z)) * ((2 * (x * y) + 2 * (w * z)) * a0 + ((C - 2 * (x * x) - 2 * (z * z)) * a1 + (2 * (y * z) - 2 * (w * x)) * a2)) + (2 * (x * z) - 2 * (w * y)) * ((2 * (x * z) - 2 * (w * y)) * a0 + ((2 * (y * z) + 2 * (w * x)) * a1 + (C - 2 * (x * x) - 2 * (y * y)) * a2))) - C * C * a0 = 4 * (C - (w * w + (x * x + (y * y + z * z)))) * (x * y * a1 + x * z * a2 - (y * y + z * z) * a0) := by grind
theorem ortho1 (C w x y z a0 a1 a2:Int):(2 * (x * y) - 2 * (w * z)) * ((C - 2 * (y * y) - 2 * (z * z)) * a0 + ((2 * (x * y) - 2 * (w * z)) * a1 + (2 * (x * z) + 2 * (w * y)) * a2)) + ((C - 2 * (x * x) - 2 * (z * z)) * ((2 * (x * y) + 2 * (w * z)) * a0 + ((C - 2 * (x * x) - 2 * (z * z)) * a1 + (2 * (y * z) - 2 * (w * x)) * a2)) + (2 * (y * z) + 2 * (w * x)) * ((2 * (x * z) - 2 * (w * y)) * a0 + ((2 * (y * z) + 2 * (w * x)) * a1 + (C - 2 * (x * x) - 2 * (y * y)) * a2))) - C * C * a1 = 4 * (C - (w * w + (x * x + (y * y + z * z)))) * (x * y * a0 + y * z * a2 - (x * x + z * z) * a1) := by grind
theorem ortho2 (C w x y z a0 a1 a2:Int):(2 * (x * z) + 2 * (w * y)) * ((C - 2 * (y * y) - 2 * (z * z)) * a0 + ((2 * (x * y) - 2 * (w * z)) * a1 + (2 * (x * z) + 2 * (w * y)) * a2)) + ((2 * (y * z) - 2 * (w * x)) * ((2 * (x * y) + 2 * (w * z)) * a0 + ((C - 2 * (x * x) - 2 * (z * z)) * a1 + (2 * (y * z) - 2 * (w * x)) * a2)) + (C - 2 * (x * x) - 2 * (y * y)) * ((2 * (x * z) - 2 * (w * y)) * a0 + ((2 * (y * z) + 2 * (w * x)) * a1 + (C - 2 * (x * x) - 2 * (y * y)) * a2))) - C * C * a2 = 4 * (C - (w * w + (x * x + (y * y + z * z)))) * (x * z * a0 + y * z * a1 - (x * x + y * y) * a2) := by grind
theorem amgm (a b:Int):-(a * a + b * b) ≤ 2 * (a * b) ∧ 2 * (a * b) ≤ a * a + b * b := by
  have h1 := sq_nn (a + b)
  have h2 := sq_nn (a - b)
  have e1:(a + b) * (a + b) = a * a + b * b + 2 * (a * b) := by grind
  have e2:(a - b) * (a - b) = a * a + b * b - 2 * (a * b) := by grind
  omega
theorem ex0 (y z:Int):18446744073709551616 - ((y + y) * y + (z + z) * z) = 18446744073709551616 - 2 * (y * y) - 2 * (z * z) := by grind
theorem ex1 (w x y z:Int):(x + x) * y + (w + w) * -z = 2 * (x * y) - 2 * (w * z) := by grind
theorem ex2 (w x y z:Int):(x + x) * z + (w + w) * y = 2 * (x * z) + 2 * (w * y) := by grind
theorem ex3 (w x y z:Int):(x + x) * y + (w + w) * z = 2 * (x * y) + 2 * (w * z) := by grind
theorem ex4 (x z:Int):18446744073709551616 - ((x + x) * x + (z + z) * z) = 18446744073709551616 - 2 * (x * x) - 2 * (z * z) := by grind
theorem ex5 (w x y z:Int):(y + y) * z + (w + w) * -x = 2 * (y * z) - 2 * (w * x) := by grind
theorem ex6 (w x y z:Int):(x + x) * z + (w + w) * -y = 2 * (x * z) - 2 * (w * y) := by grind
theorem ex7 (w x y z:Int):(y + y) * z + (w + w) * x = 2 * (y * z) + 2 * (w * x) := by grind
theorem ex8 (x y:Int):18446744073709551616 - ((x + x) * x + (y + y) * y) = 18446744073709551616 - 2 * (x * x) - 2 * (y * y) := by grind
theorem diag_bd {a b T:Int} (h0:0 ≤ a) (h1:0 ≤ b) (h2:a + b ≤ T) (hT:T ≤ 18446744108069289992):-36893488147419103232 ≤ 18446744073709551616 - 2 * a - 2 * b ∧ 18446744073709551616 - 2 * a - 2 * b ≤ 36893488147419103232 := by omega
theorem off_sub {p q a b T:Int} (h1:-a ≤ 2 * p ∧ 2 * p ≤ a) (h2:-b ≤ 2 * q ∧ 2 * q ≤ b) (h3:a + b ≤ T) (hT:T ≤ 18446744108069289992):-36893488147419103232 ≤ 2 * p - 2 * q ∧ 2 * p - 2 * q ≤ 36893488147419103232 := by omega
theorem off_add {p q a b T:Int} (h1:-a ≤ 2 * p ∧ 2 * p ≤ a) (h2:-b ≤ 2 * q ∧ 2 * q ≤ b) (h3:a + b ≤ T) (hT:T ≤ 18446744108069289992):-36893488147419103232 ≤ 2 * p + 2 * q ∧ 2 * p + 2 * q ≤ 36893488147419103232 := by omega
theorem four_le {a b c d T:Int} (h0:0 ≤ a) (h1:0 ≤ b) (h2:0 ≤ c) (h3:0 ≤ d) (h:a + (b + (c + d)) = T):c + d ≤ T ∧ b + d ≤ T ∧ b + c ≤ T ∧ (b + c) + (a + d) ≤ T ∧ (b + d) + (a + c) ≤ T ∧ (c + d) + (a + b) ≤ T := by omega
theorem four_sq {a b c d:Int} (hT:a * a + (b * b + (c * c + d * d)) ≤ 18446744108069289992):(-4294967304 ≤ a ∧ a ≤ 4294967304) ∧ (-4294967304 ≤ b ∧ b ≤ 4294967304) ∧ (-4294967304 ≤ c ∧ c ≤ 4294967304) ∧ (-4294967304 ≤ d ∧ d ≤ 4294967304) := by
  have pw := sq_nn a; have px := sq_nn b; have py := sq_nn c; have pz := sq_nn d
  exact ⟨sq_le (r := 4294967304) (by omega) (by omega),sq_le (r := 4294967304) (by omega) (by omega),sq_le (r := 4294967304) (by omega) (by omega),sq_le (r := 4294967304) (by omega) (by omega)⟩
theorem sq_up {a:Int} (h:-4294967304 ≤ a ∧ a ≤ 4294967304):0 ≤ a * a ∧ a * a ≤ 4294967304 * 4294967304 := ⟨sq_nn a,(mul_bd h.1 h.2 h.1 h.2).2⟩
theorem pr_up {a b:Int} (h:-4294967304 ≤ a ∧ a ≤ 4294967304) (h':-4294967304 ≤ b ∧ b ≤ 4294967304):-4294967304 * 4294967304 ≤ a * b ∧ a * b ≤ 4294967304 * 4294967304 := by
  have := mul_bd h.1 h.2 h'.1 h'.2
  exact ⟨by omega,this.2⟩
/-- one column -/
theorem back_col {w x y z a0 a1 a2 L:Int} {n:Int × Int × Int} {p0 p1 p2 d0 d1 d2 t0 t1 t2 u0 u1 u2 E0 E1 E2 a R:Int} (hL:0 ≤ L) (h0:4294967296 * n.1 = p0 + d0) (h1:4294967296 * n.2.1 = p1 + d1) (h2:4294967296 * n.2.2 = p2 + d2)
    (e0:-4294967296 ≤ d0 ∧ d0 ≤ 4294967296) (e1:-4294967296 ≤ d1 ∧ d1 ≤ 4294967296) (e2:-4294967296 ≤ d2 ∧ d2 ≤ 4294967296)
    (q0:-36893488147419103232 ≤ p0 ∧ p0 ≤ 36893488147419103232) (q1:-36893488147419103232 ≤ p1 ∧ p1 ≤ 36893488147419103232) (q2:-36893488147419103232 ≤ p2 ∧ p2 ≤ 36893488147419103232)
    (s0:18446744073709551616 * t0 = u0 + E0) (s1:18446744073709551616 * t1 = u1 + E1) (s2:18446744073709551616 * t2 = u2 + E2)
    (r0:-(12884901888 * L + 18446744073709551616) ≤ E0 ∧ E0 ≤ 12884901888 * L + 18446744073709551616) (r1:-(12884901888 * L + 18446744073709551616) ≤ E1 ∧ E1 ≤ 12884901888 * L + 18446744073709551616)
    (r2:-(12884901888 * L + 18446744073709551616) ≤ E2 ∧ E2 ≤ 12884901888 * L + 18446744073709551616)
    (v0:-(7 * L + 2) ≤ t0 ∧ t0 ≤ 7 * L + 2) (v1:-(7 * L + 2) ≤ t1 ∧ t1 ≤ 7 * L + 2) (v2:-(7 * L + 2) ≤ t2 ∧ t2 ≤ 7 * L + 2)
    (hR:p0 * u0 + (p1 * u1 + p2 * u2) - 18446744073709551616 * 18446744073709551616 * a = R) (hK:-(17113283103081096920205493272576 * L) ≤ R ∧ R ≤ 17113283103081096920205493272576 * L) :
    -(255 * L + 38654705664) ≤ 4294967296 * ((n.1 * t0 + (n.2.1 * t1 + n.2.2 * t2)) / 4294967296 - a) ∧ 4294967296 * ((n.1 * t0 + (n.2.1 * t1 + n.2.2 * t2)) / 4294967296 - a) ≤ 255 * L + 38654705664 := by
  rw [← hR] at hK
  exact back_part hL h0 h1 h2 e0 e1 e2 q0 q1 q2 s0 s1 s2 r0 r1 r2 v0 v1 v2 hK rfl rfl
theorem dev_bd {T:Int} (h1:18446744056529682423 ≤ T) (h2:T ≤ 18446744108069289992):-34359738376 ≤ 18446744073709551616 - T ∧ 18446744073709551616 - T ≤ 34359738376 := by omega
theorem gd_small {L t:Int} (h1:L ≤ 35184372088832) (h2:-(7 * L + 2) ≤ t ∧ t ≤ 7 * L + 2):Gd t := by unfold Gd; omega
theorem gd_arg {L t:Int} (h1:L ≤ 35184372088832) (h2:-L ≤ t ∧ t ≤ L):Gd t := by unfold Gd; omega
theorem gd_near {L a b:Int} (h1:L ≤ 35184372088832) (h2:-L ≤ a ∧ a ≤ L) (h3:-(255 * L + 38654705664) ≤ 4294967296 * (b - a) ∧ 4294967296 * (b - a) ≤ 255 * L + 38654705664):Gd b := by unfold Gd; omega
theorem gd_entry {n p d:Int} (h:4294967296 * n = p + d) (h1:-4294967296 ≤ d ∧ d ≤ 4294967296) (h2:-36893488147419103232 ≤ p ∧ p ≤ 36893488147419103232):Gd n := by unfold Gd; omega
/-- What is turned and turned back. -/
theorem turn_back {w x y z a0 a1 a2 L:Int} (hT:18446744056529682423 ≤ w * w + (x * x + (y * y + z * z))) (hT2:w * w + (x * x + (y * y + z * z)) ≤ 18446744108069289992) (hL:0 ≤ L) (hL2:L ≤ 35184372088832)
    (b0:-L ≤ a0 ∧ a0 ≤ L) (b1:-L ≤ a1 ∧ a1 ≤ L) (b2:-L ≤ a2 ∧ a2 ≤ L) :
    ∃ t b,V.tRows (w,x,y,z) = some (rowsM w x y z) ∧ V.tTurn (rowsM w x y z) (a0,a1,a2) = some t ∧ V.tBack (rowsM w x y z) t = some b ∧
      (-(255 * L + 38654705664) ≤ 4294967296 * (b.1 - a0) ∧ 4294967296 * (b.1 - a0) ≤ 255 * L + 38654705664) ∧
      (-(255 * L + 38654705664) ≤ 4294967296 * (b.2.1 - a1) ∧ 4294967296 * (b.2.1 - a1) ≤ 255 * L + 38654705664) ∧
      (-(255 * L + 38654705664) ≤ 4294967296 * (b.2.2 - a2) ∧ 4294967296 * (b.2.2 - a2) ≤ 255 * L + 38654705664) := by
  obtain ⟨hw,hx,hy,hz⟩ := four_sq hT2
  have hr := rows_some hw hx hy hz
  have dev := dev_bd hT hT2
  obtain ⟨f1,f2,f3,f4,f5,f6⟩ := four_le (sq_nn w) (sq_nn x) (sq_nn y) (sq_nn z) rfl
  have q0 := diag_bd (sq_nn y) (sq_nn z) f1 hT2
  have q4 := diag_bd (sq_nn x) (sq_nn z) f2 hT2
  have q8 := diag_bd (sq_nn x) (sq_nn y) f3 hT2
  have q1 := off_sub (amgm x y) (amgm w z) f4 hT2
  have q3 := off_add (amgm x y) (amgm w z) f4 hT2
  have q2 := off_add (amgm x z) (amgm w y) f5 hT2
  have q6 := off_sub (amgm x z) (amgm w y) f5 hT2
  have q5 := off_sub (amgm y z) (amgm w x) f6 hT2
  have q7 := off_add (amgm y z) (amgm w x) f6 hT2
  obtain ⟨d0,i0,j0⟩ := entry1 (ex0 y z)
  obtain ⟨d1,i1,j1⟩ := entry (ex1 w x y z)
  obtain ⟨d2,i2,j2⟩ := entry (ex2 w x y z)
  obtain ⟨d3,i3,j3⟩ := entry (ex3 w x y z)
  obtain ⟨d4,i4,j4⟩ := entry1 (ex4 x z)
  obtain ⟨d5,i5,j5⟩ := entry (ex5 w x y z)
  obtain ⟨d6,i6,j6⟩ := entry (ex6 w x y z)
  obtain ⟨d7,i7,j7⟩ := entry (ex7 w x y z)
  obtain ⟨d8,i8,j8⟩ := entry1 (ex8 x y)
  obtain ⟨E0,s0,r0⟩ := turn_part (t := ((rowsM w x y z).1.1 * a0 + ((rowsM w x y z).1.2.1 * a1 + (rowsM w x y z).1.2.2 * a2)) / 4294967296) hL i0 i1 i2 j0 j1 j2 b0 b1 b2 rfl
  have xu0 := exact_u q0 q1 q2 b0 b1 b2
  have v0 := small_t hL s0 r0.1 r0.2 xu0.1 xu0.2
  obtain ⟨E1,s1,r1⟩ := turn_part (t := ((rowsM w x y z).2.1.1 * a0 + ((rowsM w x y z).2.1.2.1 * a1 + (rowsM w x y z).2.1.2.2 * a2)) / 4294967296) hL i3 i4 i5 j3 j4 j5 b0 b1 b2 rfl
  have xu1 := exact_u q3 q4 q5 b0 b1 b2
  have v1 := small_t hL s1 r1.1 r1.2 xu1.1 xu1.2
  obtain ⟨E2,s2,r2⟩ := turn_part (t := ((rowsM w x y z).2.2.1 * a0 + ((rowsM w x y z).2.2.2.1 * a1 + (rowsM w x y z).2.2.2.2 * a2)) / 4294967296) hL i6 i7 i8 j6 j7 j8 b0 b1 b2 rfl
  have xu2 := exact_u q6 q7 q8 b0 b1 b2
  have v2 := small_t hL s2 r2.1 r2.2 xu2.1 xu2.2
  have c0 := col_bd hL (pr_up hx hy) (pr_up hx hz) (sq_up hy) (sq_up hz) b0 b1 b2 dev
  have g0 := back_col (w := w) (x := x) (y := y) (z := z) (a0 := a0) (a1 := a1) (a2 := a2) (n := ((rowsM w x y z).1.1,(rowsM w x y z).2.1.1,(rowsM w x y z).2.2.1)) hL i0 i3 i6 j0 j3 j6 q0 q3 q6 s0 s1 s2 r0 r1 r2 v0 v1 v2 (ortho0 18446744073709551616 w x y z a0 a1 a2) c0
  have c1 := col_bd hL (pr_up hx hy) (pr_up hy hz) (sq_up hx) (sq_up hz) b1 b0 b2 dev
  have g1 := back_col (w := w) (x := x) (y := y) (z := z) (a0 := a0) (a1 := a1) (a2 := a2) (n := ((rowsM w x y z).1.2.1,(rowsM w x y z).2.1.2.1,(rowsM w x y z).2.2.2.1)) hL i1 i4 i7 j1 j4 j7 q1 q4 q7 s0 s1 s2 r0 r1 r2 v0 v1 v2 (ortho1 18446744073709551616 w x y z a0 a1 a2) c1
  have c2 := col_bd hL (pr_up hx hz) (pr_up hy hz) (sq_up hx) (sq_up hy) b2 b0 b1 dev
  have g2 := back_col (w := w) (x := x) (y := y) (z := z) (a0 := a0) (a1 := a1) (a2 := a2) (n := ((rowsM w x y z).1.2.2,(rowsM w x y z).2.1.2.2,(rowsM w x y z).2.2.2.2)) hL i2 i5 i8 j2 j5 j8 q2 q5 q8 s0 s1 s2 r0 r1 r2 v0 v1 v2 (ortho2 18446744073709551616 w x y z a0 a1 a2) c2
  have m0 := gd_entry i0 j0 q0
  have m1 := gd_entry i1 j1 q1
  have m2 := gd_entry i2 j2 q2
  have m3 := gd_entry i3 j3 q3
  have m4 := gd_entry i4 j4 q4
  have m5 := gd_entry i5 j5 q5
  have m6 := gd_entry i6 j6 q6
  have m7 := gd_entry i7 j7 q7
  have m8 := gd_entry i8 j8 q8
  have ga0 := gd_arg hL2 b0; have ga1 := gd_arg hL2 b1; have ga2 := gd_arg hL2 b2
  have gt0 := gd_small hL2 v0; have gt1 := gd_small hL2 v1; have gt2 := gd_small hL2 v2
  refine ⟨(_,_,_),(_,_,_),hr,tTurn_some.2 ⟨mDot3_some.2 ⟨m0,m1,m2,ga0,ga1,ga2,gt0,rfl⟩,mDot3_some.2 ⟨m3,m4,m5,ga0,ga1,ga2,gt1,rfl⟩,mDot3_some.2 ⟨m6,m7,m8,ga0,ga1,ga2,gt2,rfl⟩⟩,
    tTurn_some.2 ⟨mDot3_some.2 ⟨m0,m3,m6,gt0,gt1,gt2,gd_near hL2 b0 g0,rfl⟩,mDot3_some.2 ⟨m1,m4,m7,gt0,gt1,gt2,gd_near hL2 b1 g1,rfl⟩,mDot3_some.2 ⟨m2,m5,m8,gt0,gt1,gt2,gd_near hL2 b2 g2,rfl⟩⟩,g0,g1,g2⟩
end Go.Proofs.Ytlagndfhibkjpaa.Sx
end

section
/- pose: right poses, plainly. -/
namespace Go.Proofs.Ytlagndfhibkjpaa.Sx
open Go
set_option linter.unusedVariables false
set_option linter.unusedSimpArgs false
theorem qpick_bd {c n:Int} (hc:-9223372036854775808 ≤ c ∧ c < 9223372036854775808) (hn:0 < n ∧ n < 4611686018427387904):0 ≤ V.qpick_r0 c n ∧ V.qpick_r0 c n < n := by
  unfold V.qpick_r0
  rw [cLt_eq]
  by_cases h0:c < 0
  · have c1 : decide (c < 0) = true := decide_eq_true h0
    simp only [c1,if_true]
    rw [IntWalk.i64_in (c + 1) (by omega),IntWalk.i64_in (0 - (c + 1)) (by omega),Int.tmod_eq_emod_of_nonneg (show 0 ≤ 0 - (c + 1) by omega),if_neg (by omega)]
    exact ⟨Int.emod_nonneg _ (by omega),Int.emod_lt_of_pos _ hn.1⟩
  · have c1 : decide (c < 0) = false := decide_eq_false h0
    simp only [c1,if_true,Bool.false_eq_true,if_false]
    rw [Int.tmod_eq_emod_of_nonneg (show 0 ≤ c by omega),if_neg (by omega)]
    exact ⟨Int.emod_nonneg _ (by omega),Int.emod_lt_of_pos _ hn.1⟩
theorem prP_in {n:Int} (h:-9223372036854775808 ≤ n ∧ n < 9223372036854775808):In (V.prP n) 4398046511104 := by
  unfold V.prP qp
  rw [hid_eq]
  have := qpick_bd h (n := 8796093022209) (by omega)
  rw [IntWalk.i64_in _ (by omega)]
  unfold In; omega
theorem whole_in {q t:V.T4} (h:V.tWhole q = some t):In t.1 4294967299 ∧ In t.2.1 4294967299 ∧ In t.2.2.1 4294967299 ∧ In t.2.2.2 4294967299 := by
  have h2 := (whole_norm h).2
  have p1 := sq_nn t.1
  have p2 := sq_nn t.2.1
  have p3 := sq_nn t.2.2.1
  have p4 := sq_nn t.2.2.2
  exact ⟨part_le (by omega),part_le (by omega),part_le (by omega),part_le (by omega)⟩
theorem prQ_rows (tw tx ty tz:Int):∃ m,V.tRows (V.prQ tw tx ty tz) = some m ∧ MOk m := by
  unfold V.prQ
  rw [hid_eq]
  cases ho:V.tWhole (qq tw,qq tx,qq ty,qq tz) with
  | none => exact rows_in (w := 4294967296) (x := 0) (y := 0) (z := 0) (by unfold In; omega) (by unfold In; omega) (by unfold In; omega) (by unfold In; omega)
  | some t =>
    obtain ⟨a,b,c,d⟩ := whole_in ho
    exact rows_in (w := t.1) (x := t.2.1) (y := t.2.2.1) (z := t.2.2.2) a b c d
theorem loF_le (f:P3 → Int):∀ (l:List P3) (d:Int),loF f l d ≤ d ∧ ∀ p ∈ l,loF f l d ≤ f p
  | [],d => ⟨by simp [loF],by simp⟩
  | q :: l,d => by
    have e:loF f (q :: l) d = loF f l (if f q < d then f q else d) := rfl
    have ih := loF_le f l (if f q < d then f q else d)
    rw [e]
    by_cases h:f q < d
    · rw [if_pos h] at ih ⊢
      refine ⟨by omega,fun p hp => ?_⟩
      rcases List.mem_cons.1 hp with rfl | hp
      · omega
      · exact ih.2 p hp
    · rw [if_neg h] at ih ⊢
      refine ⟨by omega,fun p hp => ?_⟩
      rcases List.mem_cons.1 hp with rfl | hp
      · omega
      · exact ih.2 p hp
theorem hiF_ge (f:P3 → Int):∀ (l:List P3) (d:Int),d ≤ hiF f l d ∧ ∀ p ∈ l,f p ≤ hiF f l d
  | [],d => ⟨by simp [hiF],by simp⟩
  | q :: l,d => by
    have e:hiF f (q :: l) d = hiF f l (if f q > d then f q else d) := rfl
    have ih := hiF_ge f l (if f q > d then f q else d)
    rw [e]
    by_cases h:f q > d
    · rw [if_pos h] at ih ⊢
      refine ⟨by omega,fun p hp => ?_⟩
      rcases List.mem_cons.1 hp with rfl | hp
      · omega
      · exact ih.2 p hp
    · rw [if_neg h] at ih ⊢
      refine ⟨by omega,fun p hp => ?_⟩
      rcases List.mem_cons.1 hp with rfl | hp
      · omega
      · exact ih.2 p hp
theorem loF_ge (f:P3 → Int) (n:Int):∀ (l:List P3) (d:Int),n ≤ d → (∀ p ∈ l,n ≤ f p) → n ≤ loF f l d
  | [],d,h,_ => by simpa [loF] using h
  | q :: l,d,h,h2 => by
    have e:loF f (q :: l) d = loF f l (if f q < d then f q else d) := rfl
    rw [e]
    exact loF_ge f n l _ (by have := h2 q (by simp); split <;> omega) (fun p hp => h2 p (by simp [hp]))
theorem hiF_le (f:P3 → Int) (n:Int):∀ (l:List P3) (d:Int),d ≤ n → (∀ p ∈ l,f p ≤ n) → hiF f l d ≤ n
  | [],d,h,_ => by simpa [hiF] using h
  | q :: l,d,h,h2 => by
    have e:hiF f (q :: l) d = hiF f l (if f q > d then f q else d) := rfl
    rw [e]
    exact hiF_le f n l _ (by have := h2 q (by simp); split <;> omega) (fun p hp => h2 p (by simp [hp]))
/-- A box around points that are not far: its parts, without wrapping. -/
theorem spn_parts {l:List P3} {r:Int} (hl:0 < l.length) (hp:∀ p ∈ l,Sm p 8388608) (hr:0 ≤ r ∧ r ≤ 1099511627776):∃ a b c d e f:Int,V.spn l r = (a,b,c,d,e,f) ∧
    (∀ p ∈ l,a ≤ p.1 - r ∧ b ≤ p.2.1 - r ∧ c ≤ p.2.2 - r ∧ p.1 + r ≤ d ∧ p.2.1 + r ≤ e ∧ p.2.2 + r ≤ f) := by
  unfold V.spn
  rw [hid_eq]
  unfold spnP
  rw [if_neg (by omega)]
  have h0 := hp (pt l 0) (pt_mem l 0 hl)
  have l1 := loF_ge (fun p => p.1) (-8388608) l (pt l 0).1 h0.1.1 (fun p h => (hp p h).1.1)
  have l2 := loF_ge (fun p => p.2.1) (-8388608) l (pt l 0).2.1 h0.2.1.1 (fun p h => (hp p h).2.1.1)
  have l3 := loF_ge (fun p => p.2.2) (-8388608) l (pt l 0).2.2 h0.2.2.1 (fun p h => (hp p h).2.2.1)
  have u1 := hiF_le (fun p => p.1) 8388608 l (pt l 0).1 h0.1.2 (fun p h => (hp p h).1.2)
  have u2 := hiF_le (fun p => p.2.1) 8388608 l (pt l 0).2.1 h0.2.1.2 (fun p h => (hp p h).2.1.2)
  have u3 := hiF_le (fun p => p.2.2) 8388608 l (pt l 0).2.2 h0.2.2.2 (fun p h => (hp p h).2.2.2)
  have a1 := loF_le (fun p => p.1) l (pt l 0).1
  have a2 := loF_le (fun p => p.2.1) l (pt l 0).2.1
  have a3 := loF_le (fun p => p.2.2) l (pt l 0).2.2
  have b1 := hiF_ge (fun p => p.1) l (pt l 0).1
  have b2 := hiF_ge (fun p => p.2.1) l (pt l 0).2.1
  have b3 := hiF_ge (fun p => p.2.2) l (pt l 0).2.2
  have c1 := h0.1; have c2 := h0.2.1; have c3 := h0.2.2
  rw [IntWalk.i64_in (loF (fun p => p.1) l (pt l 0).1 - r) (by omega),IntWalk.i64_in (loF (fun p => p.2.1) l (pt l 0).2.1 - r) (by omega),IntWalk.i64_in (loF (fun p => p.2.2) l (pt l 0).2.2 - r) (by omega),
    IntWalk.i64_in (hiF (fun p => p.1) l (pt l 0).1 + r) (by omega),IntWalk.i64_in (hiF (fun p => p.2.1) l (pt l 0).2.1 + r) (by omega),IntWalk.i64_in (hiF (fun p => p.2.2) l (pt l 0).2.2 + r) (by omega)]
  refine ⟨_,_,_,_,_,_,rfl,fun p h => ?_⟩
  have d1 := a1.2 p h; have d2 := a2.2 p h; have d3 := a3.2 p h
  have e1 := b1.2 p h; have e2 := b2.2 p h; have e3 := b3.2 p h
  omega
theorem corLen3 (k r hx hy hz:Int) (l:List P3):(V.corA k r hx hy hz l).length ≤ 7000 ∧ (V.corE k r hx hy hz l).length ≤ 7000 := by
  unfold V.corA V.corE
  simp only [hid_eq]
  by_cases hc:chkP k r hx hy hz l = 0
  · simp only [if_pos hc]
    refine ⟨?_,?_⟩
    · unfold corAP
      split
      · decide
      · split
        · rename_i h4
          have hl:l.length ≤ 12 := by rcases chk_range hc with ⟨h,_⟩ | ⟨h,_⟩ | ⟨h,_⟩ | ⟨_,_,h,_⟩ <;> omega
          have := iF_len l hl l.length 0 ([],[])
          have e:sz2 (([],[]):St2) = 0 := rfl
          unfold facesP
          unfold sz2 at this
          have e2:(([],[]):St2).1.length = 0 := rfl
          have e3:(([],[]):St2).2.length = 0 := rfl
          omega
        · decide
    · unfold corEP
      split
      · decide
      · split
        · decide
        · split
          · rename_i h4
            have hl:l.length ≤ 12 := by rcases chk_range hc with ⟨h,_⟩ | ⟨h,_⟩ | ⟨h,_⟩ | ⟨_,_,h,_⟩ <;> omega
            have := iF_len l hl l.length 0 ([],[])
            unfold facesP
            unfold sz2 at this
            have e2:(([],[]):St2).1.length = 0 := rfl
            have e3:(([],[]):St2).2.length = 0 := rfl
            omega
          · decide
  · simp only [if_neg hc]
    exact ⟨by simp,by simp⟩
/-- What is known of the core of a right shape. -/
structure CF (k r hx hy hz:Int) (l:List P3):Prop where
  rg:V.rgG k r hx hy hz l = true
  chk:V.chk (V.rgK k r hx hy hz l) (V.rgR r) (V.rgH hx) (V.rgH hy) (V.rgH hz) (V.rgP k r hx hy hz l) = 0
  p0:0 < (V.corP (V.rgK k r hx hy hz l) (V.rgR r) (V.rgH hx) (V.rgH hy) (V.rgH hz) (V.rgP k r hx hy hz l)).length
  p1:(V.corP (V.rgK k r hx hy hz l) (V.rgR r) (V.rgH hx) (V.rgH hy) (V.rgH hz) (V.rgP k r hx hy hz l)).length ≤ 12
  p2:∀ p ∈ V.corP (V.rgK k r hx hy hz l) (V.rgR r) (V.rgH hx) (V.rgH hy) (V.rgH hz) (V.rgP k r hx hy hz l),Sm p 65536
  a0:∀ p ∈ V.corA (V.rgK k r hx hy hz l) (V.rgR r) (V.rgH hx) (V.rgH hy) (V.rgH hz) (V.rgP k r hx hy hz l),Neat p
  a1:(V.corA (V.rgK k r hx hy hz l) (V.rgR r) (V.rgH hx) (V.rgH hy) (V.rgH hz) (V.rgP k r hx hy hz l)).length ≤ 7000
  e0:∀ p ∈ V.corE (V.rgK k r hx hy hz l) (V.rgR r) (V.rgH hx) (V.rgH hy) (V.rgH hz) (V.rgP k r hx hy hz l),Neat p
  e1:(V.corE (V.rgK k r hx hy hz l) (V.rgR r) (V.rgH hx) (V.rgH hy) (V.rgH hz) (V.rgP k r hx hy hz l)).length ≤ 7000
  r0:0 ≤ V.corR (V.rgK k r hx hy hz l) (V.rgR r) (V.rgH hx) (V.rgH hy) (V.rgH hz) (V.rgP k r hx hy hz l) ∧ V.corR (V.rgK k r hx hy hz l) (V.rgR r) (V.rgH hx) (V.rgH hy) (V.rgH hz) (V.rgP k r hx hy hz l) ≤ 16384
theorem core_facts {k r hx hy hz:Int} {l:List P3} (g1:-9223372036854775808 ≤ k ∧ k < 9223372036854775808) (g2:-9223372036854775808 ≤ r ∧ r < 9223372036854775808) (g3:-9223372036854775808 ≤ hx ∧ hx < 9223372036854775808) (g4:-9223372036854775808 ≤ hy ∧ hy < 9223372036854775808) (g5:-9223372036854775808 ≤ hz ∧ hz < 9223372036854775808)
    (gl:l.length < 9223372036854775808) (gp:∀ x ∈ l,(RT.good (.i .i64) [.i .i64,.i .i64]) x):CF k r hx hy hz l := by
  have hG:V.rgG k r hx hy hz l = true := gB_of ⟨⟨g1,g2,g3,g4,g5⟩,gl,fun p hp => good_rp (gp p hp)⟩
  have ok1 := right_ok (l := l) g1 g2 g3 g4 g5
  have hc:chkP (V.rgK k r hx hy hz l) (V.rgR r) (V.rgH hx) (V.rgH hy) (V.rgH hz) (V.rgP k r hx hy hz l) = 0 := by
    simp only [V.rgK,V.rgR,V.rgH,V.rgP,hid_eq]; exact ok1
  have hchk:V.chk (V.rgK k r hx hy hz l) (V.rgR r) (V.rgH hx) (V.rgH hy) (V.rgH hz) (V.rgP k r hx hy hz l) = 0 := (hid_eq _).trans hc
  obtain ⟨p1,p2,p3⟩ := corPP_pos hc
  obtain ⟨t1,t2,t3⟩ := core_tidy hc
  obtain ⟨c2,c3⟩ := corLen3 (V.rgK k r hx hy hz l) (V.rgR r) (V.rgH hx) (V.rgH hy) (V.rgH hz) (V.rgP k r hx hy hz l)
  have eP:V.corP (V.rgK k r hx hy hz l) (V.rgR r) (V.rgH hx) (V.rgH hy) (V.rgH hz) (V.rgP k r hx hy hz l) = corPP (V.rgK k r hx hy hz l) (V.rgH hx) (V.rgH hy) (V.rgH hz) (V.rgP k r hx hy hz l) := by unfold V.corP; rw [hid_eq,if_pos hc]
  have eA:V.corA (V.rgK k r hx hy hz l) (V.rgR r) (V.rgH hx) (V.rgH hy) (V.rgH hz) (V.rgP k r hx hy hz l) = corAP (V.rgK k r hx hy hz l) (V.rgP k r hx hy hz l) := by unfold V.corA; rw [hid_eq,if_pos hc]
  have eE:V.corE (V.rgK k r hx hy hz l) (V.rgR r) (V.rgH hx) (V.rgH hy) (V.rgH hz) (V.rgP k r hx hy hz l) = corEP (V.rgK k r hx hy hz l) (V.rgP k r hx hy hz l) := by unfold V.corE; rw [hid_eq,if_pos hc]
  have eR:V.corR (V.rgK k r hx hy hz l) (V.rgR r) (V.rgH hx) (V.rgH hy) (V.rgH hz) (V.rgP k r hx hy hz l) = V.rgR r := by unfold V.corR; rw [hid_eq,if_pos hc]
  have hr := rad_val g2
  refine ⟨hG,hchk,by rw [eP]; exact p1,by rw [eP]; exact p2,by rw [eP]; exact p3,by rw [eA]; exact t2,c2,by rw [eE]; exact t3.neat,c3,?_⟩
  rw [eR]; unfold V.rgR; rw [hid_eq]; omega
end Go.Proofs.Ytlagndfhibkjpaa.Sx
end

section
/- PoseSpans: its run tells true. -/
namespace Go.Proofs.Ytlagndfhibkjpaa.Sx
open Go
set_option maxRecDepth 20000
set_option linter.unusedVariables false
set_option linter.unusedSimpArgs false
noncomputable abbrev pspans_S1 (y1 y2:Int) (y3 y4 y5:L3) (y6 y7:Nat) (y8:Int) (y9 y10 y11:L3) (y12 y13 y14 y15 y16 y17:Int):St := St.mk (nn 6 (some (SV.ptr (nat_lit 0) (nat_lit 0)) :: none :: some (SV.ptr (nat_lit 4) (nat_lit 0)) :: none :: some (SV.ptr (nat_lit 8) (nat_lit 0)) :: some (SV.int .i64 y1) :: nn 127 ([]))) [.cells [SV.sl (nat_lit 1),SV.sl (nat_lit 2),SV.sl (nat_lit 3),SV.int .i64 y2] (nat_lit 29),.seq kP y3 (nat_lit 23),.seq kP y4 (nat_lit 23),.seq kP y5 (nat_lit 23),.cells [SV.sl (nat_lit 5),SV.clp (nat_lit 6) kP y6,SV.clp (nat_lit 7) kP y7,SV.int .i64 y8] (nat_lit 29),.seq kP y9 (nat_lit 23),.seq kP y10 (nat_lit 23),.seq kP y11 (nat_lit 23),.cells [SV.int .i64 y12,SV.int .i64 y13,SV.int .i64 y14,SV.int .i64 y15,SV.int .i64 y16,SV.int .i64 y17] (nat_lit 47)]
noncomputable abbrev pspans_S2 (y1:Int) (y2 y3 y4:L3) (y5 y6:Nat) (y7:Int) (y8 y9 y10:L3):St := St.mk (nn 4 (some (SV.bool false) :: none :: some (SV.ptr (nat_lit 0) (nat_lit 0)) :: none :: some (SV.ptr (nat_lit 4) (nat_lit 0)) :: nn 130 ([]))) [.cells [SV.sl (nat_lit 1),SV.sl (nat_lit 2),SV.sl (nat_lit 3),SV.int .i64 y1] (nat_lit 29),.seq kP y2 (nat_lit 23),.seq kP y3 (nat_lit 23),.seq kP y4 (nat_lit 23),.cells [SV.sl (nat_lit 5),SV.clp (nat_lit 6) kP y5,SV.clp (nat_lit 7) kP y6,SV.int .i64 y7] (nat_lit 29),.seq kP y8 (nat_lit 23),.seq kP y9 (nat_lit 23),.seq kP y10 (nat_lit 23)]
noncomputable abbrev pspans_S3 (y1:Int) (y2 y3 y4:L3) (y5 y6:Nat) (y7:Int) (y8 y9 y10:L3):St := St.mk (nn 6 (some (SV.ptr (nat_lit 0) (nat_lit 0)) :: none :: some (SV.ptr (nat_lit 4) (nat_lit 0)) :: nn 130 ([]))) [.cells [SV.sl (nat_lit 1),SV.sl (nat_lit 2),SV.sl (nat_lit 3),SV.int .i64 y1] (nat_lit 29),.seq kP y2 (nat_lit 23),.seq kP y3 (nat_lit 23),.seq kP y4 (nat_lit 23),.cells [SV.sl (nat_lit 5),SV.clp (nat_lit 6) kP y5,SV.clp (nat_lit 7) kP y6,SV.int .i64 y7] (nat_lit 29),.seq kP y8 (nat_lit 23),.seq kP y9 (nat_lit 23),.seq kP y10 (nat_lit 23)]
noncomputable abbrev pspans_S4:St := St.mk (nn 6 (some (SV.ptr (nat_lit 0) (nat_lit 0)) :: none :: some (SV.ptr (nat_lit 4) (nat_lit 0)) :: none :: some (SV.ptr (nat_lit 8) (nat_lit 0)) :: some (SV.int .i64 (0:Int)) :: nn 127 ([]))) [.cells [SV.sl (nat_lit 1),SV.sl (nat_lit 2),SV.sl (nat_lit 3),SV.int .i64 (0:Int)] (nat_lit 29),.seq kP [] (nat_lit 23),.seq kP [] (nat_lit 23),.seq kP [] (nat_lit 23),.cells [SV.sl (nat_lit 5),SV.clp (nat_lit 6) kP (0:Nat),SV.clp (nat_lit 7) kP (0:Nat),SV.int .i64 (0:Int)] (nat_lit 29),.seq kP [] (nat_lit 23),.seq kP [] (nat_lit 23),.seq kP [] (nat_lit 23),.cells [SV.int .i64 (0:Int),SV.int .i64 (0:Int),SV.int .i64 (0:Int),SV.int .i64 (0:Int),SV.int .i64 (0:Int),SV.int .i64 (0:Int)] (nat_lit 47)]
abbrev pspans_P1:List Bool := [false,true,false,true,true,true,true,true,true]
noncomputable def _root_.Go.Proofs.Ytlagndfhibkjpaa.M.pspans_l0_step {α:Type} (x25:Int) (x26:L3) (x29 x30 x31 x32 x33 x34:Int) (kn:Int → Option α) (k0:Option α) (k2:Option α) (x18:Int):Option α := let s35:Int := (↑(List.length x26):Int); let s36:K.T kP := List.getD x26 (Int.toNat x18) ((0:Int),(0:Int),(0:Int)); let s37:RT (LK.i IntKind.i64) [LK.i IntKind.i64] := Prod.snd s36; let s38:LK.T (LK.i IntKind.i64) := Prod.fst s36; let s39:RT (LK.i IntKind.i64) [] := Prod.snd s37; let s40:LK.T (LK.i IntKind.i64) := Prod.fst s37; if cLt x18 s35 = true then if (0:Int) ≤ x18 ∧ x18 < s35 then if cLt (IntKind.wrap .i64 (s38 - x25)) x29 = true then k0 else if cLt x32 (IntKind.wrap .i64 (s38 + x25)) = true then k0 else if cLt (IntKind.wrap .i64 (s40 - x25)) x30 = true then k0 else if cLt x33 (IntKind.wrap .i64 (s40 + x25)) = true then k0 else if cLt (IntKind.wrap .i64 (s39 - x25)) x31 = true then k0 else if cLt x34 (IntKind.wrap .i64 (s39 + x25)) = true then k0 else if (!V.pmeet_r0 x29 x30 x31 x32 x33 x34 s38 s40 s39 s38 s40 s39) = true then k0 else if (!(cEq (V.pjoin_r0 x29 x30 x31 x32 x33 x34 s38 s40 s39 s38 s40 s39) x29 && (cEq (V.pjoin_r1 x29 x30 x31 x32 x33 x34 s38 s40 s39 s38 s40 s39) x30 && (cEq (V.pjoin_r2 x29 x30 x31 x32 x33 x34 s38 s40 s39 s38 s40 s39) x31 && true)) && (cEq (V.pjoin_r3 x29 x30 x31 x32 x33 x34 s38 s40 s39 s38 s40 s39) x32 && (cEq (V.pjoin_r4 x29 x30 x31 x32 x33 x34 s38 s40 s39 s38 s40 s39) x33 && (cEq (V.pjoin_r5 x29 x30 x31 x32 x33 x34 s38 s40 s39 s38 s40 s39) x34 && true)) && true))) = true then k0 else kn (IntKind.wrap .i64 (x18 + (1:Int))) else none else k2
noncomputable def _root_.Go.Proofs.Ytlagndfhibkjpaa.M.pspans_l0 {α:Type} (x25:Int) (x26:L3) (x29 x30 x31 x32 x33 x34:Int) (k0:Option α) (k2:Option α):Nat → Int → Option α
  | 0,_ => none
  | n + 1,x18 => M.pspans_l0_step x25 x26 x29 x30 x31 x32 x33 x34 (M.pspans_l0 x25 x26 x29 x30 x31 x32 x33 x34 k0 k2 n) k0 k2 x18
theorem pspans_l0_step_eq {α:Type} (x18 x19:Int) (x20 x21 x22:L3) (x23 x24:Nat) (x25:Int) (x26 x27 x28:L3) (x29 x30 x31 x32 x33 x34:Int) (Q:Ex → St → Option α):(loopStep E (exec E look_qright noLps 400) 5 pspans_P1 0 (codeAt E.P 5 pspans_P1)) (pspans_S1 x18 x19 x20 x21 x22 x23 x24 x25 x26 x27 x28 x29 x30 x31 x32 x33 x34) Q = M.pspans_l0_step x25 x26 x29 x30 x31 x32 x33 x34 (fun (x41:Int) => Q .normal (pspans_S1 x41 x19 x20 x21 x22 x23 x24 x25 x26 x27 x28 x29 x30 x31 x32 x33 x34)) (Q .ret (pspans_S2 x19 x20 x21 x22 x23 x24 x25 x26 x27 x28)) (Q (.exit 0) (pspans_S3 x19 x20 x21 x22 x23 x24 x25 x26 x27 x28)) x18 := by kernel_rfl
theorem pspans_l0_iter {α:Type} (x19:Int) (x20 x21 x22:L3) (x23 x24:Nat) (x25:Int) (x26 x27 x28:L3) (x29 x30 x31 x32 x33 x34:Int) (Q:Ex → St → Option α):∀ (n:Nat) (x18:Int),iter (loopStep E (exec E look_qright noLps 400) 5 pspans_P1 0 (codeAt E.P 5 pspans_P1)) n (pspans_S1 x18 x19 x20 x21 x22 x23 x24 x25 x26 x27 x28 x29 x30 x31 x32 x33 x34) Q = M.pspans_l0 x25 x26 x29 x30 x31 x32 x33 x34 (Q .ret (pspans_S2 x19 x20 x21 x22 x23 x24 x25 x26 x27 x28)) (Q (.exit 0) (pspans_S3 x19 x20 x21 x22 x23 x24 x25 x26 x27 x28)) n x18
  | 0,_ => rfl
  | n + 1,x18 => (pspans_l0_step_eq x18 x19 x20 x21 x22 x23 x24 x25 x26 x27 x28 x29 x30 x31 x32 x33 x34 (iterK (loopStep E (exec E look_qright noLps 400) 5 pspans_P1 0 (codeAt E.P 5 pspans_P1)) n Q)).trans (congrArg (fun kn => M.pspans_l0_step x25 x26 x29 x30 x31 x32 x33 x34 kn (Q .ret (pspans_S2 x19 x20 x21 x22 x23 x24 x25 x26 x27 x28)) (Q (.exit 0) (pspans_S3 x19 x20 x21 x22 x23 x24 x25 x26 x27 x28)) x18) (funext fun x18 => pspans_l0_iter x19 x20 x21 x22 x23 x24 x25 x26 x27 x28 x29 x30 x31 x32 x33 x34 Q n x18))
noncomputable def pspans_l0_go {α:Type} (ds:List D) (Q:Ex → St → Option α):Option α :=
  dI ds fun x18 ds => dI ds fun x19 ds => dL kP ds fun x20 ds => dL kP ds fun x21 ds => dL kP ds fun x22 ds => dN ds fun x23 ds => dN ds fun x24 ds => dI ds fun x25 ds => dL kP ds fun x26 ds => dL kP ds fun x27 ds => dL kP ds fun x28 ds => dI ds fun x29 ds => dI ds fun x30 ds => dI ds fun x31 ds => dI ds fun x32 ds => dI ds fun x33 ds => dI ds fun x34 ds => dE ds (M.pspans_l0 x25 x26 x29 x30 x31 x32 x33 x34 (Q .ret (pspans_S2 x19 x20 x21 x22 x23 x24 x25 x26 x27 x28)) (Q (.exit 0) (pspans_S3 x19 x20 x21 x22 x23 x24 x25 x26 x27 x28)) (100 + x20.length + x21.length + x22.length + x26.length + x27.length + x28.length) x18)
theorem pspans_l0_ok {α:Type}:LoopOk E.P 5 pspans_P1 0 (lEnt (α := α) (pspans_S4) pspans_l0_go) :=
  lEnt_ok E (exec_sound E E_ok (look_qright_ok) (noLps_ok _) 400) fun ds Q r h S hS => by
    unfold pspans_l0_go at h
    obtain ⟨x18,ds,rfl,h1⟩ := dI_inv h
    obtain ⟨x19,ds,rfl,h2⟩ := dI_inv h1
    obtain ⟨x20,ds,rfl,h3⟩ := dL_inv h2
    obtain ⟨x21,ds,rfl,h4⟩ := dL_inv h3
    obtain ⟨x22,ds,rfl,h5⟩ := dL_inv h4
    obtain ⟨x23,ds,rfl,h6⟩ := dN_inv h5
    obtain ⟨x24,ds,rfl,h7⟩ := dN_inv h6
    obtain ⟨x25,ds,rfl,h8⟩ := dI_inv h7
    obtain ⟨x26,ds,rfl,h9⟩ := dL_inv h8
    obtain ⟨x27,ds,rfl,h10⟩ := dL_inv h9
    obtain ⟨x28,ds,rfl,h11⟩ := dL_inv h10
    obtain ⟨x29,ds,rfl,h12⟩ := dI_inv h11
    obtain ⟨x30,ds,rfl,h13⟩ := dI_inv h12
    obtain ⟨x31,ds,rfl,h14⟩ := dI_inv h13
    obtain ⟨x32,ds,rfl,h15⟩ := dI_inv h14
    obtain ⟨x33,ds,rfl,h16⟩ := dI_inv h15
    obtain ⟨x34,ds,rfl,h17⟩ := dI_inv h16
    obtain ⟨rfl,hE⟩ := dE_inv h17
    have e:fillS (pspans_S4) [.i x18,.i x19,.l kP x20,.l kP x21,.l kP x22,.n x23,.n x24,.i x25,.l kP x26,.l kP x27,.l kP x28,.i x29,.i x30,.i x31,.i x32,.i x33,.i x34] = some (pspans_S1 x18 x19 x20 x21 x22 x23 x24 x25 x26 x27 x28 x29 x30 x31 x32 x33 x34) := by kernel_rfl
    rw [e] at hS
    cases hS
    exact ⟨_,(pspans_l0_iter x19 x20 x21 x22 x23 x24 x25 x26 x27 x28 x29 x30 x31 x32 x33 x34 Q _ x18).trans hE⟩
noncomputable def pspans_l0_lps {α:Type}:LookL α := addLp 5 pspans_P1 0 (lEnt (pspans_S4) pspans_l0_go) noLps
theorem pspans_l0_lps_ok {α:Type}:LoopsOk E.P (pspans_l0_lps (α := α)) := addLp_ok pspans_l0_ok (noLps_ok _)

noncomputable def _root_.Go.Proofs.Ytlagndfhibkjpaa.M.pspans {α:Type} (k:Int) (r:Int) (hx:Int) (hy:Int) (hz:Int) (l:L3) (px:Int) (p_y:Int) (pz:Int) (tw:Int) (tx:Int) (ty:Int) (tz:Int) (k0:Bool → Option α):Option α := if V.rgG k r hx hy hz l = true then if V.lenB (List.length (V.corP (V.rgK k r hx hy hz l) (V.rgR r) (V.rgH hx) (V.rgH hy) (V.rgH hz) (V.rgP k r hx hy hz l))) = true ∧ V.lenB (List.length (V.corA (V.rgK k r hx hy hz l) (V.rgR r) (V.rgH hx) (V.rgH hy) (V.rgH hz) (V.rgP k r hx hy hz l))) = true ∧ V.lenB (List.length (V.corE (V.rgK k r hx hy hz l) (V.rgR r) (V.rgH hx) (V.rgH hy) (V.rgH hz) (V.rgP k r hx hy hz l))) = true then if V.plG (V.plc (V.corP (V.rgK k r hx hy hz l) (V.rgR r) (V.rgH hx) (V.rgH hy) (V.rgH hz) (V.rgP k r hx hy hz l)) (V.corA (V.rgK k r hx hy hz l) (V.rgR r) (V.rgH hx) (V.rgH hy) (V.rgH hz) (V.rgP k r hx hy hz l)) (V.corE (V.rgK k r hx hy hz l) (V.rgR r) (V.rgH hx) (V.rgH hy) (V.rgH hz) (V.rgP k r hx hy hz l)) (V.prP px,V.prP p_y,V.prP pz) (V.prQ tw tx ty tz)) = true then if (!cEq (V.chk (V.rgK k r hx hy hz l) (V.rgR r) (V.rgH hx) (V.rgH hy) (V.rgH hz) (V.rgP k r hx hy hz l)) (0:Int)) = true then k0 false else if V.lenB (List.length (V.plP (V.plc (V.corP (V.rgK k r hx hy hz l) (V.rgR r) (V.rgH hx) (V.rgH hy) (V.rgH hz) (V.rgP k r hx hy hz l)) (V.corA (V.rgK k r hx hy hz l) (V.rgR r) (V.rgH hx) (V.rgH hy) (V.rgH hz) (V.rgP k r hx hy hz l)) (V.corE (V.rgK k r hx hy hz l) (V.rgR r) (V.rgH hx) (V.rgH hy) (V.rgH hz) (V.rgP k r hx hy hz l)) (V.prP px,V.prP p_y,V.prP pz) (V.prQ tw tx ty tz)))) = true then M.pspans_l0 (V.corR (V.rgK k r hx hy hz l) (V.rgR r) (V.rgH hx) (V.rgH hy) (V.rgH hz) (V.rgP k r hx hy hz l)) (V.plP (V.plc (V.corP (V.rgK k r hx hy hz l) (V.rgR r) (V.rgH hx) (V.rgH hy) (V.rgH hz) (V.rgP k r hx hy hz l)) (V.corA (V.rgK k r hx hy hz l) (V.rgR r) (V.rgH hx) (V.rgH hy) (V.rgH hz) (V.rgP k r hx hy hz l)) (V.corE (V.rgK k r hx hy hz l) (V.rgR r) (V.rgH hx) (V.rgH hy) (V.rgH hz) (V.rgP k r hx hy hz l)) (V.prP px,V.prP p_y,V.prP pz) (V.prQ tw tx ty tz))) (Prod.fst (V.spn (V.plP (V.plc (V.corP (V.rgK k r hx hy hz l) (V.rgR r) (V.rgH hx) (V.rgH hy) (V.rgH hz) (V.rgP k r hx hy hz l)) (V.corA (V.rgK k r hx hy hz l) (V.rgR r) (V.rgH hx) (V.rgH hy) (V.rgH hz) (V.rgP k r hx hy hz l)) (V.corE (V.rgK k r hx hy hz l) (V.rgR r) (V.rgH hx) (V.rgH hy) (V.rgH hz) (V.rgP k r hx hy hz l)) (V.prP px,V.prP p_y,V.prP pz) (V.prQ tw tx ty tz))) (V.corR (V.rgK k r hx hy hz l) (V.rgR r) (V.rgH hx) (V.rgH hy) (V.rgH hz) (V.rgP k r hx hy hz l)))) (Prod.fst (Prod.snd (V.spn (V.plP (V.plc (V.corP (V.rgK k r hx hy hz l) (V.rgR r) (V.rgH hx) (V.rgH hy) (V.rgH hz) (V.rgP k r hx hy hz l)) (V.corA (V.rgK k r hx hy hz l) (V.rgR r) (V.rgH hx) (V.rgH hy) (V.rgH hz) (V.rgP k r hx hy hz l)) (V.corE (V.rgK k r hx hy hz l) (V.rgR r) (V.rgH hx) (V.rgH hy) (V.rgH hz) (V.rgP k r hx hy hz l)) (V.prP px,V.prP p_y,V.prP pz) (V.prQ tw tx ty tz))) (V.corR (V.rgK k r hx hy hz l) (V.rgR r) (V.rgH hx) (V.rgH hy) (V.rgH hz) (V.rgP k r hx hy hz l))))) (Prod.fst (Prod.snd (Prod.snd (V.spn (V.plP (V.plc (V.corP (V.rgK k r hx hy hz l) (V.rgR r) (V.rgH hx) (V.rgH hy) (V.rgH hz) (V.rgP k r hx hy hz l)) (V.corA (V.rgK k r hx hy hz l) (V.rgR r) (V.rgH hx) (V.rgH hy) (V.rgH hz) (V.rgP k r hx hy hz l)) (V.corE (V.rgK k r hx hy hz l) (V.rgR r) (V.rgH hx) (V.rgH hy) (V.rgH hz) (V.rgP k r hx hy hz l)) (V.prP px,V.prP p_y,V.prP pz) (V.prQ tw tx ty tz))) (V.corR (V.rgK k r hx hy hz l) (V.rgR r) (V.rgH hx) (V.rgH hy) (V.rgH hz) (V.rgP k r hx hy hz l)))))) (Prod.fst (Prod.snd (Prod.snd (Prod.snd (V.spn (V.plP (V.plc (V.corP (V.rgK k r hx hy hz l) (V.rgR r) (V.rgH hx) (V.rgH hy) (V.rgH hz) (V.rgP k r hx hy hz l)) (V.corA (V.rgK k r hx hy hz l) (V.rgR r) (V.rgH hx) (V.rgH hy) (V.rgH hz) (V.rgP k r hx hy hz l)) (V.corE (V.rgK k r hx hy hz l) (V.rgR r) (V.rgH hx) (V.rgH hy) (V.rgH hz) (V.rgP k r hx hy hz l)) (V.prP px,V.prP p_y,V.prP pz) (V.prQ tw tx ty tz))) (V.corR (V.rgK k r hx hy hz l) (V.rgR r) (V.rgH hx) (V.rgH hy) (V.rgH hz) (V.rgP k r hx hy hz l))))))) (Prod.fst (Prod.snd (Prod.snd (Prod.snd (Prod.snd (V.spn (V.plP (V.plc (V.corP (V.rgK k r hx hy hz l) (V.rgR r) (V.rgH hx) (V.rgH hy) (V.rgH hz) (V.rgP k r hx hy hz l)) (V.corA (V.rgK k r hx hy hz l) (V.rgR r) (V.rgH hx) (V.rgH hy) (V.rgH hz) (V.rgP k r hx hy hz l)) (V.corE (V.rgK k r hx hy hz l) (V.rgR r) (V.rgH hx) (V.rgH hy) (V.rgH hz) (V.rgP k r hx hy hz l)) (V.prP px,V.prP p_y,V.prP pz) (V.prQ tw tx ty tz))) (V.corR (V.rgK k r hx hy hz l) (V.rgR r) (V.rgH hx) (V.rgH hy) (V.rgH hz) (V.rgP k r hx hy hz l)))))))) (Prod.snd (Prod.snd (Prod.snd (Prod.snd (Prod.snd (V.spn (V.plP (V.plc (V.corP (V.rgK k r hx hy hz l) (V.rgR r) (V.rgH hx) (V.rgH hy) (V.rgH hz) (V.rgP k r hx hy hz l)) (V.corA (V.rgK k r hx hy hz l) (V.rgR r) (V.rgH hx) (V.rgH hy) (V.rgH hz) (V.rgP k r hx hy hz l)) (V.corE (V.rgK k r hx hy hz l) (V.rgR r) (V.rgH hx) (V.rgH hy) (V.rgH hz) (V.rgP k r hx hy hz l)) (V.prP px,V.prP p_y,V.prP pz) (V.prQ tw tx ty tz))) (V.corR (V.rgK k r hx hy hz l) (V.rgR r) (V.rgH hx) (V.rgH hy) (V.rgH hz) (V.rgP k r hx hy hz l)))))))) (k0 false) (k0 (cEq (↑(List.length (V.plP (V.plc (V.corP (V.rgK k r hx hy hz l) (V.rgR r) (V.rgH hx) (V.rgH hy) (V.rgH hz) (V.rgP k r hx hy hz l)) (V.corA (V.rgK k r hx hy hz l) (V.rgR r) (V.rgH hx) (V.rgH hy) (V.rgH hz) (V.rgP k r hx hy hz l)) (V.corE (V.rgK k r hx hy hz l) (V.rgR r) (V.rgH hx) (V.rgH hy) (V.rgH hz) (V.rgP k r hx hy hz l)) (V.prP px,V.prP p_y,V.prP pz) (V.prQ tw tx ty tz)))):Int) (↑(List.length (V.corP (V.rgK k r hx hy hz l) (V.rgR r) (V.rgH hx) (V.rgH hy) (V.rgH hz) (V.rgP k r hx hy hz l))):Int))) ((100:Nat) + List.length (V.corP (V.rgK k r hx hy hz l) (V.rgR r) (V.rgH hx) (V.rgH hy) (V.rgH hz) (V.rgP k r hx hy hz l)) + List.length (V.corA (V.rgK k r hx hy hz l) (V.rgR r) (V.rgH hx) (V.rgH hy) (V.rgH hz) (V.rgP k r hx hy hz l)) + List.length (V.corE (V.rgK k r hx hy hz l) (V.rgR r) (V.rgH hx) (V.rgH hy) (V.rgH hz) (V.rgP k r hx hy hz l)) + List.length (V.plP (V.plc (V.corP (V.rgK k r hx hy hz l) (V.rgR r) (V.rgH hx) (V.rgH hy) (V.rgH hz) (V.rgP k r hx hy hz l)) (V.corA (V.rgK k r hx hy hz l) (V.rgR r) (V.rgH hx) (V.rgH hy) (V.rgH hz) (V.rgP k r hx hy hz l)) (V.corE (V.rgK k r hx hy hz l) (V.rgR r) (V.rgH hx) (V.rgH hy) (V.rgH hz) (V.rgP k r hx hy hz l)) (V.prP px,V.prP p_y,V.prP pz) (V.prQ tw tx ty tz))) + List.length (V.plA (V.plc (V.corP (V.rgK k r hx hy hz l) (V.rgR r) (V.rgH hx) (V.rgH hy) (V.rgH hz) (V.rgP k r hx hy hz l)) (V.corA (V.rgK k r hx hy hz l) (V.rgR r) (V.rgH hx) (V.rgH hy) (V.rgH hz) (V.rgP k r hx hy hz l)) (V.corE (V.rgK k r hx hy hz l) (V.rgR r) (V.rgH hx) (V.rgH hy) (V.rgH hz) (V.rgP k r hx hy hz l)) (V.prP px,V.prP p_y,V.prP pz) (V.prQ tw tx ty tz))) + List.length (V.plE (V.plc (V.corP (V.rgK k r hx hy hz l) (V.rgR r) (V.rgH hx) (V.rgH hy) (V.rgH hz) (V.rgP k r hx hy hz l)) (V.corA (V.rgK k r hx hy hz l) (V.rgR r) (V.rgH hx) (V.rgH hy) (V.rgH hz) (V.rgP k r hx hy hz l)) (V.corE (V.rgK k r hx hy hz l) (V.rgR r) (V.rgH hx) (V.rgH hy) (V.rgH hz) (V.rgP k r hx hy hz l)) (V.prP px,V.prP p_y,V.prP pz) (V.prQ tw tx ty tz)))) (0:Int) else none else if (!cEq (V.chk (V.rgK k r hx hy hz l) (V.rgR r) (V.rgH hx) (V.rgH hy) (V.rgH hz) (V.rgP k r hx hy hz l)) (0:Int)) = true then k0 false else k0 false else none else none
theorem pspans_eq {α:Type} (k:Int) (r:Int) (hx:Int) (hy:Int) (hz:Int) (l:L3) (px:Int) (p_y:Int) (pz:Int) (tw:Int) (tx:Int) (ty:Int) (tz:Int) (v42:Value) (Q:SV → Hp → Option α):callI E look_qright (exec E look_qright pspans_l0_lps 400) 5 ([SV.agg [SV.int .i64 k,SV.int .i64 r,SV.int .i64 hx,SV.int .i64 hy,SV.int .i64 hz,SV.ros v42 kP l],SV.agg [SV.int .i64 px,SV.int .i64 p_y,SV.int .i64 pz,SV.int .i64 tw,SV.int .i64 tx,SV.int .i64 ty,SV.int .i64 tz]]) ([]) Q = M.pspans k r hx hy hz l px p_y pz tw tx ty tz (fun (x43:Bool) => Q (SV.bool x43) ([])) := by kernel_rfl
def pspans_sp:List AS := [.st [.leaf (.int .i64 0),.leaf (.int .i64 0),.leaf (.int .i64 0),.leaf (.int .i64 0),.leaf (.int .i64 0),.ro kP],.val (.agg [.int .i64 0,.int .i64 0,.int .i64 0,.int .i64 0,.int .i64 0,.int .i64 0,.int .i64 0])]
theorem pspans_l0_val {α:Type} (R:Int) (l:List P3) (a b c d e g:Int) (hl:l.length < 1099511627776) (hr:0 ≤ R ∧ R ≤ 1099511627776) (hp:∀ p ∈ l,Sm p 8388608)
    (hb:∀ p ∈ l,a ≤ p.1 - R ∧ b ≤ p.2.1 - R ∧ c ≤ p.2.2 - R ∧ p.1 + R ≤ d ∧ p.2.1 + R ≤ e ∧ p.2.2 + R ≤ g) (k0 k2:Option α):∀ (fuel i:Nat),i ≤ l.length → l.length - i < fuel → M.pspans_l0 R l a b c d e g k0 k2 fuel (i:Int) = k2
  | 0,i,h1,h2 => by omega
  | f + 1,i,h1,h2 => by
    unfold M.pspans_l0 M.pspans_l0_step
    simp only
    rw [cLt_nat]
    by_cases hi:i < l.length
    · have hm := pt_mem l i hi
      have h3 := hp _ hm
      have h4 := hb _ hm
      have e2:List.getD l (Int.toNat (i:Int)) ((0:Int),(0:Int),(0:Int)) = pt l i := by rw [toNat_nat]; rfl
      rw [if_pos (by simpa using hi),if_pos (by omega),e2,w_next (by omega)]
      generalize pt l i = p at *
      obtain ⟨x,y,z⟩ := p
      have h5 := h3.1; have h6 := h3.2.1; have h7 := h3.2.2
      simp only at h4 h5 h6 h7
      rw [IntWalk.i64_in (x - R) (by omega),IntWalk.i64_in (x + R) (by omega),IntWalk.i64_in (y - R) (by omega),IntWalk.i64_in (y + R) (by omega),IntWalk.i64_in (z - R) (by omega),IntWalk.i64_in (z + R) (by omega)]
      have lt:∀ u v:Int,v ≤ u → cLt u v = false := by intro u v h; rw [cLt_eq]; exact decide_eq_false (by omega)
      have le:∀ u v:Int,u ≤ v → cLe u v = true := by intro u v h; rw [cLe_eq]; exact decide_eq_true h
      have mn:∀ u v:Int,u ≤ v → (if v < u then v else u) = u := by intro u v h; rw [if_neg (by omega)]
      have mx:∀ u v:Int,v ≤ u → (if v > u then v else u) = u := by intro u v h; rw [if_neg (by omega)]
      have hM:V.pmeet_r0 a b c d e g x y z x y z = true := by
        unfold V.pmeet_r0
        rw [le _ _ (by omega:a ≤ x),le _ _ (by omega:x ≤ d),le _ _ (by omega:b ≤ y),le _ _ (by omega:y ≤ e),le _ _ (by omega:c ≤ z),le _ _ (by omega:z ≤ g)]
        simp
      have hJ0:V.pjoin_r0 a b c d e g x y z x y z = a := mn _ _ (by omega)
      have hJ1:V.pjoin_r1 a b c d e g x y z x y z = b := mn _ _ (by omega)
      have hJ2:V.pjoin_r2 a b c d e g x y z x y z = c := mn _ _ (by omega)
      have hJ3:V.pjoin_r3 a b c d e g x y z x y z = d := mx _ _ (by omega)
      have hJ4:V.pjoin_r4 a b c d e g x y z x y z = e := mx _ _ (by omega)
      have hJ5:V.pjoin_r5 a b c d e g x y z x y z = g := mx _ _ (by omega)
      have ee:∀ a:Int,cEq a a = true := by intro a; rw [cEq_eq]; simp
      rw [lt _ _ (by omega:a ≤ x - R),lt _ _ (by omega:x + R ≤ d),lt _ _ (by omega:b ≤ y - R),lt _ _ (by omega:y + R ≤ e),lt _ _ (by omega:c ≤ z - R),lt _ _ (by omega:z + R ≤ g),hM,hJ0,hJ1,hJ2,hJ3,hJ4,hJ5]
      simp only [ee,Bool.false_eq_true,if_false,Bool.not_true,Bool.and_true]
      exact pspans_l0_val R l a b c d e g hl hr hp hb k0 k2 f (i + 1) (by omega) (by omega)
    · rw [if_neg (by simpa using hi)]
theorem pspans_v {α:Type} (k r hx hy hz:Int) (l:List P3) (px p_y pz tw tx ty tz:Int) (hg:(-9223372036854775808 ≤ k ∧ k < 9223372036854775808) ∧ (-9223372036854775808 ≤ r ∧ r < 9223372036854775808) ∧ (-9223372036854775808 ≤ hx ∧ hx < 9223372036854775808) ∧ (-9223372036854775808 ≤ hy ∧ hy < 9223372036854775808) ∧ (-9223372036854775808 ≤ hz ∧ hz < 9223372036854775808) ∧ (l.length < 9223372036854775808 ∧ ∀ x ∈ l,(RT.good (.i .i64) [.i .i64,.i .i64]) x) ∧ (-9223372036854775808 ≤ px ∧ px < 9223372036854775808) ∧ (-9223372036854775808 ≤ p_y ∧ p_y < 9223372036854775808) ∧ (-9223372036854775808 ≤ pz ∧ pz < 9223372036854775808) ∧ (-9223372036854775808 ≤ tw ∧ tw < 9223372036854775808) ∧ (-9223372036854775808 ≤ tx ∧ tx < 9223372036854775808) ∧ (-9223372036854775808 ≤ ty ∧ ty < 9223372036854775808) ∧ (-9223372036854775808 ≤ tz ∧ tz < 9223372036854775808)) (k0:Bool → Option α):M.pspans k r hx hy hz l px p_y pz tw tx ty tz k0 = k0 true := by
  obtain ⟨g1,g2,g3,g4,g5,⟨gl,gp⟩,q1,q2,q3,_⟩ := hg
  unfold M.pspans
  obtain ⟨rg,chk,p0,p1,p2,a0,a1,e0,e1,r0⟩ := core_facts g1 g2 g3 g4 g5 gl gp
  rw [if_pos rg,chk]
  clear chk rg
  generalize V.corP (V.rgK k r hx hy hz l) (V.rgR r) (V.rgH hx) (V.rgH hy) (V.rgH hz) (V.rgP k r hx hy hz l) = P at *
  generalize V.corA (V.rgK k r hx hy hz l) (V.rgR r) (V.rgH hx) (V.rgH hy) (V.rgH hz) (V.rgP k r hx hy hz l) = A at *
  generalize V.corE (V.rgK k r hx hy hz l) (V.rgR r) (V.rgH hx) (V.rgH hy) (V.rgH hz) (V.rgP k r hx hy hz l) = E at *
  generalize V.corR (V.rgK k r hx hy hz l) (V.rgR r) (V.rgH hx) (V.rgH hy) (V.rgH hz) (V.rgP k r hx hy hz l) = R at *
  obtain ⟨m,hm,mo⟩ := prQ_rows tw tx ty tz
  have i1 := prP_in q1
  have i2 := prP_in q2
  have i3 := prP_in q3
  generalize V.prP px = X at *
  generalize V.prP p_y = Y at *
  generalize V.prP pz = Z at *
  generalize V.prQ tw tx ty tz = q at *
  have ho := plc_ok hm mo (t := (X,Y,Z)) (i1.mono (by omega)) (i2.mono (by omega)) (i3.mono (by omega)) (l := P) (A := A) (E := E) (by omega) p2 a0 e0
  have l1:V.lenB P.length = true := lenB_of (by omega)
  have l2:V.lenB A.length = true := lenB_of (by omega)
  have l3:V.lenB E.length = true := lenB_of (by omega)
  have hQ:∀ p ∈ P.map (atQ m (X,Y,Z)),Sm p 8388608 := by
    intro p hp
    obtain ⟨p',hp',rfl⟩ := List.mem_map.1 hp
    exact (at_ok mo (t := (X,Y,Z)) (i1.mono (by omega)) (i2.mono (by omega)) (i3.mono (by omega)) (p2 p' hp')).2.2
  have hlen:(P.map (atQ m (X,Y,Z))).length = P.length := List.length_map ..
  have ll:V.lenB (P.map (atQ m (X,Y,Z))).length = true := lenB_of (by omega)
  have ee:∀ a:Int,cEq a a = true := by intro a; rw [cEq_eq]; simp
  obtain ⟨a,b,c,d,e,g,es,hb⟩ := spn_parts (l := P.map (atQ m (X,Y,Z))) (r := R) (by omega) hQ (by omega)
  rw [ho]
  simp only [plG_some,plP_some,l1,l2,l3,ll,ee,es,and_self,if_true,Bool.not_true,Bool.false_eq_true,if_false]
  refine Eq.trans (pspans_l0_val R (P.map (atQ m (X,Y,Z))) a b c d e g (by omega) (by omega) hQ hb _ _ _ 0 (by omega) (by omega)) ?_
  rw [hlen,ee]
noncomputable def pspans_h {α:Type} (ds:List D) (Q:SV → Hp → Option α):Option α :=
  dI ds fun k ds => dI ds fun r ds => dI ds fun hx ds => dI ds fun hy ds => dI ds fun hz ds => dL kP ds fun l ds => dI ds fun px ds => dI ds fun p_y ds => dI ds fun pz ds => dI ds fun tw ds => dI ds fun tx ds => dI ds fun ty ds => dI ds fun tz ds => dE ds (if V.gB ((-9223372036854775808 ≤ k ∧ k < 9223372036854775808) ∧ (-9223372036854775808 ≤ r ∧ r < 9223372036854775808) ∧ (-9223372036854775808 ≤ hx ∧ hx < 9223372036854775808) ∧ (-9223372036854775808 ≤ hy ∧ hy < 9223372036854775808) ∧ (-9223372036854775808 ≤ hz ∧ hz < 9223372036854775808) ∧ (l.length < 9223372036854775808 ∧ ∀ x ∈ l,(RT.good (.i .i64) [.i .i64,.i .i64]) x) ∧ (-9223372036854775808 ≤ px ∧ px < 9223372036854775808) ∧ (-9223372036854775808 ≤ p_y ∧ p_y < 9223372036854775808) ∧ (-9223372036854775808 ≤ pz ∧ pz < 9223372036854775808) ∧ (-9223372036854775808 ≤ tw ∧ tw < 9223372036854775808) ∧ (-9223372036854775808 ≤ tx ∧ tx < 9223372036854775808) ∧ (-9223372036854775808 ≤ ty ∧ ty < 9223372036854775808) ∧ (-9223372036854775808 ≤ tz ∧ tz < 9223372036854775808)) = true then Q (.bool true) ([]) else none)
theorem pspans_h_ok {α:Type}:FnOk E.P 5 (fEnt (α := α) pspans_sp pspans_h) :=
  fEntR_ok E (look_qright_ok) (exec_sound E E_ok (look_qright_ok) (pspans_l0_lps_ok) 400) fun ds Q r h => by
    unfold pspans_h at h
    obtain ⟨k,ds,rfl,h1⟩ := dI_inv h
    obtain ⟨r,ds,rfl,h2⟩ := dI_inv h1
    obtain ⟨hx,ds,rfl,h3⟩ := dI_inv h2
    obtain ⟨hy,ds,rfl,h4⟩ := dI_inv h3
    obtain ⟨hz,ds,rfl,h5⟩ := dI_inv h4
    obtain ⟨l,ds,rfl,h6⟩ := dL_inv h5
    obtain ⟨px,ds,rfl,h7⟩ := dI_inv h6
    obtain ⟨p_y,ds,rfl,h8⟩ := dI_inv h7
    obtain ⟨pz,ds,rfl,h9⟩ := dI_inv h8
    obtain ⟨tw,ds,rfl,h10⟩ := dI_inv h9
    obtain ⟨tx,ds,rfl,h11⟩ := dI_inv h10
    obtain ⟨ty,ds,rfl,h12⟩ := dI_inv h11
    obtain ⟨tz,ds,rfl,h13⟩ := dI_inv h12
    obtain ⟨rfl,hE⟩ := dE_inv h13
    split at hE
    · rename_i hg
      exact ⟨_,_,hE,fun vs => ⟨_,_,by kernel_rfl,(pspans_eq k r hx hy hz l px p_y pz tw tx ty tz ((cellsV (vs.headD undef)).tail.tail.tail.tail.tail.headD undef) _).trans (pspans_v k r hx hy hz l px p_y pz tw tx ty tz (gB_iff hg) _)⟩⟩
    · cases hE
noncomputable def look_pspans {α:Type}:LookF α := addFn 5 (fEnt pspans_sp pspans_h) look_qright
theorem look_pspans_ok {α:Type}:LookOk E.P (look_pspans (α := α)) := addFn_ok pspans_h_ok (look_qright_ok)
end Go.Proofs.Ytlagndfhibkjpaa.Sx
end
