/- FxDots: its run tells true. -/
import Derived.Test.YtdkkbbpmjpcfkaaFxH
import Derived.Test.YtdkkbbpmjpcfkaaFxR7
namespace Go.Proofs.Ytdkkbbpmjpcfkaa.Sx
open Go
set_option linter.unusedVariables false
set_option linter.unusedSimpArgs false
noncomputable def look_FxDots_awake {α : Type} : LookF α := addFn 12 (fEnt awake_sp awake_h) look_rnorm
theorem look_FxDots_awake_ok {α : Type} : LookOk E.P (look_FxDots_awake (α := α)) := addFn_ok awake_h_ok (look_rnorm_ok)
noncomputable def look_FxDots_dot {α : Type} : LookF α := addFn 31 (fEnt dot_sp dot_h) look_FxDots_awake
theorem look_FxDots_dot_ok {α : Type} : LookOk E.P (look_FxDots_dot (α := α)) := addFn_ok dot_h_ok (look_FxDots_awake_ok)
noncomputable def look_FxDots_norm {α : Type} : LookF α := addFn 19 (fEnt norm_sp norm_h) look_FxDots_dot
theorem look_FxDots_norm_ok {α : Type} : LookOk E.P (look_FxDots_norm (α := α)) := addFn_ok norm_h_ok (look_FxDots_dot_ok)
noncomputable def _root_.Go.Proofs.Ytdkkbbpmjpcfkaa.M.dots {α : Type} (a : List Int) (b : List Int) (k0 : Bool → Option α) : Option α :=
  if cEq (V.gv (V.mDot a b)) (V.gv (V.mDot a b)) = true then
  if (V.gn (V.mDot a b) false == V.gn (V.mDot a b) false) = true then
    if cEq (V.gv (V.mNorm a)) (V.gv (V.mNorm a)) = true then k0 (V.gn (V.mNorm a) false == V.gn (V.mNorm a) false) else k0 false
  else k0 false
else k0 false
theorem dots_eq {α : Type} (a : List Int) (b : List Int) (v0 : Value) (v1 : Value) (Q : SV → Hp → Option α) : callI E look_FxDots_norm (exec E look_FxDots_norm noLps 400) 8 ([SV.ros v0 (K.int IntKind.i64) a, SV.ros v1 (K.int IntKind.i64) b]) ([]) Q = Go.Proofs.Ytdkkbbpmjpcfkaa.M.dots a b (fun (x2 : Bool) => Q (SV.bool x2) ([])) := by kernel_rfl
def dots_sp : List AS := [.ro (.int .i64), .ro (.int .i64)]
theorem dots_v {α : Type} (a b : List Int) (k0 : Bool → Option α) : M.dots a b k0 = k0 true := by
  unfold M.dots
  simp only [cEq_eq, beq_self_eq_true, if_true]
noncomputable def dots_h {α : Type} (ds : List D) (Q : SV → Hp → Option α) : Option α :=
  dL (K.int IntKind.i64) ds fun a ds => dL (K.int IntKind.i64) ds fun b ds => dE ds (Q (.bool true) ([]))
theorem dots_h_ok {α : Type} : FnOk E.P 8 (fEnt (α := α) dots_sp dots_h) :=
  fEntR_ok E (look_FxDots_norm_ok) (exec_sound E E_ok (look_FxDots_norm_ok) (noLps_ok _) 400) fun ds Q r h => by
    unfold dots_h at h
    obtain ⟨a, ds, rfl, h1⟩ := dL_inv h
    obtain ⟨b, ds, rfl, h2⟩ := dL_inv h1
    obtain ⟨rfl, hE⟩ := dE_inv h2
    exact ⟨_, _, hE, fun vs => ⟨_, _, by kernel_rfl, (dots_eq a b (vs.headD undef) (vs.tail.headD undef) _).trans (dots_v a b _)⟩⟩
end Go.Proofs.Ytdkkbbpmjpcfkaa.Sx
