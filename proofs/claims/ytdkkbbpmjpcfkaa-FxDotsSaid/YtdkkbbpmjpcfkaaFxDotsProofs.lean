/- FxDots: whatever the 2 arguments, the law returns true; the input reads as it did. No condition. -/
import Derived.Test.YtdkkbbpmjpcfkaaFxDots
import Derived.Test.YtdkkbbpmjpcfkaaSxLaw
import Derived.Test.YtdkkbbpmjpcfkaaRows
namespace Go.Proofs.Ytdkkbbpmjpcfkaa
set_option linter.unusedVariables false
open Go.ChangeShapes Go.WideShapes Go.ChangeAt Go.RowKit
theorem Try.own : ownKnob Try.prog.godebug = none := by kernel_rfl
theorem Try.laidOut : laidOutB Try.prog = true := by kernel_rfl
theorem law_run (W : World) (a : List (Sx.K.T (.int .i64))) (va : Value) (b : List (Sx.K.T (.int .i64))) (vb : Value) (ha : a.length < 9223372036854775808) (ra : Sx.RosOk (fun b => b < W.heap.size) W va (.int .i64) a) (hb : b.length < 9223372036854775808) (rb : Sx.RosOk (fun b => b < W.heap.size) W vb (.int .i64) b) : Calls Try.prog 8 #[va, vb] W fun e W' => e = .returned (.bool true) ∧ Below W.heap.size W W' :=
  Sx.law_calls (args := [.ros va (.int .i64) a, .ros vb (.int .i64) b]) (Sx.sound_of Sx.dots_h_ok (by kernel_rfl)) W (fun ρ => by simp [Sx.SV.okL, Sx.SV.ok]; exact ⟨ra, rb⟩)
set_option maxRecDepth 100000 in
theorem fxDots_lifted (os : Os) (started : os.Started) (H : Type) (enc : TypeId × Value → H) :
    ReturnsInHanded {} Try.checked os 8 .any (Rows.fxDotsSpec.pre6 enc Try.prog Try.f8 Rows.fxDotsRow.domain false) (Rows.fxDotsSpec.post enc Try.prog Try.f8 false true false false) := by
  refine returnsInHanded_of_change (C := Try.checked) Try.own started (by kernel_rfl) Try.func8
    (ChangeSpec.witness6 (enc := enc) (C := Try.checked) false ⟨#[], #[.slice none 0 0, .slice none 0 0], []⟩ 8 (by kernel_rfl) (by kernel_rfl) (by kernel_rfl) (by kernel_rfl)) ?_
  intro W base args ds gs before hval0 hW hcnd _
  have hval : ∀ (j : Nat) t v, Try.f8.params[j]? = some t → args[j]? = some v → Value.okWide Try.prog W .any base t v := hval0
  have hW' := hW
  obtain ⟨p, q, hA0, hV, rfl, hfz, hnd⟩ := hW
  have hA : DataW.TrodAll enc Try.prog W 0 (fun _ => true) true Try.f8.params.toList args.toList ds p := hA0
  rw [Try.params8] at hA hval
  obtain ⟨v0, v1, d0, d1, p0, p1, hargs, rfl, rfl, h0, h1⟩ := trodAll_two hA
  obtain ⟨rfl, rfl⟩ := trodVars_none hV
  have hargs' : args = #[v0, v1] := hargs
  subst hargs'
  obtain ⟨a, _, la, ra⟩ := Sx.ros_slice (κ := .int .i64) Try.underlying37 (by kernel_rfl) (Sx.el_int Try.underlying3) (hval 0 37 v0 rfl rfl) h0
  obtain ⟨b, _, lb, rb⟩ := Sx.ros_slice (κ := .int .i64) Try.underlying37 (by kernel_rfl) (Sx.el_int Try.underlying3) (hval 1 37 v1 rfl rfl) h1
  clear hA0 hval0
  refine (law_run W a v0 b v1 la ra lb rb).mono fun e W' ⟨he, hb⟩ => ?_
  subst he
  exact ⟨_, rfl, Sx.post_of_below Try.laidOut (by rw [Try.params8]; intro t ht; simp at ht; first | (subst ht; exact ⟨by kernel_rfl, of_decide_eq_true (by kernel_rfl)⟩) | (rcases ht with rfl | rfl <;> exact ⟨by kernel_rfl, of_decide_eq_true (by kernel_rfl)⟩)) rfl (by kernel_rfl) Try.underlying4 rfl hW' hb⟩
theorem fxDots_holds : Rows.FxDotsSaid :=
  OpenClaim.holds_of_wide 8 Try.f8 rfl rfl rfl rfl rfl rfl rfl ⟨rfl, rfl, rfl, rfl, rfl⟩ rfl rfl rfl rfl rfl (by kernel_rfl) Try.func8 (by kernel_rfl)
    (of_decide_eq_true (by kernel_rfl)) (by unfold Func.isWrapper; first | (rw [if_pos (by decide +kernel)]; kernel_rfl) | (rw [if_neg (by decide +kernel)]; exact ⟨rfl, rfl⟩))
    (fun os started H enc _ => fxDots_lifted os started H enc)
end Go.Proofs.Ytdkkbbpmjpcfkaa
