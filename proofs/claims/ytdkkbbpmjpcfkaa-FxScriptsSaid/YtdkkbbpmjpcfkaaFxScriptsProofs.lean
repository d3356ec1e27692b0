/- FxScripts: whatever the 1 arguments, the law returns true; the input reads as it did. No condition. -/
import Derived.Test.YtdkkbbpmjpcfkaaFxScripts
import Derived.Test.YtdkkbbpmjpcfkaaSxLaw
import Derived.Test.YtdkkbbpmjpcfkaaRows
namespace Go.Proofs.Ytdkkbbpmjpcfkaa
set_option linter.unusedVariables false
open Go.ChangeShapes Go.WideShapes Go.ChangeAt Go.RowKit
theorem Try.own : ownKnob Try.prog.godebug = none := by kernel_rfl
theorem Try.laidOut : laidOutB Try.prog = true := by kernel_rfl
theorem law_run (W : World) (a : List (Sx.K.T .v3)) (va : Value) (ha : a.length < 9223372036854775808) (ra : Sx.RosOk (fun b => b < W.heap.size) W va .v3 a) : Calls Try.prog 4 #[va] W fun e W' => e = .returned (.bool true) ∧ Below W.heap.size W W' :=
  Sx.law_calls (args := [.ros va .v3 a]) (Sx.sound_of Sx.scripts_h_ok (by
    have hg : a.length < 9223372036854775808 := by omega
    have e : Sx.fEnt (α := Sx.SV × Sx.Hp) Sx.scripts_sp Sx.scripts_h [.ros va .v3 a] [] (fun v H => some (v, H)) = if a.length < 9223372036854775808 then some (.bool true, []) else none := by kernel_rfl
    rw [e, if_pos hg])) W (fun ρ => by simp [Sx.SV.okL, Sx.SV.ok]; exact ra)
set_option maxRecDepth 100000 in
theorem fxScripts_lifted (os : Os) (started : os.Started) (H : Type) (enc : TypeId × Value → H) :
    ReturnsInHanded {} Try.checked os 4 .any (Rows.fxScriptsSpec.pre6 enc Try.prog Try.f4 Rows.fxScriptsRow.domain false) (Rows.fxScriptsSpec.post enc Try.prog Try.f4 false true false false) := by
  refine returnsInHanded_of_change (C := Try.checked) Try.own started (by kernel_rfl) Try.func4
    (ChangeSpec.witness6 (enc := enc) (C := Try.checked) false ⟨#[], #[.slice none 0 0], []⟩ 8 (by kernel_rfl) (by kernel_rfl) (by kernel_rfl) (by kernel_rfl)) ?_
  intro W base args ds gs before hval0 hW hcnd _
  have hval : ∀ (j : Nat) t v, Try.f4.params[j]? = some t → args[j]? = some v → Value.okWide Try.prog W .any base t v := hval0
  have hW' := hW
  obtain ⟨p, q, hA0, hV, rfl, hfz, hnd⟩ := hW
  have hA : DataW.TrodAll enc Try.prog W 0 (fun _ => true) true Try.f4.params.toList args.toList ds p := hA0
  rw [Try.params4] at hA hval
  obtain ⟨v0, d0, hargs, rfl, h0⟩ := trodAll_one hA
  obtain ⟨rfl, rfl⟩ := trodVars_none hV
  have hargs' : args = #[v0] := hargs
  subst hargs'
  obtain ⟨a, _, la, ra⟩ := Sx.ros_slice (κ := .v3) Try.underlying31 (by kernel_rfl) (Sx.el_v3 Try.underlying32 Try.underlying3 (by kernel_rfl) (by kernel_rfl)) (hval 0 31 v0 rfl rfl) h0
  clear hA0 hval0
  refine (law_run W a v0 la ra).mono fun e W' ⟨he, hb⟩ => ?_
  subst he
  exact ⟨_, rfl, Sx.post_of_below Try.laidOut (by rw [Try.params4]; intro t ht; simp at ht; first | (subst ht; exact ⟨by kernel_rfl, of_decide_eq_true (by kernel_rfl)⟩) | (rcases ht with rfl | rfl <;> exact ⟨by kernel_rfl, of_decide_eq_true (by kernel_rfl)⟩)) rfl (by kernel_rfl) Try.underlying4 rfl hW' hb⟩
theorem fxScripts_holds : Rows.FxScriptsSaid :=
  OpenClaim.holds_of_wide 4 Try.f4 rfl rfl rfl rfl rfl rfl rfl ⟨rfl, rfl, rfl, rfl, rfl⟩ rfl rfl rfl rfl rfl (by kernel_rfl) Try.func4 (by kernel_rfl)
    (of_decide_eq_true (by kernel_rfl)) (by unfold Func.isWrapper; first | (rw [if_pos (by decide +kernel)]; kernel_rfl) | (rw [if_neg (by decide +kernel)]; exact ⟨rfl, rfl⟩))
    (fun os started H enc _ => fxScripts_lifted os started H enc)
end Go.Proofs.Ytdkkbbpmjpcfkaa
