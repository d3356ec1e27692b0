/- ShapeShort: whatever the 1 arguments, the law returns true; the input reads as it did. No condition. -/
import Derived.Test.YtkjellhkamfciaaSrS
import Derived.Test.YtkjellhkamfciaaSxLaw
import Derived.Test.YtkjellhkamfciaaRows
namespace Go.Proofs.Ytkjellhkamfciaa
set_option linter.unusedVariables false
open Go.ChangeShapes Go.WideShapes Go.ChangeAt Go.RowKit
theorem Try.own : ownKnob Try.prog.godebug = none := by kernel_rfl
theorem Try.laidOut : laidOutB Try.prog = true := by kernel_rfl
theorem law_run (W : World) (a0_0 : Int) (a0_1 : Int) (a0_2 : Int) (hg : (-9223372036854775808 ≤ a0_0 ∧ a0_0 < 9223372036854775808) ∧ (-9223372036854775808 ≤ a0_1 ∧ a0_1 < 9223372036854775808) ∧ (-9223372036854775808 ≤ a0_2 ∧ a0_2 < 9223372036854775808)) : Calls Try.prog 5 #[.agg #[.int .i64 a0_0, .int .i64 a0_1, .int .i64 a0_2]] W fun e W' => e = .returned (.bool true) ∧ Below W.heap.size W W' :=
  Sx.law_calls (args := [.agg [.int .i64 a0_0, .int .i64 a0_1, .int .i64 a0_2]]) (Sx.sound_of Sx.lshort_h_ok (by
    have e : Sx.fEnt (α := Sx.SV × Sx.Hp) Sx.lshort_sp Sx.lshort_h [.agg [.int .i64 a0_0, .int .i64 a0_1, .int .i64 a0_2]] [] (fun v H => some (v, H)) = if V.gB ((-9223372036854775808 ≤ a0_0 ∧ a0_0 < 9223372036854775808) ∧ (-9223372036854775808 ≤ a0_1 ∧ a0_1 < 9223372036854775808) ∧ (-9223372036854775808 ≤ a0_2 ∧ a0_2 < 9223372036854775808)) = true then some (.bool true, []) else none := by kernel_rfl
    rw [e, if_pos (Sx.gB_of hg)])) W (fun ρ => by simp [Sx.SV.okL, Sx.SV.ok])
set_option maxRecDepth 100000 in
theorem shapeShort_lifted (os : Os) (started : os.Started) (H : Type) (enc : TypeId × Value → H) :
    ReturnsInHanded {} Try.checked os 5 .any (Rows.shapeShortSpec.pre6 enc Try.prog Try.f5 Rows.shapeShortRow.domain false) (Rows.shapeShortSpec.post enc Try.prog Try.f5 false true false false) := by
  refine returnsInHanded_of_change (C := Try.checked) Try.own started (by kernel_rfl) Try.func5
    (ChangeSpec.witness6 (enc := enc) (C := Try.checked) false ⟨#[], #[.agg #[.int .i64 0, .int .i64 0, .int .i64 0]], []⟩ 8 (by kernel_rfl) (by kernel_rfl) (by kernel_rfl) (by kernel_rfl)) ?_
  intro W base args ds gs before hval0 hW hcnd _
  have hval : ∀ (j : Nat) t v, Try.f5.params[j]? = some t → args[j]? = some v → Value.okWide Try.prog W .any base t v := hval0
  have hW' := hW
  obtain ⟨p, q, hA0, hV, rfl, hfz, hnd⟩ := hW
  have hA : DataW.TrodAll enc Try.prog W 0 (fun _ => true) true Try.f5.params.toList args.toList ds p := hA0
  rw [Try.params5] at hA hval
  obtain ⟨v0, d0, hargs, rfl, h0⟩ := trodAll_one hA
  obtain ⟨rfl, rfl⟩ := trodVars_none hV
  have hargs' : args = #[v0] := hargs
  subst hargs'
  obtain ⟨a0, rfl, ga0⟩ := Sx.open_st (k := .i .i64) (ks := [.i .i64, .i .i64]) 6 (by kernel_rfl) (by kernel_rfl) (hval 0 23 v0 rfl rfl) h0
  clear hA0 hval0
  refine (law_run W a0.1 a0.2.1 a0.2.2 ⟨Sx.wf64 ga0.1, Sx.wf64 ga0.2.1, Sx.wf64 ga0.2.2⟩ ).mono fun e W' ⟨he, hb⟩ => ?_
  subst he
  exact ⟨_, rfl, Sx.post_of_below Try.laidOut (by rw [Try.params5]; intro t ht; simp at ht; first | (subst ht; exact ⟨by kernel_rfl, of_decide_eq_true (by kernel_rfl)⟩) | (rcases ht with rfl | rfl | rfl | rfl <;> exact ⟨by kernel_rfl, of_decide_eq_true (by kernel_rfl)⟩) | (rcases ht with rfl | rfl | rfl <;> exact ⟨by kernel_rfl, of_decide_eq_true (by kernel_rfl)⟩) | (rcases ht with rfl | rfl <;> exact ⟨by kernel_rfl, of_decide_eq_true (by kernel_rfl)⟩)) rfl (by kernel_rfl) Try.underlying4 rfl hW' hb⟩
theorem shapeShort_holds : Rows.ShapeShortSaid :=
  OpenClaim.holds_of_wide 5 Try.f5 rfl rfl rfl rfl rfl rfl rfl ⟨rfl, rfl, rfl, rfl, rfl⟩ rfl rfl rfl rfl rfl (by kernel_rfl) Try.func5 (by kernel_rfl)
    (of_decide_eq_true (by kernel_rfl)) (by unfold Func.isWrapper; first | (rw [if_pos (by decide +kernel)]; kernel_rfl) | (rw [if_neg (by decide +kernel)]; exact ⟨rfl, rfl⟩))
    (fun os started H enc _ => shapeShort_lifted os started H enc)
end Go.Proofs.Ytkjellhkamfciaa
