/- PoseRight: whatever the 3 arguments, the law returns true; the input reads as it did. No condition. -/
import Derived.Test.YtlagndfhibkjpaaGreatMg9
import Derived.Test.YtlagndfhibkjpaaGreatRows
namespace Go.Proofs.YtlagndfhibkjpaaGreat
set_option linter.unusedVariables false
open Go.ChangeShapes Go.WideShapes Go.ChangeAt Go.RowKit
theorem Tryz.own : ownKnob Tryz.prog.godebug = none := by kernel_rfl
theorem Tryz.laidOut : laidOutB Tryz.prog = true := by kernel_rfl
theorem law_run (W : World) (a0_0 : Int) (a0_1 : Int) (a0_2 : Int) (a0_3 : Int) (a0_4 : Int) (a0_5 : List (Sx.K.T (.st (.i .i64) [.i .i64, .i .i64]))) (va0_5 : Value) (a1_0 : Int) (a1_1 : Int) (a1_2 : Int) (a1_3 : Int) (a1_4 : Int) (a1_5 : Int) (a1_6 : Int) (a2_0 : Int) (a2_1 : Int) (a2_2 : Int) (hg : (-9223372036854775808 ≤ a0_0 ∧ a0_0 < 9223372036854775808) ∧ (-9223372036854775808 ≤ a0_1 ∧ a0_1 < 9223372036854775808) ∧ (-9223372036854775808 ≤ a0_2 ∧ a0_2 < 9223372036854775808) ∧ (-9223372036854775808 ≤ a0_3 ∧ a0_3 < 9223372036854775808) ∧ (-9223372036854775808 ≤ a0_4 ∧ a0_4 < 9223372036854775808) ∧ (a0_5.length < 9223372036854775808 ∧ ∀ x ∈ a0_5, (Sx.RT.good (.i .i64) [.i .i64, .i .i64]) x) ∧ (-9223372036854775808 ≤ a1_0 ∧ a1_0 < 9223372036854775808) ∧ (-9223372036854775808 ≤ a1_1 ∧ a1_1 < 9223372036854775808) ∧ (-9223372036854775808 ≤ a1_2 ∧ a1_2 < 9223372036854775808) ∧ (-9223372036854775808 ≤ a1_3 ∧ a1_3 < 9223372036854775808) ∧ (-9223372036854775808 ≤ a1_4 ∧ a1_4 < 9223372036854775808) ∧ (-9223372036854775808 ≤ a1_5 ∧ a1_5 < 9223372036854775808) ∧ (-9223372036854775808 ≤ a1_6 ∧ a1_6 < 9223372036854775808) ∧ (-9223372036854775808 ≤ a2_0 ∧ a2_0 < 9223372036854775808) ∧ (-9223372036854775808 ≤ a2_1 ∧ a2_1 < 9223372036854775808) ∧ (-9223372036854775808 ≤ a2_2 ∧ a2_2 < 9223372036854775808)) (ra0_5 : Sx.RosOk (fun b => b < W.heap.size) W va0_5 (.st (.i .i64) [.i .i64, .i .i64]) a0_5) : Calls Tryz.prog 3 #[.agg #[.int .i64 a0_0, .int .i64 a0_1, .int .i64 a0_2, .int .i64 a0_3, .int .i64 a0_4, va0_5], .agg #[.int .i64 a1_0, .int .i64 a1_1, .int .i64 a1_2, .int .i64 a1_3, .int .i64 a1_4, .int .i64 a1_5, .int .i64 a1_6], .agg #[.int .i64 a2_0, .int .i64 a2_1, .int .i64 a2_2]] W fun e W' => e = .returned (.bool true) ∧ Below W.heap.size W W' :=
  Sx.law_calls (args := [.agg [.int .i64 a0_0, .int .i64 a0_1, .int .i64 a0_2, .int .i64 a0_3, .int .i64 a0_4, .ros va0_5 (.st (.i .i64) [.i .i64, .i .i64]) a0_5], .agg [.int .i64 a1_0, .int .i64 a1_1, .int .i64 a1_2, .int .i64 a1_3, .int .i64 a1_4, .int .i64 a1_5, .int .i64 a1_6], .agg [.int .i64 a2_0, .int .i64 a2_1, .int .i64 a2_2]]) (Sx.sound_of Sx.pright_h_ok (by
    have e : Sx.fEnt (α := Sx.SV × Sx.Hp) Sx.pright_sp Sx.pright_h [.agg [.int .i64 a0_0, .int .i64 a0_1, .int .i64 a0_2, .int .i64 a0_3, .int .i64 a0_4, .ros va0_5 (.st (.i .i64) [.i .i64, .i .i64]) a0_5], .agg [.int .i64 a1_0, .int .i64 a1_1, .int .i64 a1_2, .int .i64 a1_3, .int .i64 a1_4, .int .i64 a1_5, .int .i64 a1_6], .agg [.int .i64 a2_0, .int .i64 a2_1, .int .i64 a2_2]] [] (fun v H => some (v, H)) = if V.gB ((-9223372036854775808 ≤ a0_0 ∧ a0_0 < 9223372036854775808) ∧ (-9223372036854775808 ≤ a0_1 ∧ a0_1 < 9223372036854775808) ∧ (-9223372036854775808 ≤ a0_2 ∧ a0_2 < 9223372036854775808) ∧ (-9223372036854775808 ≤ a0_3 ∧ a0_3 < 9223372036854775808) ∧ (-9223372036854775808 ≤ a0_4 ∧ a0_4 < 9223372036854775808) ∧ (a0_5.length < 9223372036854775808 ∧ ∀ x ∈ a0_5, (Sx.RT.good (.i .i64) [.i .i64, .i .i64]) x) ∧ (-9223372036854775808 ≤ a1_0 ∧ a1_0 < 9223372036854775808) ∧ (-9223372036854775808 ≤ a1_1 ∧ a1_1 < 9223372036854775808) ∧ (-9223372036854775808 ≤ a1_2 ∧ a1_2 < 9223372036854775808) ∧ (-9223372036854775808 ≤ a1_3 ∧ a1_3 < 9223372036854775808) ∧ (-9223372036854775808 ≤ a1_4 ∧ a1_4 < 9223372036854775808) ∧ (-9223372036854775808 ≤ a1_5 ∧ a1_5 < 9223372036854775808) ∧ (-9223372036854775808 ≤ a1_6 ∧ a1_6 < 9223372036854775808) ∧ (-9223372036854775808 ≤ a2_0 ∧ a2_0 < 9223372036854775808) ∧ (-9223372036854775808 ≤ a2_1 ∧ a2_1 < 9223372036854775808) ∧ (-9223372036854775808 ≤ a2_2 ∧ a2_2 < 9223372036854775808)) = true then some (.bool true, []) else none := by kernel_rfl
    rw [e, if_pos (Sx.gB_of hg)])) W (fun ρ => by simp [Sx.SV.okL, Sx.SV.ok]; exact ra0_5)
set_option maxRecDepth 100000 in
theorem poseRight_lifted (os : Os) (started : os.Started) (H : Type) (enc : TypeId × Value → H) :
    ReturnsInHanded {} Tryz.checked os 3 .any (Rows.poseRightSpec.pre6 enc Tryz.prog Tryz.f3 Rows.poseRightRow.domain false) (Rows.poseRightSpec.post enc Tryz.prog Tryz.f3 false true false false) := by
  refine returnsInHanded_of_change (C := Tryz.checked) Tryz.own started (by kernel_rfl) Tryz.func3
    (ChangeSpec.witness6 (enc := enc) (C := Tryz.checked) false ⟨#[], #[.agg #[.int .i64 0, .int .i64 0, .int .i64 0, .int .i64 0, .int .i64 0, .slice none 0 0], .agg #[.int .i64 0, .int .i64 0, .int .i64 0, .int .i64 0, .int .i64 0, .int .i64 0, .int .i64 0], .agg #[.int .i64 0, .int .i64 0, .int .i64 0]], []⟩ 8 (by kernel_rfl) (by kernel_rfl) (by kernel_rfl) (by kernel_rfl)) ?_
  intro W base args ds gs before hval0 hW hcnd _
  have hval : ∀ (j : Nat) t v, Tryz.f3.params[j]? = some t → args[j]? = some v → Value.okWide Tryz.prog W .any base t v := hval0
  have hW' := hW
  obtain ⟨p, q, hA0, hV, rfl, hfz, hnd⟩ := hW
  have hA : DataW.TrodAll enc Tryz.prog W 0 (fun _ => true) true Tryz.f3.params.toList args.toList ds p := hA0
  rw [Tryz.params3] at hA hval
  obtain ⟨v0, v1, v2, d0, d1, d2, p0, p1, p2, hargs, rfl, rfl, h0, h1, h2⟩ := trodAll_three hA
  obtain ⟨rfl, rfl⟩ := trodVars_none hV
  have hargs' : args = #[v0, v1, v2] := hargs
  subst hargs'
  obtain ⟨c0, rfl, m0⟩ := Sx.open_str (ks := [.leaf (.i .i64), .leaf (.i .i64), .leaf (.i .i64), .leaf (.i .i64), .leaf (.i .i64), .sl 24]) 6 (by kernel_rfl) (by kernel_rfl) (hval 0 26 v0 rfl rfl) h0
  obtain ⟨a0_0, c0_0, rfl, wa0_0, m0_0⟩ := Sx.MtR.ci m0
  obtain ⟨a0_1, c0_1, rfl, wa0_1, m0_1⟩ := Sx.MtR.ci m0_0
  obtain ⟨a0_2, c0_2, rfl, wa0_2, m0_2⟩ := Sx.MtR.ci m0_1
  obtain ⟨a0_3, c0_3, rfl, wa0_3, m0_3⟩ := Sx.MtR.ci m0_2
  obtain ⟨a0_4, c0_4, rfl, wa0_4, m0_4⟩ := Sx.MtR.ci m0_3
  obtain ⟨ua0_5, c0_5, rfl, ⟨fa0_5, ya0_5, ta0_5⟩, m0_5⟩ := Sx.MtR.cs m0_4
  obtain ⟨_, ea0_5, a0_5, ga0_5, la0_5, ra0_5⟩ := Sx.ros_trod (κ := (.st (.i .i64) [.i .i64, .i .i64])) Tryz.underlying24 (by kernel_rfl) (Sx.el_st 6 (by kernel_rfl)) ta0_5
  cases ea0_5
  obtain rfl := Sx.MtR.nil m0_5
  obtain ⟨a1, rfl, ga1⟩ := Sx.open_st (k := .i .i64) (ks := [.i .i64, .i .i64, .i .i64, .i .i64, .i .i64, .i .i64]) 6 (by kernel_rfl) (by kernel_rfl) (hval 1 31 v1 rfl rfl) h1
  obtain ⟨a2, rfl, ga2⟩ := Sx.open_st (k := .i .i64) (ks := [.i .i64, .i .i64]) 6 (by kernel_rfl) (by kernel_rfl) (hval 2 23 v2 rfl rfl) h2
  clear hA0 hval0
  refine (law_run W a0_0 a0_1 a0_2 a0_3 a0_4 a0_5 ua0_5 a1.1 a1.2.1 a1.2.2.1 a1.2.2.2.1 a1.2.2.2.2.1 a1.2.2.2.2.2.1 a1.2.2.2.2.2.2 a2.1 a2.2.1 a2.2.2 ⟨Sx.wf64 wa0_0, Sx.wf64 wa0_1, Sx.wf64 wa0_2, Sx.wf64 wa0_3, Sx.wf64 wa0_4, ⟨la0_5, ga0_5⟩, Sx.wf64 ga1.1, Sx.wf64 ga1.2.1, Sx.wf64 ga1.2.2.1, Sx.wf64 ga1.2.2.2.1, Sx.wf64 ga1.2.2.2.2.1, Sx.wf64 ga1.2.2.2.2.2.1, Sx.wf64 ga1.2.2.2.2.2.2, Sx.wf64 ga2.1, Sx.wf64 ga2.2.1, Sx.wf64 ga2.2.2⟩ ra0_5).mono fun e W' ⟨he, hb⟩ => ?_
  subst he
  exact ⟨_, rfl, Sx.post_of_below Tryz.laidOut (by rw [Tryz.params3]; intro t ht; simp at ht; first | (subst ht; exact ⟨by kernel_rfl, of_decide_eq_true (by kernel_rfl)⟩) | (rcases ht with rfl | rfl | rfl | rfl <;> exact ⟨by kernel_rfl, of_decide_eq_true (by kernel_rfl)⟩) | (rcases ht with rfl | rfl | rfl <;> exact ⟨by kernel_rfl, of_decide_eq_true (by kernel_rfl)⟩) | (rcases ht with rfl | rfl <;> exact ⟨by kernel_rfl, of_decide_eq_true (by kernel_rfl)⟩)) rfl (by kernel_rfl) Tryz.underlying4 rfl hW' hb⟩
theorem poseRight_holds : Rows.PoseRightSaid :=
  OpenClaim.holds_of_wide 3 Tryz.f3 rfl rfl rfl rfl rfl rfl rfl ⟨rfl, rfl, rfl, rfl, rfl⟩ rfl rfl rfl rfl rfl (by kernel_rfl) Tryz.func3 (by kernel_rfl)
    (of_decide_eq_true (by kernel_rfl)) (by unfold Func.isWrapper; first | (rw [if_pos (by decide +kernel)]; kernel_rfl) | (rw [if_neg (by decide +kernel)]; exact ⟨rfl, rfl⟩))
    (fun os started H enc _ => poseRight_lifted os started H enc)
end Go.Proofs.YtlagndfhibkjpaaGreat
