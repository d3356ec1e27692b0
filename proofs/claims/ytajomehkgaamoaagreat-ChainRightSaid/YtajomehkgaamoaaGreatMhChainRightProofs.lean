/- ChainRight: whatever the 2 arguments, the law returns true; the input reads as it did. No condition. -/
import Derived.Test.YtajomehkgaamoaaGreatMh9
import Derived.Test.YtajomehkgaamoaaGreatRows
namespace Go.Proofs.YtajomehkgaamoaaGreat
set_option linter.unusedVariables false
open Go.ChangeShapes Go.WideShapes Go.ChangeAt Go.RowKit
theorem Tryz.own : ownKnob Tryz.prog.godebug = none := by kernel_rfl
theorem Tryz.laidOut : laidOutB Tryz.prog = true := by kernel_rfl
theorem law_run (W : World) (a0 : List (Sx.K.T (.st (.i .i64) [.i .i64, .i .i64, .i .i64, .i .i64, .i .i64, .i .i64, .i .i64, .i .i64, .i .i64, .b, .i .i64, .i .i64, .i .i64, .i .i64]))) (va0 : Value) (a1_0 : Int) (a1_1 : Int) (a1_2 : Int) (hg : (a0.length < 9223372036854775808 ∧ ∀ x ∈ a0, (Sx.RT.good (.i .i64) [.i .i64, .i .i64, .i .i64, .i .i64, .i .i64, .i .i64, .i .i64, .i .i64, .i .i64, .b, .i .i64, .i .i64, .i .i64, .i .i64]) x) ∧ (-9223372036854775808 ≤ a1_0 ∧ a1_0 < 9223372036854775808) ∧ (-9223372036854775808 ≤ a1_1 ∧ a1_1 < 9223372036854775808) ∧ (-9223372036854775808 ≤ a1_2 ∧ a1_2 < 9223372036854775808)) (ra0 : Sx.RosOk (fun b => b < W.heap.size) W va0 (.st (.i .i64) [.i .i64, .i .i64, .i .i64, .i .i64, .i .i64, .i .i64, .i .i64, .i .i64, .i .i64, .b, .i .i64, .i .i64, .i .i64, .i .i64]) a0) : Calls Tryz.prog 4 #[va0, .agg #[.int .i64 a1_0, .int .i64 a1_1, .int .i64 a1_2]] W fun e W' => e = .returned (.bool true) ∧ Below W.heap.size W W' :=
  Sx.law_calls (args := [.ros va0 (.st (.i .i64) [.i .i64, .i .i64, .i .i64, .i .i64, .i .i64, .i .i64, .i .i64, .i .i64, .i .i64, .b, .i .i64, .i .i64, .i .i64, .i .i64]) a0, .agg [.int .i64 a1_0, .int .i64 a1_1, .int .i64 a1_2]]) (Sx.sound_of Sx.chrightl_h_ok (by
    have e : Sx.fEnt (α := Sx.SV × Sx.Hp) Sx.chrightl_sp Sx.chrightl_h [.ros va0 (.st (.i .i64) [.i .i64, .i .i64, .i .i64, .i .i64, .i .i64, .i .i64, .i .i64, .i .i64, .i .i64, .b, .i .i64, .i .i64, .i .i64, .i .i64]) a0, .agg [.int .i64 a1_0, .int .i64 a1_1, .int .i64 a1_2]] [] (fun v H => some (v, H)) = if V.gB ((a0.length < 9223372036854775808 ∧ ∀ x ∈ a0, (Sx.RT.good (.i .i64) [.i .i64, .i .i64, .i .i64, .i .i64, .i .i64, .i .i64, .i .i64, .i .i64, .i .i64, .b, .i .i64, .i .i64, .i .i64, .i .i64]) x) ∧ (-9223372036854775808 ≤ a1_0 ∧ a1_0 < 9223372036854775808) ∧ (-9223372036854775808 ≤ a1_1 ∧ a1_1 < 9223372036854775808) ∧ (-9223372036854775808 ≤ a1_2 ∧ a1_2 < 9223372036854775808)) = true then some (.bool true, []) else none := by kernel_rfl
    rw [e, if_pos (Sx.gB_of hg)])) W (fun ρ => by simp [Sx.SV.okL, Sx.SV.ok]; exact ra0)
set_option maxRecDepth 100000 in
theorem chainRight_lifted (os : Os) (started : os.Started) (H : Type) (enc : TypeId × Value → H) :
    ReturnsInHanded {} Tryz.checked os 4 .any (Rows.chainRightSpec.pre6 enc Tryz.prog Tryz.f4 Rows.chainRightRow.domain false) (Rows.chainRightSpec.post enc Tryz.prog Tryz.f4 false true false false) := by
  refine returnsInHanded_of_change (C := Tryz.checked) Tryz.own started (by kernel_rfl) Tryz.func4
    (ChangeSpec.witness6 (enc := enc) (C := Tryz.checked) false ⟨#[], #[.slice none 0 0, .agg #[.int .i64 0, .int .i64 0, .int .i64 0]], []⟩ 8 (by kernel_rfl) (by kernel_rfl) (by kernel_rfl) (by kernel_rfl)) ?_
  intro W base args ds gs before hval0 hW hcnd _
  have hval : ∀ (j : Nat) t v, Tryz.f4.params[j]? = some t → args[j]? = some v → Value.okWide Tryz.prog W .any base t v := hval0
  have hW' := hW
  obtain ⟨p, q, hA0, hV, rfl, hfz, hnd⟩ := hW
  have hA : DataW.TrodAll enc Tryz.prog W 0 (fun _ => true) true Tryz.f4.params.toList args.toList ds p := hA0
  rw [Tryz.params4] at hA hval
  obtain ⟨v0, v1, d0, d1, p0, p1, hargs, rfl, rfl, h0, h1⟩ := trodAll_two hA
  obtain ⟨rfl, rfl⟩ := trodVars_none hV
  have hargs' : args = #[v0, v1] := hargs
  subst hargs'
  obtain ⟨a0, ga0, la0, ra0⟩ := Sx.ros_slice (κ := (.st (.i .i64) [.i .i64, .i .i64, .i .i64, .i .i64, .i .i64, .i .i64, .i .i64, .i .i64, .i .i64, .b, .i .i64, .i .i64, .i .i64, .i .i64])) Tryz.underlying22 (by kernel_rfl) (Sx.el_st 6 (by kernel_rfl)) (hval 0 22 v0 rfl rfl) h0
  obtain ⟨a1, rfl, ga1⟩ := Sx.open_st (k := .i .i64) (ks := [.i .i64, .i .i64]) 6 (by kernel_rfl) (by kernel_rfl) (hval 1 24 v1 rfl rfl) h1
  clear hA0 hval0
  refine (law_run W a0 v0 a1.1 a1.2.1 a1.2.2 ⟨⟨la0, ga0⟩, Sx.wf64 ga1.1, Sx.wf64 ga1.2.1, Sx.wf64 ga1.2.2⟩ ra0).mono fun e W' ⟨he, hb⟩ => ?_
  subst he
  exact ⟨_, rfl, Sx.post_of_below Tryz.laidOut (by rw [Tryz.params4]; intro t ht; simp at ht; first | (subst ht; exact ⟨by kernel_rfl, of_decide_eq_true (by kernel_rfl)⟩) | (rcases ht with rfl | rfl | rfl | rfl <;> exact ⟨by kernel_rfl, of_decide_eq_true (by kernel_rfl)⟩) | (rcases ht with rfl | rfl | rfl <;> exact ⟨by kernel_rfl, of_decide_eq_true (by kernel_rfl)⟩) | (rcases ht with rfl | rfl <;> exact ⟨by kernel_rfl, of_decide_eq_true (by kernel_rfl)⟩)) rfl (by kernel_rfl) Tryz.underlying4 rfl hW' hb⟩
theorem chainRight_holds : Rows.ChainRightSaid :=
  OpenClaim.holds_of_wide 4 Tryz.f4 rfl rfl rfl rfl rfl rfl rfl ⟨rfl, rfl, rfl, rfl, rfl⟩ rfl rfl rfl rfl rfl (by kernel_rfl) Tryz.func4 (by kernel_rfl)
    (of_decide_eq_true (by kernel_rfl)) (by unfold Func.isWrapper; first | (rw [if_pos (by decide +kernel)]; kernel_rfl) | (rw [if_neg (by decide +kernel)]; exact ⟨rfl, rfl⟩))
    (fun os started H enc _ => chainRight_lifted os started H enc)
end Go.Proofs.YtajomehkgaamoaaGreat
