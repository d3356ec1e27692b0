/- RowTells: whatever the 3 arguments, the law returns true; the input reads as it did. No condition. -/
import Derived.Test.YtfkgmidgdpfnkaaGreatMg9
import Derived.Test.YtfkgmidgdpfnkaaGreatRows
namespace Go.Proofs.YtfkgmidgdpfnkaaGreat
set_option linter.unusedVariables false
open Go.ChangeShapes Go.WideShapes Go.ChangeAt Go.RowKit
theorem Tryz.own : ownKnob Tryz.prog.godebug = none := by kernel_rfl
theorem Tryz.laidOut : laidOutB Tryz.prog = true := by kernel_rfl
theorem law_run (W : World) (a0 : List (Sx.K.T Sx.kBy)) (va0 : Value) (a1 : List (Sx.K.T (.st (.i .i64) [.i .i64, .i .i64, .i .i64, .i .i64, .i .i64, .i .i64, .i .i64, .i .i64, .i .i64, .i .i64, .b, .i .i64, .i .i64, .i .i64, .i .i64, .i .i64, .i .i64]))) (va1 : Value) (a2 : Int) (hg : (a0.length < 9223372036854775808 ∧ ∀ x ∈ a0, Sx.BGood x) ∧ (a1.length < 9223372036854775808 ∧ ∀ x ∈ a1, (Sx.RT.good (.i .i64) [.i .i64, .i .i64, .i .i64, .i .i64, .i .i64, .i .i64, .i .i64, .i .i64, .i .i64, .i .i64, .b, .i .i64, .i .i64, .i .i64, .i .i64, .i .i64, .i .i64]) x) ∧ (-9223372036854775808 ≤ a2 ∧ a2 < 9223372036854775808)) (ra0 : Sx.RosOk (fun b => b < W.heap.size) W va0 Sx.kBy a0) (ra1 : Sx.RosOk (fun b => b < W.heap.size) W va1 (.st (.i .i64) [.i .i64, .i .i64, .i .i64, .i .i64, .i .i64, .i .i64, .i .i64, .i .i64, .i .i64, .i .i64, .b, .i .i64, .i .i64, .i .i64, .i .i64, .i .i64, .i .i64]) a1) : Calls Tryz.prog 3 #[va0, va1, .int .i64 a2] W fun e W' => e = .returned (.bool true) ∧ Below W.heap.size W W' :=
  Sx.law_calls (args := [.ros va0 Sx.kBy a0, .ros va1 (.st (.i .i64) [.i .i64, .i .i64, .i .i64, .i .i64, .i .i64, .i .i64, .i .i64, .i .i64, .i .i64, .i .i64, .b, .i .i64, .i .i64, .i .i64, .i .i64, .i .i64, .i .i64]) a1, .int .i64 a2]) (Sx.sound_of Sx.rtells_h_ok (by
    have e : Sx.fEnt (α := Sx.SV × Sx.Hp) Sx.rtells_sp Sx.rtells_h [.ros va0 Sx.kBy a0, .ros va1 (.st (.i .i64) [.i .i64, .i .i64, .i .i64, .i .i64, .i .i64, .i .i64, .i .i64, .i .i64, .i .i64, .i .i64, .b, .i .i64, .i .i64, .i .i64, .i .i64, .i .i64, .i .i64]) a1, .int .i64 a2] [] (fun v H => some (v, H)) = if V.gB ((a0.length < 9223372036854775808 ∧ ∀ x ∈ a0, Sx.BGood x) ∧ (a1.length < 9223372036854775808 ∧ ∀ x ∈ a1, (Sx.RT.good (.i .i64) [.i .i64, .i .i64, .i .i64, .i .i64, .i .i64, .i .i64, .i .i64, .i .i64, .i .i64, .i .i64, .b, .i .i64, .i .i64, .i .i64, .i .i64, .i .i64, .i .i64]) x) ∧ (-9223372036854775808 ≤ a2 ∧ a2 < 9223372036854775808)) = true then some (.bool true, []) else none := by kernel_rfl
    rw [e, if_pos (Sx.gB_of hg)])) W (fun ρ => by simp [Sx.SV.okL, Sx.SV.ok]; exact ⟨ra0, ra1⟩)
set_option maxRecDepth 100000 in
theorem rowTells_lifted (os : Os) (started : os.Started) (H : Type) (enc : TypeId × Value → H) :
    ReturnsInHanded {} Tryz.checked os 3 .any (Rows.rowTellsSpec.pre6 enc Tryz.prog Tryz.f3 Rows.rowTellsRow.domain false) (Rows.rowTellsSpec.post enc Tryz.prog Tryz.f3 false true false false) := by
  refine returnsInHanded_of_change (C := Tryz.checked) Tryz.own started (by kernel_rfl) Tryz.func3
    (ChangeSpec.witness6 (enc := enc) (C := Tryz.checked) false ⟨#[], #[.slice none 0 0, .slice none 0 0, .int .i64 0], []⟩ 8 (by kernel_rfl) (by kernel_rfl) (by kernel_rfl) (by kernel_rfl)) ?_
  intro W base args ds gs before hval0 hW hcnd _
  have hval : ∀ (j : Nat) t v, Tryz.f3.params[j]? = some t → args[j]? = some v → Value.okWide Tryz.prog W .any base t v := hval0
  have hW' := hW
  obtain ⟨p, q, hA0, hV, rfl, hfz, hnd⟩ := hW
  have hA : DataW.TrodAll enc Tryz.prog W 0 (fun _ => true) true Tryz.f3.params.toList args.toList ds p := hA0
  rw [Tryz.params3] at hA hval
  obtain ⟨v0, v1, v2, d0, d1, d2, p0, p1, p2, hargs, rfl, rfl, h0, h1, h2⟩ := trodAll_three hA
  obtain ⟨rfl, rfl⟩ := trodVars_none hV
  have hargs' : args = #[v0, v1, v2] := hargs
  subst hargs'
  obtain ⟨a0, ga0, la0, ra0⟩ := Sx.ros_slice (κ := Sx.kBy) Tryz.underlying22 (by kernel_rfl) (Sx.el_stp (rs := [.leaf (.i .i64), .leaf (.i .i64), .leaf (.i .i64), .leaf (.i .i64), .leaf (.i .i64), .leaf (.i .i64), .leaf (.i .i64), .leaf (.i .i64), .leaf (.i .i64), .leaf (.i .i64), .leaf (.i .i64), .leaf (.i .i64), .leaf (.i .i64), .leaf (.i .i64), .leaf (.i .i64), .leaf (.i .i64), .leaf (.i .i64), .leaf (.i .i64), .leaf (.i .i64), .leaf (.i .i64), .leaf (.i .i64), .leaf (.i .i64), .leaf (.i .i64), .sl 50, .leaf (.i .i64), .leaf (.i .i64), .leaf (.i .i64), .leaf (.b), .leaf (.i .i64), .leaf (.b), .leaf (.b)]) 8 (by kernel_rfl) (by kernel_rfl) Tryz.underlying50 (by kernel_rfl) (by kernel_rfl)) (hval 0 22 v0 rfl rfl) h0 (fun y hy => Sx.RT.okT_goodR _ _ y hy)
  obtain ⟨a1, ga1, la1, ra1⟩ := Sx.ros_slice (κ := (.st (.i .i64) [.i .i64, .i .i64, .i .i64, .i .i64, .i .i64, .i .i64, .i .i64, .i .i64, .i .i64, .i .i64, .b, .i .i64, .i .i64, .i .i64, .i .i64, .i .i64, .i .i64])) Tryz.underlying23 (by kernel_rfl) (Sx.el_st 6 (by kernel_rfl)) (hval 1 23 v1 rfl rfl) h1
  obtain ⟨a2, rfl, rfl, rfl, wa2⟩ := open_int Tryz.underlying3 (hval 2 3 v2 rfl rfl) h2
  clear hA0 hval0
  refine (law_run W a0 v0 a1 v1 a2 ⟨⟨la0, fun x hx => Sx.BGood_of (ga0 x hx)⟩, ⟨la1, ga1⟩, Sx.wf64 wa2⟩ ra0 ra1).mono fun e W' ⟨he, hb⟩ => ?_
  subst he
  exact ⟨_, rfl, Sx.post_of_below Tryz.laidOut (by rw [Tryz.params3]; intro t ht; simp at ht; first | (subst ht; exact ⟨by kernel_rfl, of_decide_eq_true (by kernel_rfl)⟩) | (rcases ht with rfl | rfl | rfl | rfl <;> exact ⟨by kernel_rfl, of_decide_eq_true (by kernel_rfl)⟩) | (rcases ht with rfl | rfl | rfl <;> exact ⟨by kernel_rfl, of_decide_eq_true (by kernel_rfl)⟩) | (rcases ht with rfl | rfl <;> exact ⟨by kernel_rfl, of_decide_eq_true (by kernel_rfl)⟩)) rfl (by kernel_rfl) Tryz.underlying4 rfl hW' hb⟩
theorem rowTells_holds : Rows.RowTellsSaid :=
  OpenClaim.holds_of_wide 3 Tryz.f3 rfl rfl rfl rfl rfl rfl rfl ⟨rfl, rfl, rfl, rfl, rfl⟩ rfl rfl rfl rfl rfl (by kernel_rfl) Tryz.func3 (by kernel_rfl)
    (of_decide_eq_true (by kernel_rfl)) (by unfold Func.isWrapper; first | (rw [if_pos (by decide +kernel)]; kernel_rfl) | (rw [if_neg (by decide +kernel)]; exact ⟨rfl, rfl⟩))
    (fun os started H enc _ => rowTells_lifted os started H enc)
end Go.Proofs.YtfkgmidgdpfnkaaGreat
