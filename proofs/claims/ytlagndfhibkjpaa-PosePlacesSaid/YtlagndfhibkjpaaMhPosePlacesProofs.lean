/- PosePlaces: whatever the 3 arguments, the law returns true; the input reads as it did. No condition. -/
import Derived.Test.YtlagndfhibkjpaaMh9
import Derived.Test.YtlagndfhibkjpaaRows
import Derived.SizedLaws
namespace Go.Proofs.Ytlagndfhibkjpaa.Sx
open Go
theorem trod_len {H : Type} {enc : TypeId × Value → H} {P : Program} {W : World} {b : Nat} {sp : Nat → Bool} {hd : Bool} {t e : TypeId} {fuel : Nat} {a : Addr} {len cap : Nat} {x : DataW H × List MemPlace} (ht : P.underlying t = some (.slice e))
    (h : DataW.trod enc P W b sp hd fuel t [.slice (some a) len cap] = some x) (B : Nat) (hB : ∀ n ∈ x.1.weights P t, n ≤ B) : len * P.bytesOf e ≤ B := by
  rcases DataW.trod_slice ht h with ⟨h1, _⟩ | ⟨a', l0, c0, elems, rest, n, _, hcs, hx, _, hl, hm, hlen, _, _, _⟩
  · simp at h1
  · have e1 : l0 = len := by simp at hcs; exact hcs.2.1.symm
    subst hx
    have := hB ((elems.length + rest.length) * P.bytesOf e) (by simp [DataW.weights, ht])
    rw [hlen, e1] at this
    exact Nat.le_trans (Nat.mul_le_mul_right _ (Nat.le_add_right _ _)) this
/-- How long a slice may be that lies in a struct. -/
theorem field_len {H : Type} {enc : TypeId × Value → H} {P : Program} {W : World} {b : Nat} {sp : Nat → Bool} {hd : Bool} {t e : TypeId} {fuel : Nat} {cs : List Value} {x : DataW H × List MemPlace} {fs : Array Field} (i : Nat) {f : Field} (ht : P.underlying t = some (.struct fs))
    (hf : fs[i]? = some f) (hft : P.underlying f.type = some (.slice e)) (h : DataW.trod enc P W b sp hd fuel t cs = some x) {κ : K} {u : Value} {xs : List κ.T} (hu : (cs.drop f.offset).take (P.cellsOf f.type) = [u]) {R : Nat → Prop} (hr : RosOk R W u κ xs) (B : Nat)
    (hB : ∀ n ∈ x.1.weights P t, n ≤ B) : xs.length * P.bytesOf e ≤ B := by
  rcases hr with ⟨rfl, _⟩ | ⟨ad, cap, rfl, _⟩
  · simp
  · obtain ⟨ys, n, _, hx, _, hl, hf'⟩ := DataW.trod_struct ht h
    have h1 := hf' i f hf
    rw [hu] at h1
    have hi : i < fs.size := (Array.getElem?_eq_some_iff.1 hf).1
    have hi' : i < ys.length := by omega
    rw [List.getElem?_eq_getElem hi'] at h1
    refine trod_len hft h1 B (fun n hn => hB n ?_)
    subst hx
    have e2 : DataW.weights P t (.agg (ys.map (·.1))) = DataW.weightsEach P (fs.toList.map (·.type)) (ys.map (·.1)) := by simp [DataW.weights, ht]
    rw [e2]
    exact DataW.weights_mem_each (j := i) (t := f.type) (by rw [List.getElem?_map, Array.getElem?_toList, hf]; rfl) (by rw [List.getElem?_map, List.getElem?_eq_getElem hi']; rfl) n hn
end Go.Proofs.Ytlagndfhibkjpaa.Sx
namespace Go.Proofs.Ytlagndfhibkjpaa
set_option linter.unusedVariables false
open Go.ChangeShapes Go.WideShapes Go.ChangeAt Go.RowKit
theorem Try.own : ownKnob Try.prog.godebug = none := by kernel_rfl
theorem Try.laidOut : laidOutB Try.prog = true := by kernel_rfl
theorem law_run (W : World) (a0_0 : List (Sx.K.T (.st (.i .i64) [.i .i64, .i .i64]))) (va0_0 : Value) (a0_1 : List (Sx.K.T (.st (.i .i64) [.i .i64, .i .i64]))) (va0_1 : Value) (a0_2 : List (Sx.K.T (.st (.i .i64) [.i .i64, .i .i64]))) (va0_2 : Value) (a0_3 : Int) (a1_0 : Int) (a1_1 : Int) (a1_2 : Int) (a1_3 : Int) (a1_4 : Int) (a1_5 : Int) (a1_6 : Int) (a2_0 : Int) (a2_1 : Int) (a2_2 : Int) (hg : (a0_0.length < 8796093022208 ∧ ∀ x ∈ a0_0, (Sx.RT.good (.i .i64) [.i .i64, .i .i64]) x) ∧ (a0_1.length < 8796093022208 ∧ ∀ x ∈ a0_1, (Sx.RT.good (.i .i64) [.i .i64, .i .i64]) x) ∧ (a0_2.length < 8796093022208 ∧ ∀ x ∈ a0_2, (Sx.RT.good (.i .i64) [.i .i64, .i .i64]) x) ∧ (-9223372036854775808 ≤ a0_3 ∧ a0_3 < 9223372036854775808) ∧ (-9223372036854775808 ≤ a1_0 ∧ a1_0 < 9223372036854775808) ∧ (-9223372036854775808 ≤ a1_1 ∧ a1_1 < 9223372036854775808) ∧ (-9223372036854775808 ≤ a1_2 ∧ a1_2 < 9223372036854775808) ∧ (-9223372036854775808 ≤ a1_3 ∧ a1_3 < 9223372036854775808) ∧ (-9223372036854775808 ≤ a1_4 ∧ a1_4 < 9223372036854775808) ∧ (-9223372036854775808 ≤ a1_5 ∧ a1_5 < 9223372036854775808) ∧ (-9223372036854775808 ≤ a1_6 ∧ a1_6 < 9223372036854775808) ∧ (-9223372036854775808 ≤ a2_0 ∧ a2_0 < 9223372036854775808) ∧ (-9223372036854775808 ≤ a2_1 ∧ a2_1 < 9223372036854775808) ∧ (-9223372036854775808 ≤ a2_2 ∧ a2_2 < 9223372036854775808)) (ra0_0 : Sx.RosOk (fun b => b < W.heap.size) W va0_0 (.st (.i .i64) [.i .i64, .i .i64]) a0_0) (ra0_1 : Sx.RosOk (fun b => b < W.heap.size) W va0_1 (.st (.i .i64) [.i .i64, .i .i64]) a0_1) (ra0_2 : Sx.RosOk (fun b => b < W.heap.size) W va0_2 (.st (.i .i64) [.i .i64, .i .i64]) a0_2) : Calls Try.prog 6 #[.agg #[va0_0, va0_1, va0_2, .int .i64 a0_3], .agg #[.int .i64 a1_0, .int .i64 a1_1, .int .i64 a1_2, .int .i64 a1_3, .int .i64 a1_4, .int .i64 a1_5, .int .i64 a1_6], .agg #[.int .i64 a2_0, .int .i64 a2_1, .int .i64 a2_2]] W fun e W' => e = .returned (.bool true) ∧ Below W.heap.size W W' :=
  Sx.law_calls (args := [.agg [.ros va0_0 (.st (.i .i64) [.i .i64, .i .i64]) a0_0, .ros va0_1 (.st (.i .i64) [.i .i64, .i .i64]) a0_1, .ros va0_2 (.st (.i .i64) [.i .i64, .i .i64]) a0_2, .int .i64 a0_3], .agg [.int .i64 a1_0, .int .i64 a1_1, .int .i64 a1_2, .int .i64 a1_3, .int .i64 a1_4, .int .i64 a1_5, .int .i64 a1_6], .agg [.int .i64 a2_0, .int .i64 a2_1, .int .i64 a2_2]]) (Sx.sound_of Sx.pplaces_h_ok (by
    have e : Sx.fEnt (α := Sx.SV × Sx.Hp) Sx.pplaces_sp Sx.pplaces_h [.agg [.ros va0_0 (.st (.i .i64) [.i .i64, .i .i64]) a0_0, .ros va0_1 (.st (.i .i64) [.i .i64, .i .i64]) a0_1, .ros va0_2 (.st (.i .i64) [.i .i64, .i .i64]) a0_2, .int .i64 a0_3], .agg [.int .i64 a1_0, .int .i64 a1_1, .int .i64 a1_2, .int .i64 a1_3, .int .i64 a1_4, .int .i64 a1_5, .int .i64 a1_6], .agg [.int .i64 a2_0, .int .i64 a2_1, .int .i64 a2_2]] [] (fun v H => some (v, H)) = if V.gB ((a0_0.length < 8796093022208 ∧ ∀ x ∈ a0_0, (Sx.RT.good (.i .i64) [.i .i64, .i .i64]) x) ∧ (a0_1.length < 8796093022208 ∧ ∀ x ∈ a0_1, (Sx.RT.good (.i .i64) [.i .i64, .i .i64]) x) ∧ (a0_2.length < 8796093022208 ∧ ∀ x ∈ a0_2, (Sx.RT.good (.i .i64) [.i .i64, .i .i64]) x) ∧ (-9223372036854775808 ≤ a0_3 ∧ a0_3 < 9223372036854775808) ∧ (-9223372036854775808 ≤ a1_0 ∧ a1_0 < 9223372036854775808) ∧ (-9223372036854775808 ≤ a1_1 ∧ a1_1 < 9223372036854775808) ∧ (-9223372036854775808 ≤ a1_2 ∧ a1_2 < 9223372036854775808) ∧ (-9223372036854775808 ≤ a1_3 ∧ a1_3 < 9223372036854775808) ∧ (-9223372036854775808 ≤ a1_4 ∧ a1_4 < 9223372036854775808) ∧ (-9223372036854775808 ≤ a1_5 ∧ a1_5 < 9223372036854775808) ∧ (-9223372036854775808 ≤ a1_6 ∧ a1_6 < 9223372036854775808) ∧ (-9223372036854775808 ≤ a2_0 ∧ a2_0 < 9223372036854775808) ∧ (-9223372036854775808 ≤ a2_1 ∧ a2_1 < 9223372036854775808) ∧ (-9223372036854775808 ≤ a2_2 ∧ a2_2 < 9223372036854775808)) = true then some (.bool true, []) else none := by kernel_rfl
    rw [e, if_pos (Sx.gB_of hg)])) W (fun ρ => by simp [Sx.SV.okL, Sx.SV.ok]; exact ⟨ra0_0, ra0_1, ra0_2⟩)
set_option maxRecDepth 100000 in
theorem posePlaces_lifted (os : Os) (started : os.Started) (H : Type) (enc : TypeId × Value → H) :
    ReturnsInHanded {} Try.checked os 6 .any (Rows.posePlacesSpec.pre6 enc Try.prog Try.f6 Rows.posePlacesRow.domain false) (Rows.posePlacesSpec.post enc Try.prog Try.f6 false true false false) := by
  refine returnsInHanded_of_change_sized (C := Try.checked) Try.own started (by kernel_rfl) Try.func6
    (ChangeSpec.witness6 (enc := enc) (C := Try.checked) false ⟨#[], #[.agg #[.slice none 0 0, .slice none 0 0, .slice none 0 0, .int .i64 0], .agg #[.int .i64 0, .int .i64 0, .int .i64 0, .int .i64 0, .int .i64 0, .int .i64 0, .int .i64 0], .agg #[.int .i64 0, .int .i64 0, .int .i64 0]], []⟩ 8 (by kernel_rfl) (by kernel_rfl) (by kernel_rfl) (by kernel_rfl)) ?_
  intro W base args ds gs before hval0 hW hcnd hsz0 _
  have hval : ∀ (j : Nat) t v, Try.f6.params[j]? = some t → args[j]? = some v → Value.okWide Try.prog W .any base t v := hval0
  have hW' := hW
  obtain ⟨p, q, hA0, hV, rfl, hfz, hnd⟩ := hW
  have hA : DataW.TrodAll enc Try.prog W 0 (fun _ => true) true Try.f6.params.toList args.toList ds p := hA0
  rw [Try.params6] at hA hval
  obtain ⟨v0, v1, v2, d0, d1, d2, p0, p1, p2, hargs, rfl, rfl, h0, h1, h2⟩ := trodAll_three hA
  obtain ⟨rfl, rfl⟩ := trodVars_none hV
  have hargs' : args = #[v0, v1, v2] := hargs
  subst hargs'
  obtain ⟨c0, rfl, m0⟩ := Sx.open_str (ks := [.sl 24, .sl 24, .sl 24, .leaf (.i .i64)]) 6 (by kernel_rfl) (by kernel_rfl) (hval 0 29 v0 rfl rfl) h0
  obtain ⟨ua0_0, c0_0, rfl, ⟨fa0_0, ya0_0, ta0_0⟩, m0_0⟩ := Sx.MtR.cs m0
  obtain ⟨_, ea0_0, a0_0, ga0_0, la0_0, ra0_0⟩ := Sx.ros_trod (κ := (.st (.i .i64) [.i .i64, .i .i64])) Try.underlying24 (by kernel_rfl) (Sx.el_st 6 (by kernel_rfl)) ta0_0
  cases ea0_0
  obtain ⟨ua0_1, c0_1, rfl, ⟨fa0_1, ya0_1, ta0_1⟩, m0_1⟩ := Sx.MtR.cs m0_0
  obtain ⟨_, ea0_1, a0_1, ga0_1, la0_1, ra0_1⟩ := Sx.ros_trod (κ := (.st (.i .i64) [.i .i64, .i .i64])) Try.underlying24 (by kernel_rfl) (Sx.el_st 6 (by kernel_rfl)) ta0_1
  cases ea0_1
  obtain ⟨ua0_2, c0_2, rfl, ⟨fa0_2, ya0_2, ta0_2⟩, m0_2⟩ := Sx.MtR.cs m0_1
  obtain ⟨_, ea0_2, a0_2, ga0_2, la0_2, ra0_2⟩ := Sx.ros_trod (κ := (.st (.i .i64) [.i .i64, .i .i64])) Try.underlying24 (by kernel_rfl) (Sx.el_st 6 (by kernel_rfl)) ta0_2
  cases ea0_2
  obtain ⟨a0_3, c0_3, rfl, wa0_3, m0_3⟩ := Sx.MtR.ci m0_2
  obtain rfl := Sx.MtR.nil m0_3
  obtain ⟨a1, rfl, ga1⟩ := Sx.open_st (k := .i .i64) (ks := [.i .i64, .i .i64, .i .i64, .i .i64, .i .i64, .i .i64]) 6 (by kernel_rfl) (by kernel_rfl) (hval 1 43 v1 rfl rfl) h1
  obtain ⟨a2, rfl, ga2⟩ := Sx.open_st (k := .i .i64) (ks := [.i .i64, .i .i64]) 6 (by kernel_rfl) (by kernel_rfl) (hval 2 23 v2 rfl rfl) h2
  clear hA0 hval0
  obtain ⟨fu0, hf0⟩ := h0
  have hB0 : ∀ n ∈ d0.weights Try.prog 29, n ≤ reachBytes := fun n hn => by
    have := List.all_eq_true.1 hsz0 n (DataW.weights_mem_each (j := 0) rfl rfl n hn)
    simpa using this
  have hb24 : Try.prog.bytesOf 23 = 24 := by kernel_rfl
  have la0_0x : a0_0.length < 8796093022208 := by
    have := Sx.field_len 0 Try.underlying29 rfl Try.underlying24 hf0 rfl ra0_0 reachBytes hB0
    rw [hb24] at this
    unfold reachBytes at this
    omega
  have la0_1x : a0_1.length < 8796093022208 := by
    have := Sx.field_len 1 Try.underlying29 rfl Try.underlying24 hf0 rfl ra0_1 reachBytes hB0
    rw [hb24] at this
    unfold reachBytes at this
    omega
  have la0_2x : a0_2.length < 8796093022208 := by
    have := Sx.field_len 2 Try.underlying29 rfl Try.underlying24 hf0 rfl ra0_2 reachBytes hB0
    rw [hb24] at this
    unfold reachBytes at this
    omega
  refine (law_run W a0_0 ua0_0 a0_1 ua0_1 a0_2 ua0_2 a0_3 a1.1 a1.2.1 a1.2.2.1 a1.2.2.2.1 a1.2.2.2.2.1 a1.2.2.2.2.2.1 a1.2.2.2.2.2.2 a2.1 a2.2.1 a2.2.2 ⟨⟨la0_0x, ga0_0⟩, ⟨la0_1x, ga0_1⟩, ⟨la0_2x, ga0_2⟩, Sx.wf64 wa0_3, Sx.wf64 ga1.1, Sx.wf64 ga1.2.1, Sx.wf64 ga1.2.2.1, Sx.wf64 ga1.2.2.2.1, Sx.wf64 ga1.2.2.2.2.1, Sx.wf64 ga1.2.2.2.2.2.1, Sx.wf64 ga1.2.2.2.2.2.2, Sx.wf64 ga2.1, Sx.wf64 ga2.2.1, Sx.wf64 ga2.2.2⟩ ra0_0 ra0_1 ra0_2).mono fun e W' ⟨he, hb⟩ => ?_
  subst he
  exact ⟨_, rfl, Sx.post_of_below Try.laidOut (by rw [Try.params6]; intro t ht; simp at ht; first | (subst ht; exact ⟨by kernel_rfl, of_decide_eq_true (by kernel_rfl)⟩) | (rcases ht with rfl | rfl | rfl | rfl <;> exact ⟨by kernel_rfl, of_decide_eq_true (by kernel_rfl)⟩) | (rcases ht with rfl | rfl | rfl <;> exact ⟨by kernel_rfl, of_decide_eq_true (by kernel_rfl)⟩) | (rcases ht with rfl | rfl <;> exact ⟨by kernel_rfl, of_decide_eq_true (by kernel_rfl)⟩)) rfl (by kernel_rfl) Try.underlying4 rfl hW' hb⟩
theorem posePlaces_holds : Rows.PosePlacesSaid :=
  OpenClaim.holds_of_wide 6 Try.f6 rfl rfl rfl rfl rfl rfl rfl ⟨rfl, rfl, rfl, rfl, rfl⟩ rfl rfl rfl rfl rfl (by kernel_rfl) Try.func6 (by kernel_rfl)
    (of_decide_eq_true (by kernel_rfl)) (by unfold Func.isWrapper; first | (rw [if_pos (by decide +kernel)]; kernel_rfl) | (rw [if_neg (by decide +kernel)]; exact ⟨rfl, rfl⟩))
    (fun os started H enc _ => posePlaces_lifted os started H enc)
end Go.Proofs.Ytlagndfhibkjpaa
