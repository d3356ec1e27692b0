/- shape, plainly: raw shapes made right. -/
import Derived.Test.YtkjellhkamfciaaShQ
import Derived.Test.YtkjellhkamfciaaSxLaw
namespace Go.Proofs.Ytkjellhkamfciaa.Sx
open Go
set_option linter.unusedVariables false
set_option linter.unusedSimpArgs false
def Rr (n : Int) : Prop := -9223372036854775808 ≤ n ∧ n < 9223372036854775808
theorem pick_val {c n : Int} (hc : Rr c) (hn : 0 < n ∧ n < 9223372036854775808) : V.lpick_g c n = true ∧ 0 ≤ V.lpick_r0 c n ∧ V.lpick_r0 c n < n := by
  unfold Rr at hc
  have h0 : ¬ n = 0 := by omega
  unfold V.lpick_g V.lpick_r0
  simp only [cLt_eq, if_neg h0, ite_self, true_and]
  by_cases h : c < 0
  · rw [if_pos (by simpa using h), IntWalk.i64_in (c + 1) (by omega), IntWalk.i64_in (0 - (c + 1)) (by omega)]
    rw [Int.tmod_eq_emod_of_nonneg (by omega)]
    exact ⟨Int.emod_nonneg _ h0, Int.emod_lt_of_pos _ hn.1⟩
  · rw [if_neg (by simpa using h)]
    rw [Int.tmod_eq_emod_of_nonneg (by omega)]
    exact ⟨Int.emod_nonneg _ h0, Int.emod_lt_of_pos _ hn.1⟩
theorem part_val {c n : Int} (hc : Rr c) (hn : 0 ≤ n ∧ n ≤ 1152921504606846976) : V.lpart_g c n = true ∧ -n ≤ V.lpart_r0 c n ∧ V.lpart_r0 c n ≤ n := by
  have e : IntKind.wrap .i64 (IntKind.wrap .i64 (2 * n) + 1) = 2 * n + 1 := by
    rw [IntWalk.i64_in (2 * n) (by omega), IntWalk.i64_in _ (by omega)]
  obtain ⟨p1, p2, p3⟩ := pick_val (n := 2 * n + 1) hc (by omega)
  unfold V.lpart_g V.lpart_r0
  rw [e, if_pos p1, if_pos p1, IntWalk.i64_in _ (by omega)]
  exact ⟨rfl, by omega, by omega⟩
/-- A raw point as one that may be. -/
noncomputable def partP (p : P3) : P3 := (V.lpart_r0 p.1 65536, V.lpart_r0 p.2.1 65536, V.lpart_r0 p.2.2 65536)
def RP (p : P3) : Prop := Rr p.1 ∧ Rr p.2.1 ∧ Rr p.2.2
noncomputable def kd (k : Int) : Int := 1 + V.lpick_r0 k 4
noncomputable def rad (r : Int) : Int := 1 + V.lpick_r0 r 16384
noncomputable def hlf (h : Int) : Int := 1 + V.lpick_r0 h 65536
noncomputable def pts0 (k : Int) (l : List P3) : List P3 := if kd k = 4 then (l.take 12).map partP else []
noncomputable def chk0 (k r hx hy hz : Int) (l : List P3) : Int := chkP (kd k) (rad r) (hlf hx) (hlf hy) (hlf hz) (pts0 k l)
noncomputable def rgKP (k r hx hy hz : Int) (l : List P3) : Int := if kd k = 4 ∧ chk0 k r hx hy hz l ≠ 0 then 3 else kd k
noncomputable def rgPP (k r hx hy hz : Int) (l : List P3) : List P3 := if kd k = 4 ∧ chk0 k r hx hy hz l ≠ 0 then [] else pts0 k l
theorem kd_val {k : Int} (h : Rr k) : 1 ≤ kd k ∧ kd k ≤ 4 := by obtain ⟨_, p2, p3⟩ := pick_val (n := 4) h (by omega); unfold kd; omega
theorem rad_val {k : Int} (h : Rr k) : 1 ≤ rad k ∧ rad k ≤ 16384 := by obtain ⟨_, p2, p3⟩ := pick_val (n := 16384) h (by omega); unfold rad; omega
theorem hlf_val {k : Int} (h : Rr k) : 1 ≤ hlf k ∧ hlf k ≤ 65536 := by obtain ⟨_, p2, p3⟩ := pick_val (n := 65536) h (by omega); unfold hlf; omega
theorem right_ok {k r hx hy hz : Int} {l : List P3} (h1 : Rr k) (h2 : Rr r) (h3 : Rr hx) (h4 : Rr hy) (h5 : Rr hz) :
    chkP (rgKP k r hx hy hz l) (rad r) (hlf hx) (hlf hy) (hlf hz) (rgPP k r hx hy hz l) = 0 := by
  have a1 := kd_val h1
  have a2 := rad_val h2
  have a3 := hlf_val h3
  have a4 := hlf_val h4
  have a5 := hlf_val h5
  unfold rgKP rgPP
  split
  · unfold chkP
    rw [if_neg (by decide), if_neg (by decide), if_pos rfl, if_pos (by simp [inZ]; omega)]
  · rename_i hc
    by_cases h4' : kd k = 4
    · apply Classical.byContradiction
      intro hn
      exact hc ⟨h4', hn⟩
    · have : kd k = 1 ∨ kd k = 2 ∨ kd k = 3 := by omega
      unfold chkP
      rcases this with e | e | e <;> rw [e]
      · rw [if_pos rfl, if_pos (by simp [inZ]; omega)]
      · rw [if_neg (by decide), if_pos rfl, if_pos (by simp [inZ]; omega)]
      · rw [if_neg (by decide), if_neg (by decide), if_pos rfl, if_pos (by simp [inZ]; omega)]
theorem right_kind {k r hx hy hz : Int} {l : List P3} (h1 : Rr k) : 1 ≤ rgKP k r hx hy hz l ∧ rgKP k r hx hy hz l ≤ 4 := by
  have a1 := kd_val h1
  unfold rgKP
  split <;> omega
theorem pts0_len (k : Int) (l : List P3) : (pts0 k l).length ≤ 12 := by
  unfold pts0
  split
  · rw [List.length_map, List.length_take]; omega
  · simp
theorem rgPP_len (k r hx hy hz : Int) (l : List P3) : (rgPP k r hx hy hz l).length ≤ 12 := by
  unfold rgPP
  split
  · simp
  · exact pts0_len k l
/-! Lists without doubles. -/
theorem nodup_le : ∀ {l t : List P3}, l.Nodup → (∀ a ∈ l, a ∈ t) → l.length ≤ t.length
  | [], t, _, _ => by simp
  | a :: l, t, hn, h => by
    rw [List.nodup_cons] at hn
    have ha := h a (by simp)
    have h1 := List.length_erase_of_mem ha
    have h2 : 0 < t.length := List.length_pos_of_mem ha
    have := nodup_le (t := t.erase a) hn.2 fun b hb => by
      have hne : b ≠ a := fun e => hn.1 (e ▸ hb)
      exact (List.mem_erase_of_ne hne).2 (h b (by simp [hb]))
    simp only [List.length_cons]
    omega
theorem faces_len {l : List P3} (hl : l.length ≤ 12) : (facesP l).1.length ≤ 7000 ∧ (facesP l).2.length ≤ 7000 := by
  have := iF_len l hl l.length 0 ([], [])
  unfold facesP
  unfold sz2 at this
  simp only [List.length_nil] at this
  omega
theorem corA_len (k r hx hy hz : Int) (l : List P3) : (V.corA k r hx hy hz l).length ≤ 7000 ∧ (V.corE k r hx hy hz l).length ≤ 7000 ∧ (V.corP k r hx hy hz l).length ≤ 12 := by
  unfold V.corA V.corE V.corP
  simp only [hid_eq]
  by_cases hc : chkP k r hx hy hz l = 0
  · simp only [if_pos hc]
    refine ⟨?_, ?_, (corPP_pos hc).2.1⟩
    · unfold corAP
      rcases chk_range hc with ⟨rfl, _⟩ | ⟨rfl, _⟩ | ⟨rfl, _⟩ | ⟨rfl, _, h, _⟩ <;> simp
      exact (faces_len h.2).1
    · unfold corEP
      rcases chk_range hc with ⟨rfl, _⟩ | ⟨rfl, _⟩ | ⟨rfl, _⟩ | ⟨rfl, _, h, _⟩ <;> simp
      exact (faces_len h.2).2
  · simp [hc]
noncomputable def _root_.Go.Proofs.Ytkjellhkamfciaa.V.rgK (k r hx hy hz : Int) (l : List P3) : Int := hid (rgKP k r hx hy hz l)
noncomputable def _root_.Go.Proofs.Ytkjellhkamfciaa.V.rgR (r : Int) : Int := hid (rad r)
noncomputable def _root_.Go.Proofs.Ytkjellhkamfciaa.V.rgH (h : Int) : Int := hid (hlf h)
noncomputable def _root_.Go.Proofs.Ytkjellhkamfciaa.V.rgP (k r hx hy hz : Int) (l : List P3) : List P3 := hid (rgPP k r hx hy hz l)
theorem pick_lt {c n : Int} (h : 0 ≤ c ∧ c < n) (hn : n < 9223372036854775808) : V.lpick_r0 c n = c := by
  unfold V.lpick_r0
  rw [cLt_eq, if_neg (by simp; omega), if_neg (by omega), Int.tmod_eq_emod_of_nonneg h.1, Int.emod_eq_of_lt h.1 h.2]
theorem good_rp {p : P3} (h : RT.good (.i .i64) [.i .i64, .i .i64] p) : RP p := ⟨wf64 h.1, wf64 h.2.1, wf64 h.2.2⟩
end Go.Proofs.Ytkjellhkamfciaa.Sx
