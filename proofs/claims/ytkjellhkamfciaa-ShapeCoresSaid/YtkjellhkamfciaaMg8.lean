/- Texts of the walk, merged. -/
import Derived.Test.YtkjellhkamfciaaMg7
section
/- the document's cores, half widths, masses. -/
namespace Go.Proofs.Ytkjellhkamfciaa.Sx
open Go
set_option maxRecDepth 20000
set_option linter.unusedVariables false
set_option linter.unusedSimpArgs false
noncomputable def look_SrI_radd {α : Type} : LookF α := addFn 43 (fEnt radd_sp radd_h) look_dhull
theorem look_SrI_radd_ok {α : Type} : LookOk E.P (look_SrI_radd (α := α)) := addFn_ok radd_h_ok (look_dhull_ok)
noncomputable def look_SrI_rmul2 {α : Type} : LookF α := addFn 41 (fEnt rmul2_sp rmul2_h) look_SrI_radd
theorem look_SrI_rmul2_ok {α : Type} : LookOk E.P (look_SrI_rmul2 (α := α)) := addFn_ok rmul2_h_ok (look_SrI_radd_ok)
noncomputable def look_SrI_rratio {α : Type} : LookF α := addFn 40 (fEnt rratio_sp rratio_h) look_SrI_rmul2
theorem look_SrI_rratio_ok {α : Type} : LookOk E.P (look_SrI_rratio (α := α)) := addFn_ok rratio_h_ok (look_SrI_rmul2_ok)
noncomputable abbrev dcore_S1 (y1 y2 y3 y4 y5 y6 : Int) (y7 : Value) (y8 : L3) (y9 : Int) (y10 y11 y12 : L3) (y13 : Int) (y14 y15 y16 : L3) : St := St.mk (none :: some (SV.ptr (nat_lit 0) (nat_lit 0)) :: some (SV.ptr (nat_lit 1) (nat_lit 0)) :: none :: none :: some (SV.ptr (nat_lit 5) (nat_lit 0)) :: some (SV.int .i64 y1) :: nn 98 ([])) [.cells [SV.int .i64 y2, SV.int .i64 y3, SV.int .i64 y4, SV.int .i64 y5, SV.int .i64 y6, SV.ros y7 kP y8] (nat_lit 26), .cells [SV.sl (nat_lit 2), SV.sl (nat_lit 3), SV.sl (nat_lit 4), SV.int .i64 y9] (nat_lit 31), .seq kP y10 (nat_lit 23), .seq kP y11 (nat_lit 23), .seq kP y12 (nat_lit 23), .cells [SV.sl (nat_lit 6), SV.sl (nat_lit 7), SV.sl (nat_lit 8), SV.int .i64 y13] (nat_lit 31), .seq kP y14 (nat_lit 23), .seq kP y15 (nat_lit 23), .seq kP y16 (nat_lit 23)]
noncomputable abbrev dcore_S2 (y1 : Int) (y2 y3 y4 : L3) (y5 : Int) (y6 y7 y8 : L3) : St := St.mk (none :: none :: some (SV.ptr (nat_lit 0) (nat_lit 0)) :: none :: none :: some (SV.ptr (nat_lit 4) (nat_lit 0)) :: nn 99 ([])) [.cells [SV.sl (nat_lit 1), SV.sl (nat_lit 2), SV.sl (nat_lit 3), SV.int .i64 y1] (nat_lit 31), .seq kP y2 (nat_lit 23), .seq kP y3 (nat_lit 23), .seq kP y4 (nat_lit 23), .cells [SV.sl (nat_lit 5), SV.sl (nat_lit 6), SV.sl (nat_lit 7), SV.int .i64 y5] (nat_lit 31), .seq kP y6 (nat_lit 23), .seq kP y7 (nat_lit 23), .seq kP y8 (nat_lit 23)]
noncomputable abbrev dcore_S3 : St := St.mk (none :: some (SV.ptr (nat_lit 0) (nat_lit 0)) :: some (SV.ptr (nat_lit 1) (nat_lit 0)) :: none :: none :: some (SV.ptr (nat_lit 5) (nat_lit 0)) :: some (SV.int .i64 (0 : Int)) :: nn 98 ([])) [.cells [SV.int .i64 (0 : Int), SV.int .i64 (0 : Int), SV.int .i64 (0 : Int), SV.int .i64 (0 : Int), SV.int .i64 (0 : Int), SV.ros undef kP []] (nat_lit 26), .cells [SV.sl (nat_lit 2), SV.sl (nat_lit 3), SV.sl (nat_lit 4), SV.int .i64 (0 : Int)] (nat_lit 31), .seq kP [] (nat_lit 23), .seq kP [] (nat_lit 23), .seq kP [] (nat_lit 23), .cells [SV.sl (nat_lit 6), SV.sl (nat_lit 7), SV.sl (nat_lit 8), SV.int .i64 (0 : Int)] (nat_lit 31), .seq kP [] (nat_lit 23), .seq kP [] (nat_lit 23), .seq kP [] (nat_lit 23)]
abbrev dcore_P1 : List Bool := [false, true, false, false, true, true, true, true, true, false, true, false, true, true, true, true]
noncomputable def _root_.Go.Proofs.Ytkjellhkamfciaa.M.dcore_l0_step {α : Type} (x20 : Int) (x21 : Int) (x22 : Int) (kn : Int → L3 → Option α) (k1 : L3 → Option α) (x17 : Int) (x30 : L3) : Option α :=
  if cLt x17 (8 : Int) = true then
  if (List.length x30 + ((0 : Nat) + (1 : Nat))) * (24 : Nat) ≤ (140737488355328 : Nat) then
    kn (IntKind.wrap .i64 (x17 + (1 : Int)))
      (x30 ++ [(IntKind.wrap .i64 (IntKind.wrap .i64 (IntKind.wrap .i64 (IntKind.wrap .i64 (Int.tdiv x17 (4 : Int)) * (2 : Int)) - (1 : Int)) * x20), IntKind.wrap .i64 (IntKind.wrap .i64 (IntKind.wrap .i64 (Int.tmod (IntKind.wrap .i64 (Int.tdiv x17 (2 : Int))) (2 : Int) * (2 : Int)) - (1 : Int)) * x21), IntKind.wrap .i64 (IntKind.wrap .i64 (IntKind.wrap .i64 (Int.tmod x17 (2 : Int) * (2 : Int)) - (1 : Int)) * x22))])
  else none
else k1 x30
noncomputable def _root_.Go.Proofs.Ytkjellhkamfciaa.M.dcore_l0 {α : Type} (x20 : Int) (x21 : Int) (x22 : Int) (k1 : L3 → Option α) : Nat → Int → L3 → Option α
  | 0, _, _ => none
  | n + 1, x17, x30 => M.dcore_l0_step x20 x21 x22 (M.dcore_l0 x20 x21 x22 k1 n) k1 x17 x30
theorem dcore_l0_step_eq {α : Type} (x17 : Int) (x18 : Int) (x19 : Int) (x20 : Int) (x21 : Int) (x22 : Int) (x23 : Value) (x24 : L3) (x25 : Int) (x26 : L3) (x27 : L3) (x28 : L3) (x29 : Int) (x30 : L3) (x31 : L3) (x32 : L3) (Q : Ex → St → Option α) : (loopStep E (exec E look_SrI_rratio noLps 400) 14 dcore_P1 0 (codeAt E.P 14 dcore_P1)) (dcore_S1 x17 x18 x19 x20 x21 x22 x23 x24 x25 x26 x27 x28 x29 x30 x31 x32) Q = M.dcore_l0_step x20 x21 x22 (fun (x34 : Int) (x35 : L3) => Q .normal (dcore_S1 x34 x18 x19 x20 x21 x22 x23 x24 x25 x26 x27 x28 x29 x35 x31 x32)) (fun (x33 : L3) => Q (.exit 1) (dcore_S2 x25 x26 x27 x28 x29 x33 x31 x32)) x17 x30 := by kernel_rfl
theorem dcore_l0_iter {α : Type} (x18 : Int) (x19 : Int) (x20 : Int) (x21 : Int) (x22 : Int) (x23 : Value) (x24 : L3) (x25 : Int) (x26 : L3) (x27 : L3) (x28 : L3) (x29 : Int) (x31 : L3) (x32 : L3) (Q : Ex → St → Option α) : ∀ (n : Nat) (x17 : Int) (x30 : L3), iter (loopStep E (exec E look_SrI_rratio noLps 400) 14 dcore_P1 0 (codeAt E.P 14 dcore_P1)) n (dcore_S1 x17 x18 x19 x20 x21 x22 x23 x24 x25 x26 x27 x28 x29 x30 x31 x32) Q = M.dcore_l0 x20 x21 x22 (fun (x33 : L3) => Q (.exit 1) (dcore_S2 x25 x26 x27 x28 x29 x33 x31 x32)) n x17 x30
  | 0, _, _ => rfl
  | n + 1, x17, x30 => (dcore_l0_step_eq x17 x18 x19 x20 x21 x22 x23 x24 x25 x26 x27 x28 x29 x30 x31 x32 (iterK (loopStep E (exec E look_SrI_rratio noLps 400) 14 dcore_P1 0 (codeAt E.P 14 dcore_P1)) n Q)).trans (congrArg (fun kn => M.dcore_l0_step x20 x21 x22 kn (fun (x33 : L3) => Q (.exit 1) (dcore_S2 x25 x26 x27 x28 x29 x33 x31 x32)) x17 x30) (funext fun x17 => funext fun x30 => dcore_l0_iter x18 x19 x20 x21 x22 x23 x24 x25 x26 x27 x28 x29 x31 x32 Q n x17 x30))
noncomputable def dcore_l0_go {α : Type} (ds : List D) (Q : Ex → St → Option α) : Option α :=
  dI ds fun x17 ds => dI ds fun x18 ds => dI ds fun x19 ds => dI ds fun x20 ds => dI ds fun x21 ds => dI ds fun x22 ds => dV ds fun x23 ds => dL kP ds fun x24 ds => dI ds fun x25 ds => dL kP ds fun x26 ds => dL kP ds fun x27 ds => dL kP ds fun x28 ds => dI ds fun x29 ds => dL kP ds fun x30 ds => dL kP ds fun x31 ds => dL kP ds fun x32 ds => dE ds (M.dcore_l0 x20 x21 x22 (fun (x33 : L3) => Q (.exit 1) (dcore_S2 x25 x26 x27 x28 x29 x33 x31 x32)) (100 + x24.length + x26.length + x27.length + x28.length + x30.length + x31.length + x32.length) x17 x30)
theorem dcore_l0_ok {α : Type} : LoopOk E.P 14 dcore_P1 0 (lEnt (α := α) (dcore_S3) dcore_l0_go) :=
  lEnt_ok E (exec_sound E E_ok (look_SrI_rratio_ok) (noLps_ok _) 400) fun ds Q r h S hS => by
    unfold dcore_l0_go at h
    obtain ⟨x17, ds, rfl, h1⟩ := dI_inv h
    obtain ⟨x18, ds, rfl, h2⟩ := dI_inv h1
    obtain ⟨x19, ds, rfl, h3⟩ := dI_inv h2
    obtain ⟨x20, ds, rfl, h4⟩ := dI_inv h3
    obtain ⟨x21, ds, rfl, h5⟩ := dI_inv h4
    obtain ⟨x22, ds, rfl, h6⟩ := dI_inv h5
    obtain ⟨x23, ds, rfl, h7⟩ := dV_inv h6
    obtain ⟨x24, ds, rfl, h8⟩ := dL_inv h7
    obtain ⟨x25, ds, rfl, h9⟩ := dI_inv h8
    obtain ⟨x26, ds, rfl, h10⟩ := dL_inv h9
    obtain ⟨x27, ds, rfl, h11⟩ := dL_inv h10
    obtain ⟨x28, ds, rfl, h12⟩ := dL_inv h11
    obtain ⟨x29, ds, rfl, h13⟩ := dI_inv h12
    obtain ⟨x30, ds, rfl, h14⟩ := dL_inv h13
    obtain ⟨x31, ds, rfl, h15⟩ := dL_inv h14
    obtain ⟨x32, ds, rfl, h16⟩ := dL_inv h15
    obtain ⟨rfl, hE⟩ := dE_inv h16
    have e : fillS (dcore_S3) [.i x17, .i x18, .i x19, .i x20, .i x21, .i x22, .v x23, .l kP x24, .i x25, .l kP x26, .l kP x27, .l kP x28, .i x29, .l kP x30, .l kP x31, .l kP x32] = some (dcore_S1 x17 x18 x19 x20 x21 x22 x23 x24 x25 x26 x27 x28 x29 x30 x31 x32) := by kernel_rfl
    rw [e] at hS
    cases hS
    exact ⟨_, (dcore_l0_iter x18 x19 x20 x21 x22 x23 x24 x25 x26 x27 x28 x29 x31 x32 Q _ x17 x30).trans hE⟩
noncomputable def dcore_l0_lps {α : Type} : LookL α := addLp 14 dcore_P1 0 (lEnt (dcore_S3) dcore_l0_go) noLps
theorem dcore_l0_lps_ok {α : Type} : LoopsOk E.P (dcore_l0_lps (α := α)) := addLp_ok dcore_l0_ok (noLps_ok _)

noncomputable def _root_.Go.Proofs.Ytkjellhkamfciaa.M.dcore {α : Type} (k : Int) (r : Int) (hx : Int) (hy : Int) (hz : Int) (l : L3) (k0 : Int → Int → L3 → L3 → L3 → Option α) : Option α :=
  if (!cEq (V.chk k r hx hy hz l) (0 : Int)) = true then k0 (0 : Int) (V.chk k r hx hy hz l) [] [] []
else
  if cEq k (1 : Int) = true then k0 r (0 : Int) [((0 : Int), (0 : Int), (0 : Int))] [] []
  else
    if cEq k (2 : Int) = true then k0 r (0 : Int) [(IntKind.wrap .i64 ((0 : Int) - hx), (0 : Int), (0 : Int)), (hx, (0 : Int), (0 : Int))] [] [((1 : Int), (0 : Int), (0 : Int))]
    else
      if cEq k (3 : Int) = true then M.dcore_l0 hx hy hz (fun (x37 : L3) ↦ k0 r (0 : Int) x37 [((1 : Int), (0 : Int), (0 : Int)), ((0 : Int), (1 : Int), (0 : Int)), ((0 : Int), (0 : Int), (1 : Int))] [((1 : Int), (0 : Int), (0 : Int)), ((0 : Int), (1 : Int), (0 : Int)), ((0 : Int), (0 : Int), (1 : Int))]) ((100 : Nat) + List.length l + (0 : Nat) + (0 : Nat) + (0 : Nat) + (0 : Nat) + (0 : Nat) + (0 : Nat)) (0 : Int) []
      else if ((0 : Nat) + List.length l) * (24 : Nat) ≤ (140737488355328 : Nat) then if V.hulG l = true then k0 r (0 : Int) ([] ++ l) (Prod.fst (V.hulP l)) (Prod.snd (V.hulP l)) else none else none
theorem dcore_eq {α : Type} (k : Int) (r : Int) (hx : Int) (hy : Int) (hz : Int) (l : L3) (v36 : Value) (Q : SV → Hp → Option α) : callI E look_SrI_rratio (exec E look_SrI_rratio dcore_l0_lps 400) 14 ([SV.agg [SV.int .i64 k, SV.int .i64 r, SV.int .i64 hx, SV.int .i64 hy, SV.int .i64 hz, SV.ros v36 kP l]]) ([]) Q = M.dcore k r hx hy hz l (fun (x38 : Int) (x39 : Int) (x40 : L3) (x41 : L3) (x42 : L3) => Q (SV.tup [SV.agg [SV.sl (nat_lit 0), SV.sl (nat_lit 1), SV.sl (nat_lit 2), SV.int .i64 x38], SV.int .i64 x39]) ([.seq kP x40 (nat_lit 23), .seq kP x41 (nat_lit 23), .seq kP x42 (nat_lit 23)])) := by kernel_rfl
def dcore_sp : List AS := [.st [.leaf (.int .i64 0), .leaf (.int .i64 0), .leaf (.int .i64 0), .leaf (.int .i64 0), .leaf (.int .i64 0), .ro (.st (.i .i64) [.i .i64, .i .i64])]]
theorem dbrick_val {α : Type} (hx hy hz : Int) (x1 : -65536 ≤ hx ∧ hx ≤ 65536) (y1 : -65536 ≤ hy ∧ hy ≤ 65536) (z1 : -65536 ≤ hz ∧ hz ≤ 65536) (k1 : List P3 → Option α) (fuel : Nat) (hf : 9 ≤ fuel) :
    M.dcore_l0 hx hy hz k1 fuel 0 [] = k1 (brickP hx hy hz) := by
  obtain ⟨f, rfl⟩ : ∃ f, fuel = f + 9 := ⟨fuel - 9, by omega⟩
  have w : ∀ n : Int, 0 ≤ n → n ≤ 8 → IntKind.wrap .i64 (n + 1) = n + 1 := by intro n h1 h2; exact IntWalk.i64_in _ (by omega)
  have q : ∀ (m n : Nat), m < 100 → n < 10 → (m + n) * 24 ≤ 140737488355328 := by intro m n h1 h2; omega
  have nx : IntKind.wrap .i64 (-1 * hx) = -hx := by rw [IntWalk.i64_in _ (by omega)]; omega
  have ny : IntKind.wrap .i64 (-1 * hy) = -hy := by rw [IntWalk.i64_in _ (by omega)]; omega
  have nz : IntKind.wrap .i64 (-1 * hz) = -hz := by rw [IntWalk.i64_in _ (by omega)]; omega
  have px : IntKind.wrap .i64 (1 * hx) = hx := by rw [IntWalk.i64_in _ (by omega)]; omega
  have py : IntKind.wrap .i64 (1 * hy) = hy := by rw [IntWalk.i64_in _ (by omega)]; omega
  have pz : IntKind.wrap .i64 (1 * hz) = hz := by rw [IntWalk.i64_in _ (by omega)]; omega
  have st : ∀ (i : Int) (n : Nat) (X : List P3) (a b c : Int), 0 ≤ i → i < 8 → X.length < 20 →
      IntKind.wrap .i64 (IntKind.wrap .i64 (IntKind.wrap .i64 (Int.tdiv i (4 : Int)) * (2 : Int)) - (1 : Int)) = a →
      IntKind.wrap .i64 (IntKind.wrap .i64 (Int.tmod (IntKind.wrap .i64 (Int.tdiv i (2 : Int))) (2 : Int) * (2 : Int)) - (1 : Int)) = b →
      IntKind.wrap .i64 (IntKind.wrap .i64 (Int.tmod i (2 : Int) * (2 : Int)) - (1 : Int)) = c →
      M.dcore_l0 hx hy hz k1 (n + 1) i X = M.dcore_l0 hx hy hz k1 n (i + 1) (X ++ [(IntKind.wrap .i64 (a * hx), IntKind.wrap .i64 (b * hy), IntKind.wrap .i64 (c * hz))]) := by
    intro i n X a b c h0 h8 hX ha hb hc
    show M.dcore_l0_step hx hy hz (M.dcore_l0 hx hy hz k1 n) k1 i X = _
    unfold M.dcore_l0_step
    rw [if_pos (by rw [cLt_eq]; simpa using h8), if_pos (q _ _ (by omega) (by decide)), w i h0 (by omega), ha, hb, hc]
  rw [st 0 (f + 8) [] (-1) (-1) (-1) (by decide) (by decide) (by decide) (by decide) (by decide) (by decide)]
  rw [st _ (f + 7) _ (-1) (-1) 1 (by decide) (by decide) (by simp) (by decide) (by decide) (by decide)]
  rw [st _ (f + 6) _ (-1) 1 (-1) (by decide) (by decide) (by simp) (by decide) (by decide) (by decide)]
  rw [st _ (f + 5) _ (-1) 1 1 (by decide) (by decide) (by simp) (by decide) (by decide) (by decide)]
  rw [st _ (f + 4) _ 1 (-1) (-1) (by decide) (by decide) (by simp) (by decide) (by decide) (by decide)]
  rw [st _ (f + 3) _ 1 (-1) 1 (by decide) (by decide) (by simp) (by decide) (by decide) (by decide)]
  rw [st _ (f + 2) _ 1 1 (-1) (by decide) (by decide) (by simp) (by decide) (by decide) (by decide)]
  rw [st _ (f + 1) _ 1 1 1 (by decide) (by decide) (by simp) (by decide) (by decide) (by decide)]
  show M.dcore_l0_step hx hy hz (M.dcore_l0 hx hy hz k1 f) k1 _ _ = _
  unfold M.dcore_l0_step
  rw [if_neg (by rw [cLt_eq]; decide), nx, ny, nz, px, py, pz]
  rfl
theorem dcore_v {α : Type} (k r hx hy hz : Int) (l : List P3) (k0 : Int → Int → List P3 → List P3 → List P3 → Option α) :
    M.dcore k r hx hy hz l k0 = k0 (V.corR k r hx hy hz l) (V.chk k r hx hy hz l) (V.corP k r hx hy hz l) (V.corA k r hx hy hz l) (V.corE k r hx hy hz l) := by
  unfold M.dcore V.corR V.corP V.corA V.corE V.chk V.hulP
  simp only [hid_eq, cEq_eq]
  by_cases hc : chkP k r hx hy hz l = 0
  · simp only [hc, beq_self_eq_true, Bool.not_true, Bool.false_eq_true, if_false, if_true, beq_iff_eq]
    rcases chk_range hc with ⟨rfl, h1⟩ | ⟨rfl, h1, h2⟩ | ⟨rfl, h1, h2, h3, h4⟩ | ⟨rfl, h1, h2, h3, h4⟩
    · rfl
    · have wx : IntKind.wrap .i64 (0 - hx) = -hx := by rw [IntWalk.i64_in _ (by omega)]; omega
      simp only [wx]
      rfl
    · simp only [Int.reduceEq, if_false, if_true]
      rw [dbrick_val hx hy hz (by omega) (by omega) (by omega) _ _ (by omega)]
      rfl
    · simp only [Int.reduceEq, if_false, if_true]
      have hG : V.hulG l = true := gB_of h2.2
      rw [if_pos (by omega), if_pos hG]
      rfl
  · simp [hc]
noncomputable def dcore_h {α : Type} (ds : List D) (Q : SV → Hp → Option α) : Option α :=
  dI ds fun k ds => dI ds fun r ds => dI ds fun hx ds => dI ds fun hy ds => dI ds fun hz ds => dL kP ds fun l ds => dE ds (Q (.tup [.agg [.sl 0, .sl 1, .sl 2, .int .i64 (V.corR k r hx hy hz l)], .int .i64 (V.chk k r hx hy hz l)]) ([.seq (.st (.i .i64) [.i .i64, .i .i64]) (V.corP k r hx hy hz l) 23, .seq (.st (.i .i64) [.i .i64, .i .i64]) (V.corA k r hx hy hz l) 23, .seq (.st (.i .i64) [.i .i64, .i .i64]) (V.corE k r hx hy hz l) 23]))
theorem dcore_h_ok {α : Type} : FnOk E.P 14 (fEnt (α := α) dcore_sp dcore_h) :=
  fEntR_ok E (look_SrI_rratio_ok) (exec_sound E E_ok (look_SrI_rratio_ok) (dcore_l0_lps_ok) 400) fun ds Q r h => by
    unfold dcore_h at h
    obtain ⟨k, ds, rfl, h1⟩ := dI_inv h
    obtain ⟨r, ds, rfl, h2⟩ := dI_inv h1
    obtain ⟨hx, ds, rfl, h3⟩ := dI_inv h2
    obtain ⟨hy, ds, rfl, h4⟩ := dI_inv h3
    obtain ⟨hz, ds, rfl, h5⟩ := dI_inv h4
    obtain ⟨l, ds, rfl, h6⟩ := dL_inv h5
    obtain ⟨rfl, hE⟩ := dE_inv h6
    exact ⟨_, _, hE, fun vs => ⟨_, _, by kernel_rfl, (dcore_eq k r hx hy hz l ((cellsV (vs.headD undef)).tail.tail.tail.tail.tail.headD undef) _).trans (dcore_v k r hx hy hz l _)⟩⟩
noncomputable def look_dcore {α : Type} : LookF α := addFn 14 (fEnt dcore_sp dcore_h) look_SrI_rratio
theorem look_dcore_ok {α : Type} : LookOk E.P (look_dcore (α := α)) := addFn_ok dcore_h_ok (look_SrI_rratio_ok)
noncomputable abbrev dhalf_S1 (y1 : Value) (y2 : List Int) (y3 y4 y5 y6 : Int) : St := St.mk (some (SV.ros y1 (K.int IntKind.i64) y2) :: some (SV.int .i64 y3) :: nn 3 (some (SV.int .i64 y4) :: some (SV.int .i64 y5) :: some (SV.int .i64 y6) :: nn 31 ([]))) []
noncomputable abbrev dhalf_S2 (y1 y2 y3 : Int) : St := St.mk (none :: some (SV.int .i64 y1) :: nn 3 (some (SV.int .i64 y2) :: some (SV.int .i64 y3) :: nn 32 ([]))) []
noncomputable abbrev dhalf_S3 : St := St.mk (some (SV.ros undef (K.int IntKind.i64) []) :: some (SV.int .i64 (0 : Int)) :: nn 3 (some (SV.int .i64 (0 : Int)) :: some (SV.int .i64 (0 : Int)) :: some (SV.int .i64 (0 : Int)) :: nn 31 ([]))) []
abbrev dhalf_P1 : List Bool := [false, true, false, true, true, true]
noncomputable def _root_.Go.Proofs.Ytkjellhkamfciaa.M.dhalf_l0_step {α : Type} (x51 : List Int) (kn : Int → Int → Int → Option α) (k1 : Int → Int → Option α) (x53 : Int) (x54 : Int) (x55 : Int) : Option α :=
  if cLt x55 (↑(List.length x51) : Int) = true then if (0 : Int) ≤ x55 ∧ x55 < (↑(List.length x51) : Int) then if (0 : Int) ≤ x55 ∧ x55 < (↑(List.length x51) : Int) then kn (if List.getD x51 (Int.toNat x55) (0 : Int) < x53 then List.getD x51 (Int.toNat x55) (0 : Int) else x53) (if List.getD x51 (Int.toNat x55) (0 : Int) > x54 then List.getD x51 (Int.toNat x55) (0 : Int) else x54) (IntKind.wrap .i64 (x55 + (1 : Int))) else none else none else k1 x53 x54
noncomputable def _root_.Go.Proofs.Ytkjellhkamfciaa.M.dhalf_l0 {α : Type} (x51 : List Int) (k1 : Int → Int → Option α) : Nat → Int → Int → Int → Option α
  | 0, _, _, _ => none
  | n + 1, x53, x54, x55 => M.dhalf_l0_step x51 (M.dhalf_l0 x51 k1 n) k1 x53 x54 x55
theorem dhalf_l0_step_eq {α : Type} (x50 : Value) (x51 : List Int) (x52 : Int) (x53 : Int) (x54 : Int) (x55 : Int) (Q : Ex → St → Option α) : (loopStep E (exec E look_dcore noLps 400) 42 dhalf_P1 0 (codeAt E.P 42 dhalf_P1)) (dhalf_S1 x50 x51 x52 x53 x54 x55) Q = M.dhalf_l0_step x51 (fun (x58 : Int) (x59 : Int) (x60 : Int) => Q .normal (dhalf_S1 x50 x51 x52 x58 x59 x60)) (fun (x56 : Int) (x57 : Int) => Q (.exit 0) (dhalf_S2 x52 x56 x57)) x53 x54 x55 := by kernel_rfl
theorem dhalf_l0_iter {α : Type} (x50 : Value) (x51 : List Int) (x52 : Int) (Q : Ex → St → Option α) : ∀ (n : Nat) (x53 : Int) (x54 : Int) (x55 : Int), iter (loopStep E (exec E look_dcore noLps 400) 42 dhalf_P1 0 (codeAt E.P 42 dhalf_P1)) n (dhalf_S1 x50 x51 x52 x53 x54 x55) Q = M.dhalf_l0 x51 (fun (x56 : Int) (x57 : Int) => Q (.exit 0) (dhalf_S2 x52 x56 x57)) n x53 x54 x55
  | 0, _, _, _ => rfl
  | n + 1, x53, x54, x55 => (dhalf_l0_step_eq x50 x51 x52 x53 x54 x55 (iterK (loopStep E (exec E look_dcore noLps 400) 42 dhalf_P1 0 (codeAt E.P 42 dhalf_P1)) n Q)).trans (congrArg (fun kn => M.dhalf_l0_step x51 kn (fun (x56 : Int) (x57 : Int) => Q (.exit 0) (dhalf_S2 x52 x56 x57)) x53 x54 x55) (funext fun x53 => funext fun x54 => funext fun x55 => dhalf_l0_iter x50 x51 x52 Q n x53 x54 x55))
noncomputable def dhalf_l0_go {α : Type} (ds : List D) (Q : Ex → St → Option α) : Option α :=
  dV ds fun x50 ds => dL (K.int IntKind.i64) ds fun x51 ds => dI ds fun x52 ds => dI ds fun x53 ds => dI ds fun x54 ds => dI ds fun x55 ds => dE ds (M.dhalf_l0 x51 (fun (x56 : Int) (x57 : Int) => Q (.exit 0) (dhalf_S2 x52 x56 x57)) (100 + x51.length) x53 x54 x55)
theorem dhalf_l0_ok {α : Type} : LoopOk E.P 42 dhalf_P1 0 (lEnt (α := α) (dhalf_S3) dhalf_l0_go) :=
  lEnt_ok E (exec_sound E E_ok (look_dcore_ok) (noLps_ok _) 400) fun ds Q r h S hS => by
    unfold dhalf_l0_go at h
    obtain ⟨x50, ds, rfl, h1⟩ := dV_inv h
    obtain ⟨x51, ds, rfl, h2⟩ := dL_inv h1
    obtain ⟨x52, ds, rfl, h3⟩ := dI_inv h2
    obtain ⟨x53, ds, rfl, h4⟩ := dI_inv h3
    obtain ⟨x54, ds, rfl, h5⟩ := dI_inv h4
    obtain ⟨x55, ds, rfl, h6⟩ := dI_inv h5
    obtain ⟨rfl, hE⟩ := dE_inv h6
    have e : fillS (dhalf_S3) [.v x50, .l (K.int IntKind.i64) x51, .i x52, .i x53, .i x54, .i x55] = some (dhalf_S1 x50 x51 x52 x53 x54 x55) := by kernel_rfl
    rw [e] at hS
    cases hS
    exact ⟨_, (dhalf_l0_iter x50 x51 x52 Q _ x53 x54 x55).trans hE⟩
noncomputable def dhalf_l0_lps {α : Type} : LookL α := addLp 42 dhalf_P1 0 (lEnt (dhalf_S3) dhalf_l0_go) noLps
theorem dhalf_l0_lps_ok {α : Type} : LoopsOk E.P (dhalf_l0_lps (α := α)) := addLp_ok dhalf_l0_ok (noLps_ok _)

noncomputable def _root_.Go.Proofs.Ytkjellhkamfciaa.M.dhalf {α : Type} (l : List Int) (r : Int) (k0 : Int → Option α) : Option α :=
  if (0 : Int) ≤ (0 : Int) ∧ (0 : Int) < (↑(List.length l) : Int) then if (0 : Int) ≤ (0 : Int) ∧ (0 : Int) < (↑(List.length l) : Int) then M.dhalf_l0 l (fun (x62 x63 : Int) ↦ k0 (IntKind.wrap .i64 (IntKind.wrap .i64 (IntKind.wrap .i64 (Int.tdiv (IntKind.wrap .i64 (x63 - x62)) (2 : Int)) + r) * (1048576 : Int)))) ((100 : Nat) + List.length l) (List.getD l (0 : Nat) (0 : Int)) (List.getD l (0 : Nat) (0 : Int)) (0 : Int) else none else none
theorem dhalf_eq {α : Type} (l : List Int) (r : Int) (v61 : Value) (Q : SV → Hp → Option α) : callI E look_dcore (exec E look_dcore dhalf_l0_lps 400) 42 ([SV.ros v61 (K.int IntKind.i64) l, SV.int .i64 r]) ([]) Q = M.dhalf l r (fun (x64 : Int) => Q (SV.int .i64 x64) ([])) := by kernel_rfl
def dhalf_sp : List AS := [.ro (.int .i64), .val (.int .i64 0)]
def loI (l : List Int) (m : Int) : Int := l.foldl (fun m p => if p < m then p else m) m
def hiI (l : List Int) (m : Int) : Int := l.foldl (fun m p => if p > m then p else m) m
theorem loI_map (f : P3 → Int) (l : List P3) (m : Int) : loI (l.map f) m = loF f l m := by unfold loI loF; rw [List.foldl_map]
theorem hiI_map (f : P3 → Int) (l : List P3) (m : Int) : hiI (l.map f) m = hiF f l m := by unfold hiI hiF; rw [List.foldl_map]
theorem drop_int (l : List Int) (i : Nat) (h : i < l.length) : l.drop i = l.getD i 0 :: l.drop (i + 1) := by
  rw [List.drop_eq_getElem_cons h, List.getD_eq_getElem?_getD, List.getElem?_eq_getElem h]; rfl
theorem dhalf_l0_val {α : Type} (l : List Int) (hl : l.length < 1099511627776) (k1 : Int → Int → Option α) : ∀ (fuel i : Nat) (lo hi : Int), i ≤ l.length → l.length - i < fuel →
    M.dhalf_l0 l k1 fuel lo hi (i : Int) = k1 (loI (l.drop i) lo) (hiI (l.drop i) hi)
  | 0, i, lo, hi, h1, h2 => by omega
  | f + 1, i, lo, hi, h1, h2 => by
    unfold M.dhalf_l0 M.dhalf_l0_step
    rw [cLt_nat]
    by_cases hx : i < l.length
    · rw [w_next (by omega), dhalf_l0_val l hl k1 f (i + 1) _ _ (by omega) (by omega)]
      simp only [hx, decide_true, if_true, inB hx, toNat_nat]
      rw [drop_int l i hx]
      rfl
    · have : i = l.length := by omega
      subst this
      simp [loI, hiI]
noncomputable def _root_.Go.Proofs.Ytkjellhkamfciaa.V.hfG (l : List Int) : Bool := V.gB (0 < l.length ∧ l.length < 1099511627776)
noncomputable def _root_.Go.Proofs.Ytkjellhkamfciaa.V.hfI (l : List Int) (r : Int) : Int := hid (IntKind.wrap .i64 (IntKind.wrap .i64 (IntKind.wrap .i64 (Int.tdiv (IntKind.wrap .i64 (hiI l (l.getD 0 0) - loI l (l.getD 0 0))) 2) + r) * 1048576))
theorem dhalf_v {α : Type} (l : List Int) (r : Int) (hg : V.hfG l = true) (k0 : Int → Option α) : M.dhalf l r k0 = k0 (V.hfI l r) := by
  obtain ⟨h1, h2⟩ := gB_iff hg
  unfold M.dhalf V.hfI
  rw [if_pos (by omega), if_pos (by omega), hid_eq]
  refine Eq.trans (dhalf_l0_val l h2 _ _ 0 _ _ (by omega) (by omega)) ?_
  rfl
noncomputable def dhalf_h {α : Type} (ds : List D) (Q : SV → Hp → Option α) : Option α :=
  dL (K.int IntKind.i64) ds fun l ds => dI ds fun r ds => dE ds (if V.hfG l = true then Q (.int .i64 (V.hfI l r)) ([]) else none)
theorem dhalf_h_ok {α : Type} : FnOk E.P 42 (fEnt (α := α) dhalf_sp dhalf_h) :=
  fEntR_ok E (look_dcore_ok) (exec_sound E E_ok (look_dcore_ok) (dhalf_l0_lps_ok) 400) fun ds Q r h => by
    unfold dhalf_h at h
    obtain ⟨l, ds, rfl, h1⟩ := dL_inv h
    obtain ⟨r, ds, rfl, h2⟩ := dI_inv h1
    obtain ⟨rfl, hE⟩ := dE_inv h2
    split at hE
    · rename_i hg
      exact ⟨_, _, hE, fun vs => ⟨_, _, by kernel_rfl, (dhalf_eq l r (vs.headD undef) _).trans (dhalf_v l r hg _)⟩⟩
    · cases hE
noncomputable def look_dhalf {α : Type} : LookF α := addFn 42 (fEnt dhalf_sp dhalf_h) look_dcore
theorem look_dhalf_ok {α : Type} : LookOk E.P (look_dhalf (α := α)) := addFn_ok dhalf_h_ok (look_dcore_ok)
noncomputable abbrev dmass_S1 (y1 y2 y3 y4 y5 y6 y7 : Int) (y8 : Value) (y9 : L3) (y10 y11 y12 y13 y14 : Int) (y15 y16 y17 : L3) (y18 : Bool) (y19 y20 y21 : List Int) : St := St.mk (none :: some (SV.int .i64 y1) :: some (SV.ptr (nat_lit 0) (nat_lit 0)) :: none :: some (SV.ptr (nat_lit 1) (nat_lit 0)) :: none :: some (SV.ptr (nat_lit 2) (nat_lit 0)) :: none :: some (SV.ptr (nat_lit 6) (nat_lit 0)) :: nn 3 (some (SV.sl (nat_lit 7)) :: some (SV.sl (nat_lit 8)) :: some (SV.sl (nat_lit 9)) :: some (SV.int .i64 y2) :: nn 158 ([]))) [.cells [SV.int .i64 y3, SV.int .i64 y4, SV.int .i64 y5, SV.int .i64 y6, SV.int .i64 y7, SV.ros y8 kP y9] (nat_lit 26), .cells [SV.int .i64 y10, SV.int .i64 y11, SV.int .i64 y12, SV.int .i64 y13] (nat_lit 36), .cells [SV.sl (nat_lit 3), SV.sl (nat_lit 4), SV.sl (nat_lit 5), SV.int .i64 y14] (nat_lit 31), .seq kP y15 (nat_lit 23), .seq kP y16 (nat_lit 23), .seq kP y17 (nat_lit 23), .cells [SV.bool y18] (nat_lit 68), .seq (K.int IntKind.i64) y19 (nat_lit 3), .seq (K.int IntKind.i64) y20 (nat_lit 3), .seq (K.int IntKind.i64) y21 (nat_lit 3)]
noncomputable abbrev dmass_S2 (y1 y2 y3 y4 y5 y6 : Int) (y7 : Value) (y8 : L3) (y9 y10 y11 y12 : Int) (y13 : Bool) (y14 y15 y16 : List Int) : St := St.mk (none :: some (SV.int .i64 y1) :: some (SV.ptr (nat_lit 0) (nat_lit 0)) :: none :: some (SV.ptr (nat_lit 1) (nat_lit 0)) :: nn 3 (some (SV.ptr (nat_lit 2) (nat_lit 0)) :: nn 3 (some (SV.sl (nat_lit 3)) :: some (SV.sl (nat_lit 4)) :: some (SV.sl (nat_lit 5)) :: nn 159 ([])))) [.cells [SV.int .i64 y2, SV.int .i64 y3, SV.int .i64 y4, SV.int .i64 y5, SV.int .i64 y6, SV.ros y7 kP y8] (nat_lit 26), .cells [SV.int .i64 y9, SV.int .i64 y10, SV.int .i64 y11, SV.int .i64 y12] (nat_lit 36), .cells [SV.bool y13] (nat_lit 68), .seq (K.int IntKind.i64) y14 (nat_lit 3), .seq (K.int IntKind.i64) y15 (nat_lit 3), .seq (K.int IntKind.i64) y16 (nat_lit 3)]
noncomputable abbrev dmass_S3 : St := St.mk (none :: some (SV.int .i64 (0 : Int)) :: some (SV.ptr (nat_lit 0) (nat_lit 0)) :: none :: some (SV.ptr (nat_lit 1) (nat_lit 0)) :: none :: some (SV.ptr (nat_lit 2) (nat_lit 0)) :: none :: some (SV.ptr (nat_lit 6) (nat_lit 0)) :: nn 3 (some (SV.sl (nat_lit 7)) :: some (SV.sl (nat_lit 8)) :: some (SV.sl (nat_lit 9)) :: some (SV.int .i64 (0 : Int)) :: nn 158 ([]))) [.cells [SV.int .i64 (0 : Int), SV.int .i64 (0 : Int), SV.int .i64 (0 : Int), SV.int .i64 (0 : Int), SV.int .i64 (0 : Int), SV.ros undef kP []] (nat_lit 26), .cells [SV.int .i64 (0 : Int), SV.int .i64 (0 : Int), SV.int .i64 (0 : Int), SV.int .i64 (0 : Int)] (nat_lit 36), .cells [SV.sl (nat_lit 3), SV.sl (nat_lit 4), SV.sl (nat_lit 5), SV.int .i64 (0 : Int)] (nat_lit 31), .seq kP [] (nat_lit 23), .seq kP [] (nat_lit 23), .seq kP [] (nat_lit 23), .cells [SV.bool false] (nat_lit 68), .seq (K.int IntKind.i64) [] (nat_lit 3), .seq (K.int IntKind.i64) [] (nat_lit 3), .seq (K.int IntKind.i64) [] (nat_lit 3)]
noncomputable abbrev dmass_S4 (y1 y2 y3 y4 y5 y6 : Int) (y7 : Bool) (y8 y9 : List Int) : St := St.mk (none :: some (SV.int .i64 y1) :: none :: none :: some (SV.ptr (nat_lit 0) (nat_lit 0)) :: nn 3 (some (SV.ptr (nat_lit 1) (nat_lit 0)) :: nn 7 (some (SV.sl (nat_lit 2)) :: some (SV.sl (nat_lit 3)) :: some (SV.int .i64 y2) :: nn 155 ([])))) [.cells [SV.int .i64 y3, SV.int .i64 y4, SV.int .i64 y5, SV.int .i64 y6] (nat_lit 36), .cells [SV.bool y7] (nat_lit 68), .seq (K.int IntKind.i64) y8 (nat_lit 3), .seq (K.int IntKind.i64) y9 (nat_lit 3)]
noncomputable abbrev dmass_S5 (y1 y2 y3 y4 y5 : Int) (y6 : Bool) (y7 : List Int) : St := St.mk (none :: some (SV.int .i64 y1) :: none :: none :: some (SV.ptr (nat_lit 0) (nat_lit 0)) :: nn 3 (some (SV.ptr (nat_lit 1) (nat_lit 0)) :: nn 8 (some (SV.sl (nat_lit 2)) :: nn 156 ([])))) [.cells [SV.int .i64 y2, SV.int .i64 y3, SV.int .i64 y4, SV.int .i64 y5] (nat_lit 36), .cells [SV.bool y6] (nat_lit 68), .seq (K.int IntKind.i64) y7 (nat_lit 3)]
noncomputable abbrev dmass_S6 : St := St.mk (none :: some (SV.int .i64 (0 : Int)) :: none :: none :: some (SV.ptr (nat_lit 0) (nat_lit 0)) :: nn 3 (some (SV.ptr (nat_lit 1) (nat_lit 0)) :: nn 7 (some (SV.sl (nat_lit 2)) :: some (SV.sl (nat_lit 3)) :: some (SV.int .i64 (0 : Int)) :: nn 155 ([])))) [.cells [SV.int .i64 (0 : Int), SV.int .i64 (0 : Int), SV.int .i64 (0 : Int), SV.int .i64 (0 : Int)] (nat_lit 36), .cells [SV.bool false] (nat_lit 68), .seq (K.int IntKind.i64) [] (nat_lit 3), .seq (K.int IntKind.i64) [] (nat_lit 3)]
abbrev dmass_P1 : List Bool := [false, true, false, true, true, true, true, true, true, true, true, false, true, true, true, true, true, true]
abbrev dmass_P2 : List Bool := [false, true, false, true, true, true, true, true, false, true, true, true, true, true, true]
noncomputable def _root_.Go.Proofs.Ytkjellhkamfciaa.M.dmass_l0_step {α : Type} (x101 : L3) (kn : Int → List Int → List Int → List Int → Option α) (k1 : List Int → List Int → List Int → Option α) (x88 : Int) (x105 : List Int) (x106 : List Int) (x107 : List Int) : Option α :=
  if cLt x88 (↑(List.length x101) : Int) = true then
  if (0 : Int) ≤ x88 ∧ x88 < (↑(List.length x101) : Int) then
    if (List.length x105 + ((0 : Nat) + (1 : Nat))) * (8 : Nat) ≤ (140737488355328 : Nat) then
      if (0 : Int) ≤ x88 ∧ x88 < (↑(List.length x101) : Int) then
        if (List.length x106 + ((0 : Nat) + (1 : Nat))) * (8 : Nat) ≤ (140737488355328 : Nat) then
          if (0 : Int) ≤ x88 ∧ x88 < (↑(List.length x101) : Int) then
            if (List.length x107 + ((0 : Nat) + (1 : Nat))) * (8 : Nat) ≤ (140737488355328 : Nat) then kn (IntKind.wrap .i64 (x88 + (1 : Int))) (x105 ++ [Prod.fst (List.getD x101 (Int.toNat x88) ((0 : Int), (0 : Int), (0 : Int)))]) (x106 ++ [Prod.fst (Prod.snd (List.getD x101 (Int.toNat x88) ((0 : Int), (0 : Int), (0 : Int))))]) (x107 ++ [Prod.snd (Prod.snd (List.getD x101 (Int.toNat x88) ((0 : Int), (0 : Int), (0 : Int))))]) else none
          else none
        else none
      else none
    else none
  else none
else k1 x105 x106 x107
noncomputable def _root_.Go.Proofs.Ytkjellhkamfciaa.M.dmass_l0 {α : Type} (x101 : L3) (k1 : List Int → List Int → List Int → Option α) : Nat → Int → List Int → List Int → List Int → Option α
  | 0, _, _, _, _ => none
  | n + 1, x88, x105, x106, x107 => M.dmass_l0_step x101 (M.dmass_l0 x101 k1 n) k1 x88 x105 x106 x107
theorem dmass_l0_step_eq {α : Type} (x87 : Int) (x88 : Int) (x89 : Int) (x90 : Int) (x91 : Int) (x92 : Int) (x93 : Int) (x94 : Value) (x95 : L3) (x96 : Int) (x97 : Int) (x98 : Int) (x99 : Int) (x100 : Int) (x101 : L3) (x102 : L3) (x103 : L3) (x104 : Bool) (x105 : List Int) (x106 : List Int) (x107 : List Int) (Q : Ex → St → Option α) : (loopStep E (exec E look_dhalf noLps 400) 16 dmass_P2 0 (codeAt E.P 16 dmass_P2)) (dmass_S1 x87 x88 x89 x90 x91 x92 x93 x94 x95 x96 x97 x98 x99 x100 x101 x102 x103 x104 x105 x106 x107) Q = M.dmass_l0_step x101 (fun (x111 : Int) (x112 : List Int) (x113 : List Int) (x114 : List Int) => Q .normal (dmass_S1 x87 x111 x89 x90 x91 x92 x93 x94 x95 x96 x97 x98 x99 x100 x101 x102 x103 x104 x112 x113 x114)) (fun (x108 : List Int) (x109 : List Int) (x110 : List Int) => Q (.exit 0) (dmass_S2 x87 x89 x90 x91 x92 x93 x94 x95 x96 x97 x98 x99 x104 x108 x109 x110)) x88 x105 x106 x107 := by kernel_rfl
theorem dmass_l0_iter {α : Type} (x87 : Int) (x89 : Int) (x90 : Int) (x91 : Int) (x92 : Int) (x93 : Int) (x94 : Value) (x95 : L3) (x96 : Int) (x97 : Int) (x98 : Int) (x99 : Int) (x100 : Int) (x101 : L3) (x102 : L3) (x103 : L3) (x104 : Bool) (Q : Ex → St → Option α) : ∀ (n : Nat) (x88 : Int) (x105 : List Int) (x106 : List Int) (x107 : List Int), iter (loopStep E (exec E look_dhalf noLps 400) 16 dmass_P2 0 (codeAt E.P 16 dmass_P2)) n (dmass_S1 x87 x88 x89 x90 x91 x92 x93 x94 x95 x96 x97 x98 x99 x100 x101 x102 x103 x104 x105 x106 x107) Q = M.dmass_l0 x101 (fun (x108 : List Int) (x109 : List Int) (x110 : List Int) => Q (.exit 0) (dmass_S2 x87 x89 x90 x91 x92 x93 x94 x95 x96 x97 x98 x99 x104 x108 x109 x110)) n x88 x105 x106 x107
  | 0, _, _, _, _ => rfl
  | n + 1, x88, x105, x106, x107 => (dmass_l0_step_eq x87 x88 x89 x90 x91 x92 x93 x94 x95 x96 x97 x98 x99 x100 x101 x102 x103 x104 x105 x106 x107 (iterK (loopStep E (exec E look_dhalf noLps 400) 16 dmass_P2 0 (codeAt E.P 16 dmass_P2)) n Q)).trans (congrArg (fun kn => M.dmass_l0_step x101 kn (fun (x108 : List Int) (x109 : List Int) (x110 : List Int) => Q (.exit 0) (dmass_S2 x87 x89 x90 x91 x92 x93 x94 x95 x96 x97 x98 x99 x104 x108 x109 x110)) x88 x105 x106 x107) (funext fun x88 => funext fun x105 => funext fun x106 => funext fun x107 => dmass_l0_iter x87 x89 x90 x91 x92 x93 x94 x95 x96 x97 x98 x99 x100 x101 x102 x103 x104 Q n x88 x105 x106 x107))
noncomputable def dmass_l0_go {α : Type} (ds : List D) (Q : Ex → St → Option α) : Option α :=
  dI ds fun x87 ds => dI ds fun x88 ds => dI ds fun x89 ds => dI ds fun x90 ds => dI ds fun x91 ds => dI ds fun x92 ds => dI ds fun x93 ds => dV ds fun x94 ds => dL kP ds fun x95 ds => dI ds fun x96 ds => dI ds fun x97 ds => dI ds fun x98 ds => dI ds fun x99 ds => dI ds fun x100 ds => dL kP ds fun x101 ds => dL kP ds fun x102 ds => dL kP ds fun x103 ds => dB ds fun x104 ds => dL (K.int IntKind.i64) ds fun x105 ds => dL (K.int IntKind.i64) ds fun x106 ds => dL (K.int IntKind.i64) ds fun x107 ds => dE ds (M.dmass_l0 x101 (fun (x108 : List Int) (x109 : List Int) (x110 : List Int) => Q (.exit 0) (dmass_S2 x87 x89 x90 x91 x92 x93 x94 x95 x96 x97 x98 x99 x104 x108 x109 x110)) (100 + x95.length + x101.length + x102.length + x103.length + x105.length + x106.length + x107.length) x88 x105 x106 x107)
theorem dmass_l0_ok {α : Type} : LoopOk E.P 16 dmass_P2 0 (lEnt (α := α) (dmass_S3) dmass_l0_go) :=
  lEnt_ok E (exec_sound E E_ok (look_dhalf_ok) (noLps_ok _) 400) fun ds Q r h S hS => by
    unfold dmass_l0_go at h
    obtain ⟨x87, ds, rfl, h1⟩ := dI_inv h
    obtain ⟨x88, ds, rfl, h2⟩ := dI_inv h1
    obtain ⟨x89, ds, rfl, h3⟩ := dI_inv h2
    obtain ⟨x90, ds, rfl, h4⟩ := dI_inv h3
    obtain ⟨x91, ds, rfl, h5⟩ := dI_inv h4
    obtain ⟨x92, ds, rfl, h6⟩ := dI_inv h5
    obtain ⟨x93, ds, rfl, h7⟩ := dI_inv h6
    obtain ⟨x94, ds, rfl, h8⟩ := dV_inv h7
    obtain ⟨x95, ds, rfl, h9⟩ := dL_inv h8
    obtain ⟨x96, ds, rfl, h10⟩ := dI_inv h9
    obtain ⟨x97, ds, rfl, h11⟩ := dI_inv h10
    obtain ⟨x98, ds, rfl, h12⟩ := dI_inv h11
    obtain ⟨x99, ds, rfl, h13⟩ := dI_inv h12
    obtain ⟨x100, ds, rfl, h14⟩ := dI_inv h13
    obtain ⟨x101, ds, rfl, h15⟩ := dL_inv h14
    obtain ⟨x102, ds, rfl, h16⟩ := dL_inv h15
    obtain ⟨x103, ds, rfl, h17⟩ := dL_inv h16
    obtain ⟨x104, ds, rfl, h18⟩ := dB_inv h17
    obtain ⟨x105, ds, rfl, h19⟩ := dL_inv h18
    obtain ⟨x106, ds, rfl, h20⟩ := dL_inv h19
    obtain ⟨x107, ds, rfl, h21⟩ := dL_inv h20
    obtain ⟨rfl, hE⟩ := dE_inv h21
    have e : fillS (dmass_S3) [.i x87, .i x88, .i x89, .i x90, .i x91, .i x92, .i x93, .v x94, .l kP x95, .i x96, .i x97, .i x98, .i x99, .i x100, .l kP x101, .l kP x102, .l kP x103, .b x104, .l (K.int IntKind.i64) x105, .l (K.int IntKind.i64) x106, .l (K.int IntKind.i64) x107] = some (dmass_S1 x87 x88 x89 x90 x91 x92 x93 x94 x95 x96 x97 x98 x99 x100 x101 x102 x103 x104 x105 x106 x107) := by kernel_rfl
    rw [e] at hS
    cases hS
    exact ⟨_, (dmass_l0_iter x87 x89 x90 x91 x92 x93 x94 x95 x96 x97 x98 x99 x100 x101 x102 x103 x104 Q _ x88 x105 x106 x107).trans hE⟩
noncomputable def dmass_l0_lps {α : Type} : LookL α := addLp 16 dmass_P2 0 (lEnt (dmass_S3) dmass_l0_go) noLps
theorem dmass_l0_lps_ok {α : Type} : LoopsOk E.P (dmass_l0_lps (α := α)) := addLp_ok dmass_l0_ok (noLps_ok _)

noncomputable def _root_.Go.Proofs.Ytkjellhkamfciaa.M.dmass_l1_step {α : Type} (x128 : Int) (x135 : List Int) (kn : Int → Bool → List Int → Option α) (k1 : Bool → List Int → Option α) (x129 : Int) (x134 : Bool) (x136 : List Int) : Option α :=
  if cLt x129 (3 : Int) = true then
  if (0 : Int) ≤ x129 ∧ x129 < (↑(List.length x135) : Int) then
    if (0 : Int) ≤ x129 ∧ x129 < (↑(List.length x135) : Int) then
      if (List.length x136 + ((0 : Nat) + (1 : Nat))) * (8 : Nat) ≤ (140737488355328 : Nat) then
        kn (IntKind.wrap .i64 (x129 + (1 : Int))) (V.gn (V.mMul x128 (V.gv (V.mMul (List.getD x135 (Int.toNat x129) (0 : Int)) (List.getD x135 (Int.toNat x129) (0 : Int))))) (V.gn (V.mMul (List.getD x135 (Int.toNat x129) (0 : Int)) (List.getD x135 (Int.toNat x129) (0 : Int))) x134)) (x136 ++ [V.gv (V.mMul x128 (V.gv (V.mMul (List.getD x135 (Int.toNat x129) (0 : Int)) (List.getD x135 (Int.toNat x129) (0 : Int)))))])
      else none
    else none
  else none
else k1 x134 x136
noncomputable def _root_.Go.Proofs.Ytkjellhkamfciaa.M.dmass_l1 {α : Type} (x128 : Int) (x135 : List Int) (k1 : Bool → List Int → Option α) : Nat → Int → Bool → List Int → Option α
  | 0, _, _, _ => none
  | n + 1, x129, x134, x136 => M.dmass_l1_step x128 x135 (M.dmass_l1 x128 x135 k1 n) k1 x129 x134 x136
theorem dmass_l1_step_eq {α : Type} (x128 : Int) (x129 : Int) (x130 : Int) (x131 : Int) (x132 : Int) (x133 : Int) (x134 : Bool) (x135 : List Int) (x136 : List Int) (Q : Ex → St → Option α) : (loopStep E (exec E look_dhalf dmass_l0_lps 400) 16 dmass_P1 0 (codeAt E.P 16 dmass_P1)) (dmass_S4 x128 x129 x130 x131 x132 x133 x134 x135 x136) Q = M.dmass_l1_step x128 x135 (fun (x139 : Int) (x140 : Bool) (x141 : List Int) => Q .normal (dmass_S4 x128 x139 x130 x131 x132 x133 x140 x135 x141)) (fun (x137 : Bool) (x138 : List Int) => Q (.exit 2) (dmass_S5 x128 x130 x131 x132 x133 x137 x138)) x129 x134 x136 := by kernel_rfl
theorem dmass_l1_iter {α : Type} (x128 : Int) (x130 : Int) (x131 : Int) (x132 : Int) (x133 : Int) (x135 : List Int) (Q : Ex → St → Option α) : ∀ (n : Nat) (x129 : Int) (x134 : Bool) (x136 : List Int), iter (loopStep E (exec E look_dhalf dmass_l0_lps 400) 16 dmass_P1 0 (codeAt E.P 16 dmass_P1)) n (dmass_S4 x128 x129 x130 x131 x132 x133 x134 x135 x136) Q = M.dmass_l1 x128 x135 (fun (x137 : Bool) (x138 : List Int) => Q (.exit 2) (dmass_S5 x128 x130 x131 x132 x133 x137 x138)) n x129 x134 x136
  | 0, _, _, _ => rfl
  | n + 1, x129, x134, x136 => (dmass_l1_step_eq x128 x129 x130 x131 x132 x133 x134 x135 x136 (iterK (loopStep E (exec E look_dhalf dmass_l0_lps 400) 16 dmass_P1 0 (codeAt E.P 16 dmass_P1)) n Q)).trans (congrArg (fun kn => M.dmass_l1_step x128 x135 kn (fun (x137 : Bool) (x138 : List Int) => Q (.exit 2) (dmass_S5 x128 x130 x131 x132 x133 x137 x138)) x129 x134 x136) (funext fun x129 => funext fun x134 => funext fun x136 => dmass_l1_iter x128 x130 x131 x132 x133 x135 Q n x129 x134 x136))
noncomputable def dmass_l1_go {α : Type} (ds : List D) (Q : Ex → St → Option α) : Option α :=
  dI ds fun x128 ds => dI ds fun x129 ds => dI ds fun x130 ds => dI ds fun x131 ds => dI ds fun x132 ds => dI ds fun x133 ds => dB ds fun x134 ds => dL (K.int IntKind.i64) ds fun x135 ds => dL (K.int IntKind.i64) ds fun x136 ds => dE ds (M.dmass_l1 x128 x135 (fun (x137 : Bool) (x138 : List Int) => Q (.exit 2) (dmass_S5 x128 x130 x131 x132 x133 x137 x138)) (100 + x135.length + x136.length) x129 x134 x136)
theorem dmass_l1_ok {α : Type} : LoopOk E.P 16 dmass_P1 0 (lEnt (α := α) (dmass_S6) dmass_l1_go) :=
  lEnt_ok E (exec_sound E E_ok (look_dhalf_ok) (dmass_l0_lps_ok) 400) fun ds Q r h S hS => by
    unfold dmass_l1_go at h
    obtain ⟨x128, ds, rfl, h1⟩ := dI_inv h
    obtain ⟨x129, ds, rfl, h2⟩ := dI_inv h1
    obtain ⟨x130, ds, rfl, h3⟩ := dI_inv h2
    obtain ⟨x131, ds, rfl, h4⟩ := dI_inv h3
    obtain ⟨x132, ds, rfl, h5⟩ := dI_inv h4
    obtain ⟨x133, ds, rfl, h6⟩ := dI_inv h5
    obtain ⟨x134, ds, rfl, h7⟩ := dB_inv h6
    obtain ⟨x135, ds, rfl, h8⟩ := dL_inv h7
    obtain ⟨x136, ds, rfl, h9⟩ := dL_inv h8
    obtain ⟨rfl, hE⟩ := dE_inv h9
    have e : fillS (dmass_S6) [.i x128, .i x129, .i x130, .i x131, .i x132, .i x133, .b x134, .l (K.int IntKind.i64) x135, .l (K.int IntKind.i64) x136] = some (dmass_S4 x128 x129 x130 x131 x132 x133 x134 x135 x136) := by kernel_rfl
    rw [e] at hS
    cases hS
    exact ⟨_, (dmass_l1_iter x128 x130 x131 x132 x133 x135 Q _ x129 x134 x136).trans hE⟩
noncomputable def dmass_l1_lps {α : Type} : LookL α := addLp 16 dmass_P1 0 (lEnt (dmass_S6) dmass_l1_go) dmass_l0_lps
theorem dmass_l1_lps_ok {α : Type} : LoopsOk E.P (dmass_l1_lps (α := α)) := addLp_ok dmass_l1_ok (dmass_l0_lps_ok)

noncomputable def _root_.Go.Proofs.Ytkjellhkamfciaa.M.dmass {α : Type} (k : Int) (r : Int) (hx : Int) (hy : Int) (hz : Int) (l : L3) (m : Int) (k0 : Int → Int → Int → Int → Int → Option α) : Option α :=
  if (!cEq (V.chk k r hx hy hz l) (0 : Int)) = true then k0 (0 : Int) (0 : Int) (0 : Int) (0 : Int) (V.chk k r hx hy hz l)
else
  if cLt m (16777216 : Int) = true then k0 (0 : Int) (0 : Int) (0 : Int) (0 : Int) (120 : Int)
  else
    if cLt (1099511627776 : Int) m = true then k0 (0 : Int) (0 : Int) (0 : Int) (0 : Int) (120 : Int)
    else
      if cEq k (1 : Int) = true then
        if V.gn (V.rRatio (V.gv (V.mMul m (V.gv (V.mMul (IntKind.wrap .i64 (r * (1048576 : Int))) (IntKind.wrap .i64 (r * (1048576 : Int))))))) (2 : Int) (5 : Int)) (V.gn (V.mMul m (V.gv (V.mMul (IntKind.wrap .i64 (r * (1048576 : Int))) (IntKind.wrap .i64 (r * (1048576 : Int)))))) (V.gn (V.mMul (IntKind.wrap .i64 (r * (1048576 : Int))) (IntKind.wrap .i64 (r * (1048576 : Int)))) false)) = true then k0 (0 : Int) (0 : Int) (0 : Int) (0 : Int) (2 : Int)
        else
          k0 m
            (if
                (4096 : Int) >
                  List.getD
                    [V.gv (V.rRatio (V.gv (V.mMul m (V.gv (V.mMul (IntKind.wrap .i64 (r * (1048576 : Int))) (IntKind.wrap .i64 (r * (1048576 : Int))))))) (2 : Int) (5 : Int)), V.gv (V.rRatio (V.gv (V.mMul m (V.gv (V.mMul (IntKind.wrap .i64 (r * (1048576 : Int))) (IntKind.wrap .i64 (r * (1048576 : Int))))))) (2 : Int) (5 : Int)),
                      V.gv (V.rRatio (V.gv (V.mMul m (V.gv (V.mMul (IntKind.wrap .i64 (r * (1048576 : Int))) (IntKind.wrap .i64 (r * (1048576 : Int))))))) (2 : Int) (5 : Int))]
                    (0 : Nat) (0 : Int) then
              (4096 : Int)
            else
              List.getD
                [V.gv (V.rRatio (V.gv (V.mMul m (V.gv (V.mMul (IntKind.wrap .i64 (r * (1048576 : Int))) (IntKind.wrap .i64 (r * (1048576 : Int))))))) (2 : Int) (5 : Int)), V.gv (V.rRatio (V.gv (V.mMul m (V.gv (V.mMul (IntKind.wrap .i64 (r * (1048576 : Int))) (IntKind.wrap .i64 (r * (1048576 : Int))))))) (2 : Int) (5 : Int)),
                  V.gv (V.rRatio (V.gv (V.mMul m (V.gv (V.mMul (IntKind.wrap .i64 (r * (1048576 : Int))) (IntKind.wrap .i64 (r * (1048576 : Int))))))) (2 : Int) (5 : Int))]
                (0 : Nat) (0 : Int))
            (if
                (4096 : Int) >
                  List.getD
                    [V.gv (V.rRatio (V.gv (V.mMul m (V.gv (V.mMul (IntKind.wrap .i64 (r * (1048576 : Int))) (IntKind.wrap .i64 (r * (1048576 : Int))))))) (2 : Int) (5 : Int)), V.gv (V.rRatio (V.gv (V.mMul m (V.gv (V.mMul (IntKind.wrap .i64 (r * (1048576 : Int))) (IntKind.wrap .i64 (r * (1048576 : Int))))))) (2 : Int) (5 : Int)),
                      V.gv (V.rRatio (V.gv (V.mMul m (V.gv (V.mMul (IntKind.wrap .i64 (r * (1048576 : Int))) (IntKind.wrap .i64 (r * (1048576 : Int))))))) (2 : Int) (5 : Int))]
                    (1 : Nat) (0 : Int) then
              (4096 : Int)
            else
              List.getD
                [V.gv (V.rRatio (V.gv (V.mMul m (V.gv (V.mMul (IntKind.wrap .i64 (r * (1048576 : Int))) (IntKind.wrap .i64 (r * (1048576 : Int))))))) (2 : Int) (5 : Int)), V.gv (V.rRatio (V.gv (V.mMul m (V.gv (V.mMul (IntKind.wrap .i64 (r * (1048576 : Int))) (IntKind.wrap .i64 (r * (1048576 : Int))))))) (2 : Int) (5 : Int)),
                  V.gv (V.rRatio (V.gv (V.mMul m (V.gv (V.mMul (IntKind.wrap .i64 (r * (1048576 : Int))) (IntKind.wrap .i64 (r * (1048576 : Int))))))) (2 : Int) (5 : Int))]
                (1 : Nat) (0 : Int))
            (if
                (4096 : Int) >
                  List.getD
                    [V.gv (V.rRatio (V.gv (V.mMul m (V.gv (V.mMul (IntKind.wrap .i64 (r * (1048576 : Int))) (IntKind.wrap .i64 (r * (1048576 : Int))))))) (2 : Int) (5 : Int)), V.gv (V.rRatio (V.gv (V.mMul m (V.gv (V.mMul (IntKind.wrap .i64 (r * (1048576 : Int))) (IntKind.wrap .i64 (r * (1048576 : Int))))))) (2 : Int) (5 : Int)),
                      V.gv (V.rRatio (V.gv (V.mMul m (V.gv (V.mMul (IntKind.wrap .i64 (r * (1048576 : Int))) (IntKind.wrap .i64 (r * (1048576 : Int))))))) (2 : Int) (5 : Int))]
                    (2 : Nat) (0 : Int) then
              (4096 : Int)
            else
              List.getD
                [V.gv (V.rRatio (V.gv (V.mMul m (V.gv (V.mMul (IntKind.wrap .i64 (r * (1048576 : Int))) (IntKind.wrap .i64 (r * (1048576 : Int))))))) (2 : Int) (5 : Int)), V.gv (V.rRatio (V.gv (V.mMul m (V.gv (V.mMul (IntKind.wrap .i64 (r * (1048576 : Int))) (IntKind.wrap .i64 (r * (1048576 : Int))))))) (2 : Int) (5 : Int)),
                  V.gv (V.rRatio (V.gv (V.mMul m (V.gv (V.mMul (IntKind.wrap .i64 (r * (1048576 : Int))) (IntKind.wrap .i64 (r * (1048576 : Int))))))) (2 : Int) (5 : Int))]
                (2 : Nat) (0 : Int))
            (0 : Int)
      else
        M.dmass_l0 (V.corP k r hx hy hz l)
          (fun (x143 x144 x145 : List Int) ↦
            if V.hfG x143 = true then
              if V.hfG x144 = true then
                if V.hfG x145 = true then
                  M.dmass_l1 m [V.hfI x143 r, V.hfI x144 r, V.hfI x145 r]
                    (fun (x146 : Bool) (x147 : List Int) ↦
                      if (0 : Int) ≤ (1 : Int) ∧ (1 : Int) < (↑(List.length x147) : Int) then
                        if (0 : Int) ≤ (2 : Int) ∧ (2 : Int) < (↑(List.length x147) : Int) then
                          if (0 : Int) ≤ (2 : Int) ∧ (2 : Int) < (↑(List.length x147) : Int) then
                            if (0 : Int) ≤ (0 : Int) ∧ (0 : Int) < (↑(List.length x147) : Int) then
                              if (0 : Int) ≤ (0 : Int) ∧ (0 : Int) < (↑(List.length x147) : Int) then
                                if (0 : Int) ≤ (1 : Int) ∧ (1 : Int) < (↑(List.length x147) : Int) then
                                  if
                                      V.gn (V.rRatio (V.gv (V.mAdd (List.getD x147 (0 : Nat) (0 : Int)) (List.getD x147 (1 : Nat) (0 : Int)))) (1 : Int) (3 : Int))
                                          (V.gn (V.mAdd (List.getD x147 (0 : Nat) (0 : Int)) (List.getD x147 (1 : Nat) (0 : Int)))
                                            (V.gn (V.rRatio (V.gv (V.mAdd (List.getD x147 (2 : Nat) (0 : Int)) (List.getD x147 (0 : Nat) (0 : Int)))) (1 : Int) (3 : Int)) (V.gn (V.mAdd (List.getD x147 (2 : Nat) (0 : Int)) (List.getD x147 (0 : Nat) (0 : Int))) (V.gn (V.rRatio (V.gv (V.mAdd (List.getD x147 (1 : Nat) (0 : Int)) (List.getD x147 (2 : Nat) (0 : Int)))) (1 : Int) (3 : Int)) (V.gn (V.mAdd (List.getD x147 (1 : Nat) (0 : Int)) (List.getD x147 (2 : Nat) (0 : Int))) x146))))) =
                                        true then
                                    k0 (0 : Int) (0 : Int) (0 : Int) (0 : Int) (2 : Int)
                                  else
                                    k0 m
                                      (if (4096 : Int) > List.getD [V.gv (V.rRatio (V.gv (V.mAdd (List.getD x147 (1 : Nat) (0 : Int)) (List.getD x147 (2 : Nat) (0 : Int)))) (1 : Int) (3 : Int)), V.gv (V.rRatio (V.gv (V.mAdd (List.getD x147 (2 : Nat) (0 : Int)) (List.getD x147 (0 : Nat) (0 : Int)))) (1 : Int) (3 : Int)), V.gv (V.rRatio (V.gv (V.mAdd (List.getD x147 (0 : Nat) (0 : Int)) (List.getD x147 (1 : Nat) (0 : Int)))) (1 : Int) (3 : Int))] (0 : Nat) (0 : Int) then (4096 : Int)
                                      else List.getD [V.gv (V.rRatio (V.gv (V.mAdd (List.getD x147 (1 : Nat) (0 : Int)) (List.getD x147 (2 : Nat) (0 : Int)))) (1 : Int) (3 : Int)), V.gv (V.rRatio (V.gv (V.mAdd (List.getD x147 (2 : Nat) (0 : Int)) (List.getD x147 (0 : Nat) (0 : Int)))) (1 : Int) (3 : Int)), V.gv (V.rRatio (V.gv (V.mAdd (List.getD x147 (0 : Nat) (0 : Int)) (List.getD x147 (1 : Nat) (0 : Int)))) (1 : Int) (3 : Int))] (0 : Nat) (0 : Int))
                                      (if (4096 : Int) > List.getD [V.gv (V.rRatio (V.gv (V.mAdd (List.getD x147 (1 : Nat) (0 : Int)) (List.getD x147 (2 : Nat) (0 : Int)))) (1 : Int) (3 : Int)), V.gv (V.rRatio (V.gv (V.mAdd (List.getD x147 (2 : Nat) (0 : Int)) (List.getD x147 (0 : Nat) (0 : Int)))) (1 : Int) (3 : Int)), V.gv (V.rRatio (V.gv (V.mAdd (List.getD x147 (0 : Nat) (0 : Int)) (List.getD x147 (1 : Nat) (0 : Int)))) (1 : Int) (3 : Int))] (1 : Nat) (0 : Int) then (4096 : Int)
                                      else List.getD [V.gv (V.rRatio (V.gv (V.mAdd (List.getD x147 (1 : Nat) (0 : Int)) (List.getD x147 (2 : Nat) (0 : Int)))) (1 : Int) (3 : Int)), V.gv (V.rRatio (V.gv (V.mAdd (List.getD x147 (2 : Nat) (0 : Int)) (List.getD x147 (0 : Nat) (0 : Int)))) (1 : Int) (3 : Int)), V.gv (V.rRatio (V.gv (V.mAdd (List.getD x147 (0 : Nat) (0 : Int)) (List.getD x147 (1 : Nat) (0 : Int)))) (1 : Int) (3 : Int))] (1 : Nat) (0 : Int))
                                      (if (4096 : Int) > List.getD [V.gv (V.rRatio (V.gv (V.mAdd (List.getD x147 (1 : Nat) (0 : Int)) (List.getD x147 (2 : Nat) (0 : Int)))) (1 : Int) (3 : Int)), V.gv (V.rRatio (V.gv (V.mAdd (List.getD x147 (2 : Nat) (0 : Int)) (List.getD x147 (0 : Nat) (0 : Int)))) (1 : Int) (3 : Int)), V.gv (V.rRatio (V.gv (V.mAdd (List.getD x147 (0 : Nat) (0 : Int)) (List.getD x147 (1 : Nat) (0 : Int)))) (1 : Int) (3 : Int))] (2 : Nat) (0 : Int) then (4096 : Int)
                                      else List.getD [V.gv (V.rRatio (V.gv (V.mAdd (List.getD x147 (1 : Nat) (0 : Int)) (List.getD x147 (2 : Nat) (0 : Int)))) (1 : Int) (3 : Int)), V.gv (V.rRatio (V.gv (V.mAdd (List.getD x147 (2 : Nat) (0 : Int)) (List.getD x147 (0 : Nat) (0 : Int)))) (1 : Int) (3 : Int)), V.gv (V.rRatio (V.gv (V.mAdd (List.getD x147 (0 : Nat) (0 : Int)) (List.getD x147 (1 : Nat) (0 : Int)))) (1 : Int) (3 : Int))] (2 : Nat) (0 : Int))
                                      (0 : Int)
                                else none
                              else none
                            else none
                          else none
                        else none
                      else none)
                    ((100 : Nat) + ((2 : Nat) + (1 : Nat)) + (0 : Nat)) (0 : Int) false []
                else none
              else none
            else none)
          ((100 : Nat) + List.length l + List.length (V.corP k r hx hy hz l) + List.length (V.corA k r hx hy hz l) + List.length (V.corE k r hx hy hz l) + (0 : Nat) + (0 : Nat) + (0 : Nat)) (0 : Int) [] [] []
theorem dmass_eq {α : Type} (k : Int) (r : Int) (hx : Int) (hy : Int) (hz : Int) (l : L3) (m : Int) (v142 : Value) (Q : SV → Hp → Option α) : callI E look_dhalf (exec E look_dhalf dmass_l1_lps 400) 16 ([SV.agg [SV.int .i64 k, SV.int .i64 r, SV.int .i64 hx, SV.int .i64 hy, SV.int .i64 hz, SV.ros v142 kP l], SV.int .i64 m]) ([]) Q = M.dmass k r hx hy hz l m (fun (x148 : Int) (x149 : Int) (x150 : Int) (x151 : Int) (x152 : Int) => Q (SV.tup [SV.agg [SV.int .i64 x148, SV.int .i64 x149, SV.int .i64 x150, SV.int .i64 x151], SV.int .i64 x152]) ([])) := by kernel_rfl
def dmass_sp : List AS := [.st [.leaf (.int .i64 0), .leaf (.int .i64 0), .leaf (.int .i64 0), .leaf (.int .i64 0), .leaf (.int .i64 0), .ro (.st (.i .i64) [.i .i64, .i .i64])], .val (.int .i64 0)]
theorem rratio_some {a b c : Int} (ha : 0 ≤ a ∧ a ≤ 4503599627370496) (hb : 0 ≤ b ∧ b ≤ 10) (hc : 0 < c ∧ c ≤ 10) : V.rRatio a b c = some (a * b / c) := by
  have h1 : a * b ≤ 4503599627370496 * 10 := Int.mul_le_mul ha.2 hb.2 hb.1 (by omega)
  have h2 : 0 ≤ a * b := Int.mul_nonneg ha.1 hb.1
  unfold V.rRatio V.tl isG
  rw [Int.fdiv_eq_ediv_of_nonneg _ (by omega)]
  generalize a * b = p at *
  have h3 : 0 ≤ p / c := Int.ediv_nonneg h2 (by omega)
  have h4 : p / c ≤ p := Int.ediv_le_self _ h2
  have c1 : (c == 0) = false := by simp; omega
  simp only [c1, Bool.false_or]
  rw [if_neg (by simp; omega), if_neg (by simp; omega)]
theorem dmass_l0_val {α : Type} (C : List P3) (hl : C.length ≤ 12) (k1 : List Int → List Int → List Int → Option α) : ∀ (fuel i : Nat) (X Y Z : List Int), i ≤ C.length → C.length - i < fuel → X.length + C.length - i ≤ 100 → Y.length + C.length - i ≤ 100 → Z.length + C.length - i ≤ 100 →
    M.dmass_l0 C k1 fuel (i : Int) X Y Z = k1 (X ++ (C.drop i).map (fun p => p.1)) (Y ++ (C.drop i).map (fun p => p.2.1)) (Z ++ (C.drop i).map (fun p => p.2.2))
  | 0, i, X, Y, Z, h1, h2, h3, h4, h5 => by omega
  | f + 1, i, X, Y, Z, h1, h2, h3, h4, h5 => by
    unfold M.dmass_l0 M.dmass_l0_step
    rw [cLt_nat]
    by_cases hx : i < C.length
    · have a : (0 : Int) ≤ (i : Int) ∧ (i : Int) < (C.length : Int) := by omega
      rw [if_pos (by simpa using hx), if_pos a, if_pos (by omega), if_pos a, if_pos (by omega), if_pos a, if_pos (by omega), w_next (by omega)]
      rw [dmass_l0_val C hl k1 f (i + 1) _ _ _ (by omega) (by omega) (by rw [List.length_append, List.length_singleton]; omega) (by rw [List.length_append, List.length_singleton]; omega) (by rw [List.length_append, List.length_singleton]; omega)]
      rw [drop_pt C i hx, toNat_nat]
      simp only [List.append_assoc, List.map_cons, List.singleton_append]
      rfl
    · have : i = C.length := by omega
      subst this
      simp
theorem gdA {a b c d : Int} (h : a = c) : List.getD [a, b, d] 0 0 = c := h
theorem hfI_val (f : P3 → Int) (C : List P3) (h0 : 0 < C.length) (hs : ∀ p ∈ C, -65536 ≤ f p ∧ f p ≤ 65536) (r : Int) (hr : 0 ≤ r ∧ r ≤ 16384) :
    V.hfI (C.map f) r = halfP f C r ∧ 0 ≤ halfP f C r ∧ halfP f C r ≤ 137438953472 := by
  unfold V.hfI
  have e : (C.map f).getD 0 0 = f (pt C 0) := by simp [pt, List.getD_eq_getElem?_getD, h0]
  rw [hid_eq, e, loI_map, hiI_map]
  exact half_w f C h0 hs r hr
theorem hfG_map (f : P3 → Int) (C : List P3) (h0 : 0 < C.length) (h1 : C.length ≤ 12) : V.hfG (C.map f) = true := gB_of ⟨by rw [List.length_map]; exact h0, by rw [List.length_map]; omega⟩
theorem dmass_l1_val {α : Type} (m X Y Z : Int) (hm : 0 ≤ m ∧ m ≤ 1099511627776) (hX : 0 ≤ X ∧ X ≤ 137438953472) (hY : 0 ≤ Y ∧ Y ≤ 137438953472) (hZ : 0 ≤ Z ∧ Z ≤ 137438953472) (k1 : Bool → List Int → Option α) (fuel : Nat) (hf : 4 ≤ fuel) :
    M.dmass_l1 m [X, Y, Z] k1 fuel 0 false [] = k1 false [sqP m X, sqP m Y, sqP m Z] := by
  obtain ⟨f, rfl⟩ : ∃ f, fuel = f + 4 := ⟨fuel - 4, by omega⟩
  obtain ⟨a1, a2, a3, a4⟩ := sq_some hm hX
  obtain ⟨b1, b2, b3, b4⟩ := sq_some hm hY
  obtain ⟨c1, c2, c3, c4⟩ := sq_some hm hZ
  have w0 : IntKind.wrap .i64 (0 + 1) = 1 := by decide
  have w1 : IntKind.wrap .i64 (1 + 1) = 2 := by decide
  have w2 : IntKind.wrap .i64 (2 + 1) = 3 := by decide
  have l0 : cLt (0 : Int) 3 = true := by rw [cLt_eq]; decide
  have l1 : cLt (1 : Int) 3 = true := by rw [cLt_eq]; decide
  have l2 : cLt (2 : Int) 3 = true := by rw [cLt_eq]; decide
  have l3 : ¬ cLt (3 : Int) 3 = true := by rw [cLt_eq]; decide
  have d0 : (0 : Int) ≤ 0 ∧ (0 : Int) < ((List.length [X, Y, Z] : Nat) : Int) := by simp
  have d1 : (0 : Int) ≤ 1 ∧ (1 : Int) < ((List.length [X, Y, Z] : Nat) : Int) := by simp
  have d2 : (0 : Int) ≤ 2 ∧ (2 : Int) < ((List.length [X, Y, Z] : Nat) : Int) := by simp
  have e0 : List.getD [X, Y, Z] (Int.toNat 0) 0 = X := rfl
  have e1 : List.getD [X, Y, Z] (Int.toNat 1) 0 = Y := rfl
  have e2 : List.getD [X, Y, Z] (Int.toNat 2) 0 = Z := rfl
  have q : ∀ (m n : Nat), m < 100 → n < 10 → (m + n) * 8 ≤ 140737488355328 := by intro m n h1 h2; omega
  unfold M.dmass_l1 M.dmass_l1_step
  rw [if_pos l0, if_pos d0, if_pos d0, if_pos (q _ _ (by decide) (by decide)), w0, e0, a1]
  simp only [V.gv, V.gn, Option.getD_some, Option.isNone_some, Bool.or_false, a2]
  unfold M.dmass_l1 M.dmass_l1_step
  rw [if_pos l1, if_pos d1, if_pos d1, if_pos (q _ _ (by simp) (by decide)), w1, e1, b1]
  simp only [V.gv, V.gn, Option.getD_some, Option.isNone_some, Bool.or_false, b2]
  unfold M.dmass_l1 M.dmass_l1_step
  rw [if_pos l2, if_pos d2, if_pos d2, if_pos (q _ _ (by simp) (by decide)), w2, e2, c1]
  simp only [V.gv, V.gn, Option.getD_some, Option.isNone_some, Bool.or_false, c2]
  unfold M.dmass_l1 M.dmass_l1_step
  rw [if_neg l3]
  rfl
theorem dmass_v {α : Type} (k r hx hy hz : Int) (l : List P3) (m : Int) (k0 : Int → Int → Int → Int → Int → Option α) :
    M.dmass k r hx hy hz l m k0 = k0 (V.masM k r hx hy hz l m) (V.masI k r hx hy hz l m).1 (V.masI k r hx hy hz l m).2.1 (V.masI k r hx hy hz l m).2.2 (V.masE k r hx hy hz l m) := by
  unfold M.dmass V.masM V.masI V.masE V.chk V.corP V.corA V.corE
  simp only [hid_eq, cEq_eq, cLt_eq]
  by_cases hc : chkP k r hx hy hz l = 0
  · by_cases hm : inZ m 16777216 1099511627776 = true
    · have he : masEP k r hx hy hz l m = 0 := by unfold masEP; rw [if_pos hc, if_pos hm]
      have hm' : 16777216 ≤ m ∧ m ≤ 1099511627776 := by simp [inZ] at hm; omega
      have m1 : ¬ m < 16777216 := by omega
      have m2 : ¬ 1099511627776 < m := by omega
      simp only [he, hc, m1, m2, decide_false, beq_self_eq_true, Bool.not_true, Bool.false_eq_true, if_false, if_true, beq_iff_eq]
      have hm' : 0 ≤ m ∧ m ≤ 1099511627776 := by omega
      by_cases h1 : k = 1
      · subst h1
        have hr : 0 ≤ r * 1048576 ∧ r * 1048576 ≤ 137438953472 := by rcases chk_range hc with ⟨_, h⟩ | ⟨h, _⟩ | ⟨h, _⟩ | ⟨h, _⟩ <;> omega
        obtain ⟨s1, s2, s3, s4⟩ := sq_some hm' hr
        rw [IntWalk.i64_in (r * 1048576) (by omega)]
        have s5 := rratio_some (a := sqP m (r * 1048576)) (b := 2) (c := 5) (by omega) (by omega) (by omega)
        simp only [s1, s2, s5, V.gv, V.gn, Option.getD_some, Option.isNone_some, Bool.or_false, Bool.false_eq_true, if_false, if_true]
        simp only [massP, if_true, atl, List.getD_cons_zero, List.getD_cons_succ]
      · obtain ⟨p1, p2, p3⟩ := corPP_pos hc
        have hr : 0 ≤ r ∧ r ≤ 16384 := by rcases chk_range hc with ⟨_, h⟩ | ⟨_, h, _⟩ | ⟨_, h, _⟩ | ⟨_, h, _⟩ <;> omega
        have hmp : massP k r hx hy hz l m = massQ m (halfP (fun p => p.1) (corPP k hx hy hz l) r) (halfP (fun p => p.2.1) (corPP k hx hy hz l) r) (halfP (fun p => p.2.2) (corPP k hx hy hz l) r) := by unfold massP; rw [if_neg h1]
        rw [hmp, if_neg h1]
        generalize corPP k hx hy hz l = C at *
        obtain ⟨x1, x2, x3⟩ := hfI_val (fun p => p.1) C p1 (fun p hp => (p3 p hp).1) r hr
        obtain ⟨y1, y2, y3⟩ := hfI_val (fun p => p.2.1) C p1 (fun p hp => (p3 p hp).2.1) r hr
        obtain ⟨z1, z2, z3⟩ := hfI_val (fun p => p.2.2) C p1 (fun p hp => (p3 p hp).2.2) r hr
        refine Eq.trans (dmass_l0_val C p2 _ _ 0 [] [] [] (by omega) (by omega) (by simp; omega) (by simp; omega) (by simp; omega)) ?_
        simp only [List.drop_zero, List.nil_append]
        rw [if_pos (hfG_map _ C p1 p2), if_pos (hfG_map _ C p1 p2), if_pos (hfG_map _ C p1 p2), x1, y1, z1]
        generalize halfP (fun p => p.1) C r = X at *
        generalize halfP (fun p => p.2.1) C r = Y at *
        generalize halfP (fun p => p.2.2) C r = Z at *
        refine Eq.trans (dmass_l1_val m X Y Z hm' ⟨x2, x3⟩ ⟨y2, y3⟩ ⟨z2, z3⟩ _ _ (by omega)) ?_
        obtain ⟨a1, a2, a3, a4⟩ := sq_some hm' ⟨x2, x3⟩
        obtain ⟨b1, b2, b3, b4⟩ := sq_some hm' ⟨y2, y3⟩
        obtain ⟨c1, c2, c3, c4⟩ := sq_some hm' ⟨z2, z3⟩
        have d1 := add_some' ⟨b3, b4⟩ ⟨c3, c4⟩
        have d2 := add_some' ⟨c3, c4⟩ ⟨a3, a4⟩
        have d3 := add_some' ⟨a3, a4⟩ ⟨b3, b4⟩
        have e1 := rratio_some (a := sqP m Y + sqP m Z) (b := 1) (c := 3) (by omega) (by omega) (by omega)
        have e2 := rratio_some (a := sqP m Z + sqP m X) (b := 1) (c := 3) (by omega) (by omega) (by omega)
        have e3 := rratio_some (a := sqP m X + sqP m Y) (b := 1) (c := 3) (by omega) (by omega) (by omega)
        have q0 : (0 : Int) ≤ 0 ∧ (0 : Int) < ((List.length [sqP m X, sqP m Y, sqP m Z] : Nat) : Int) := by simp
        have q1 : (0 : Int) ≤ 1 ∧ (1 : Int) < ((List.length [sqP m X, sqP m Y, sqP m Z] : Nat) : Int) := by simp
        have q2 : (0 : Int) ≤ 2 ∧ (2 : Int) < ((List.length [sqP m X, sqP m Y, sqP m Z] : Nat) : Int) := by simp
        simp only [if_pos q0, if_pos q1, if_pos q2, List.getD_cons_zero, List.getD_cons_succ]
        simp only [d1, d2, d3, e1, e2, e3, V.gv, V.gn, Option.getD_some, Option.isNone_some, Bool.or_false, Bool.false_eq_true, if_false, Int.mul_one]
        simp only [massQ, atl]
    · have he : masEP k r hx hy hz l m = 120 := by unfold masEP; rw [if_pos hc, if_neg hm]
      have hm' : m < 16777216 ∨ 1099511627776 < m := by
        simp [inZ] at hm; omega
      by_cases h1 : m < 16777216
      · simp [he, hc, h1]
      · have h2 : 1099511627776 < m := by omega
        simp [he, hc, h1, h2]
  · have he : masEP k r hx hy hz l m = chkP k r hx hy hz l := by unfold masEP; rw [if_neg hc]
    simp [he, hc]
noncomputable def dmass_h {α : Type} (ds : List D) (Q : SV → Hp → Option α) : Option α :=
  dI ds fun k ds => dI ds fun r ds => dI ds fun hx ds => dI ds fun hy ds => dI ds fun hz ds => dL kP ds fun l ds => dI ds fun m ds => dE ds (Q (.tup [.agg [.int .i64 (V.masM k r hx hy hz l m), .int .i64 (V.masI k r hx hy hz l m).1, .int .i64 (V.masI k r hx hy hz l m).2.1, .int .i64 (V.masI k r hx hy hz l m).2.2], .int .i64 (V.masE k r hx hy hz l m)]) ([]))
theorem dmass_h_ok {α : Type} : FnOk E.P 16 (fEnt (α := α) dmass_sp dmass_h) :=
  fEntR_ok E (look_dhalf_ok) (exec_sound E E_ok (look_dhalf_ok) (dmass_l1_lps_ok) 400) fun ds Q r h => by
    unfold dmass_h at h
    obtain ⟨k, ds, rfl, h1⟩ := dI_inv h
    obtain ⟨r, ds, rfl, h2⟩ := dI_inv h1
    obtain ⟨hx, ds, rfl, h3⟩ := dI_inv h2
    obtain ⟨hy, ds, rfl, h4⟩ := dI_inv h3
    obtain ⟨hz, ds, rfl, h5⟩ := dI_inv h4
    obtain ⟨l, ds, rfl, h6⟩ := dL_inv h5
    obtain ⟨m, ds, rfl, h7⟩ := dI_inv h6
    obtain ⟨rfl, hE⟩ := dE_inv h7
    exact ⟨_, _, hE, fun vs => ⟨_, _, by kernel_rfl, (dmass_eq k r hx hy hz l m ((cellsV (vs.headD undef)).tail.tail.tail.tail.tail.headD undef) _).trans (dmass_v k r hx hy hz l m _)⟩⟩
noncomputable def look_dmass {α : Type} : LookF α := addFn 16 (fEnt dmass_sp dmass_h) look_dhalf
theorem look_dmass_ok {α : Type} : LookOk E.P (look_dmass (α := α)) := addFn_ok dmass_h_ok (look_dhalf_ok)
end Go.Proofs.Ytkjellhkamfciaa.Sx
end

section
/- ShapeCores: its run tells true. -/
namespace Go.Proofs.Ytkjellhkamfciaa.Sx
open Go
set_option maxRecDepth 20000
set_option linter.unusedVariables false
set_option linter.unusedSimpArgs false
noncomputable def _root_.Go.Proofs.Ytkjellhkamfciaa.M.lcores {α : Type} (ap : L3) (ax : L3) (ae : L3) (ar : Int) (bp : L3) (bx : L3) (be : L3) (br : Int) (k0 : Bool → Option α) : Option α :=
  if cEq ar br = true then if V.lenB (List.length ap) = true then if V.ptsEq ap bp = true then if V.lenB (List.length ax) = true then if V.ptsEq ax bx = true then if V.lenB (List.length ae) = true then k0 (V.ptsEq ae be) else none else k0 false else none else k0 false else none else k0 false
theorem lcores_eq {α : Type} (ap : L3) (ax : L3) (ae : L3) (ar : Int) (bp : L3) (bx : L3) (be : L3) (br : Int) (v0 : Value) (v1 : Value) (v2 : Value) (v3 : Value) (v4 : Value) (v5 : Value) (Q : SV → Hp → Option α) : callI E look_dmass (exec E look_dmass noLps 400) 17 ([SV.agg [SV.ros v0 kP ap, SV.ros v1 kP ax, SV.ros v2 kP ae, SV.int .i64 ar],
  SV.agg [SV.ros v3 kP bp, SV.ros v4 kP bx, SV.ros v5 kP be, SV.int .i64 br]]) ([]) Q = M.lcores ap ax ae ar bp bx be br (fun (x6 : Bool) => Q (SV.bool x6) ([])) := by kernel_rfl
def lcores_sp : List AS := [.st [.ro kP, .ro kP, .ro kP, .leaf (.int .i64 0)], .st [.ro kP, .ro kP, .ro kP, .leaf (.int .i64 0)]]
def _root_.Go.Proofs.Ytkjellhkamfciaa.V.corEq (ap ax ae : List P3) (ar : Int) (bp bx be : List P3) (br : Int) : Bool := decide (ar = br ∧ ap = bp ∧ ax = bx ∧ ae = be)
theorem lcores_v {α : Type} (ap ax ae : List P3) (ar : Int) (bp bx be : List P3) (br : Int) (h1 : V.lenB ap.length = true) (h2 : V.lenB ax.length = true) (h3 : V.lenB ae.length = true) (k0 : Bool → Option α) :
    M.lcores ap ax ae ar bp bx be br k0 = k0 (V.corEq ap ax ae ar bp bx be br) := by
  unfold M.lcores V.corEq V.ptsEq
  rw [cEq_eq, if_pos h1, if_pos h2, if_pos h3]
  by_cases c1 : ar = br
  · by_cases c2 : ap = bp
    · by_cases c3 : ax = bx
      · simp [c1, c2, c3]
      · simp [c1, c2, c3]
    · simp [c1, c2]
  · simp [c1]
noncomputable def lcores_h {α : Type} (ds : List D) (Q : SV → Hp → Option α) : Option α :=
  dL kP ds fun ap ds => dL kP ds fun ax ds => dL kP ds fun ae ds => dI ds fun ar ds => dL kP ds fun bp ds => dL kP ds fun bx ds => dL kP ds fun be ds => dI ds fun br ds => dE ds (if V.lenB ap.length = true ∧ V.lenB ax.length = true ∧ V.lenB ae.length = true then Q (.bool (V.corEq ap ax ae ar bp bx be br)) ([]) else none)
theorem lcores_h_ok {α : Type} : FnOk E.P 17 (fEnt (α := α) lcores_sp lcores_h) :=
  fEntR_ok E (look_dmass_ok) (exec_sound E E_ok (look_dmass_ok) (noLps_ok _) 400) fun ds Q r h => by
    unfold lcores_h at h
    obtain ⟨ap, ds, rfl, h1⟩ := dL_inv h
    obtain ⟨ax, ds, rfl, h2⟩ := dL_inv h1
    obtain ⟨ae, ds, rfl, h3⟩ := dL_inv h2
    obtain ⟨ar, ds, rfl, h4⟩ := dI_inv h3
    obtain ⟨bp, ds, rfl, h5⟩ := dL_inv h4
    obtain ⟨bx, ds, rfl, h6⟩ := dL_inv h5
    obtain ⟨be, ds, rfl, h7⟩ := dL_inv h6
    obtain ⟨br, ds, rfl, h8⟩ := dI_inv h7
    obtain ⟨rfl, hE⟩ := dE_inv h8
    split at hE
    · rename_i hg
      exact ⟨_, _, hE, fun vs => ⟨_, _, by kernel_rfl, (lcores_eq ap ax ae ar bp bx be br ((cellsV (vs.headD undef)).headD undef) ((cellsV (vs.headD undef)).tail.headD undef) ((cellsV (vs.headD undef)).tail.tail.headD undef) ((cellsV (vs.tail.headD undef)).headD undef) ((cellsV (vs.tail.headD undef)).tail.headD undef) ((cellsV (vs.tail.headD undef)).tail.tail.headD undef) _).trans (lcores_v ap ax ae ar bp bx be br hg.1 hg.2.1 hg.2.2 _)⟩⟩
    · cases hE
noncomputable def look_lcores {α : Type} : LookF α := addFn 17 (fEnt lcores_sp lcores_h) look_dmass
theorem look_lcores_ok {α : Type} : LookOk E.P (look_lcores (α := α)) := addFn_ok lcores_h_ok (look_dmass_ok)
noncomputable abbrev lscores_S1 (y1 : Bool) (y2 y3 y4 y5 : Int) (y6 : Bool) (y7 y8 y9 y10 y11 y12 : Int) (y13 : Value) (y14 y15 : L3) (y16 : Int) (y17 y18 y19 : L3) (y20 y21 y22 y23 y24 y25 y26 y27 : Int) : St := St.mk (none :: none :: some (SV.ptr (nat_lit 0) (nat_lit 0)) :: none :: none :: some (SV.bool y1) :: some (SV.sl (nat_lit 1)) :: some (SV.ptr (nat_lit 2) (nat_lit 0)) :: some (SV.int .i64 y2) :: none :: some (SV.int .i64 y3) :: some (SV.ptr (nat_lit 6) (nat_lit 0)) :: some (SV.int .i64 y4) :: some (SV.ptr (nat_lit 7) (nat_lit 0)) :: some (SV.int .i64 y5) :: some (SV.bool y6) :: some (SV.int .i64 y7) :: nn 97 ([])) [.cells [SV.int .i64 y8, SV.int .i64 y9, SV.int .i64 y10, SV.int .i64 y11, SV.int .i64 y12, SV.ros y13 kP y14] (nat_lit 26), .seq kP y15 (nat_lit 23), .cells [SV.sl (nat_lit 3), SV.sl (nat_lit 4), SV.sl (nat_lit 5), SV.int .i64 y16] (nat_lit 31), .seq kP y17 (nat_lit 23), .seq kP y18 (nat_lit 23), .seq kP y19 (nat_lit 23), .cells [SV.int .i64 y20, SV.int .i64 y21, SV.int .i64 y22, SV.int .i64 y23] (nat_lit 36), .cells [SV.int .i64 y24, SV.int .i64 y25, SV.int .i64 y26, SV.int .i64 y27] (nat_lit 36)]
noncomputable abbrev lscores_S2 (y1 : Bool) (y2 y3 y4 y5 : Int) (y6 : Bool) (y7 y8 y9 y10 y11 : Int) (y12 : Value) (y13 y14 : L3) (y15 : Int) (y16 y17 y18 : L3) (y19 y20 y21 y22 y23 y24 y25 y26 : Int) : St := St.mk (none :: none :: some (SV.ptr (nat_lit 0) (nat_lit 0)) :: none :: none :: some (SV.bool y1) :: some (SV.sl (nat_lit 1)) :: some (SV.ptr (nat_lit 2) (nat_lit 0)) :: some (SV.int .i64 y2) :: none :: some (SV.int .i64 y3) :: some (SV.ptr (nat_lit 6) (nat_lit 0)) :: some (SV.int .i64 y4) :: some (SV.ptr (nat_lit 7) (nat_lit 0)) :: some (SV.int .i64 y5) :: some (SV.bool y6) :: nn 98 ([])) [.cells [SV.int .i64 y7, SV.int .i64 y8, SV.int .i64 y9, SV.int .i64 y10, SV.int .i64 y11, SV.ros y12 kP y13] (nat_lit 26), .seq kP y14 (nat_lit 23), .cells [SV.sl (nat_lit 3), SV.sl (nat_lit 4), SV.sl (nat_lit 5), SV.int .i64 y15] (nat_lit 31), .seq kP y16 (nat_lit 23), .seq kP y17 (nat_lit 23), .seq kP y18 (nat_lit 23), .cells [SV.int .i64 y19, SV.int .i64 y20, SV.int .i64 y21, SV.int .i64 y22] (nat_lit 36), .cells [SV.int .i64 y23, SV.int .i64 y24, SV.int .i64 y25, SV.int .i64 y26] (nat_lit 36)]
noncomputable abbrev lscores_S3 : St := St.mk (none :: none :: some (SV.ptr (nat_lit 0) (nat_lit 0)) :: none :: none :: some (SV.bool false) :: some (SV.sl (nat_lit 1)) :: some (SV.ptr (nat_lit 2) (nat_lit 0)) :: some (SV.int .i64 (0 : Int)) :: none :: some (SV.int .i64 (0 : Int)) :: some (SV.ptr (nat_lit 6) (nat_lit 0)) :: some (SV.int .i64 (0 : Int)) :: some (SV.ptr (nat_lit 7) (nat_lit 0)) :: some (SV.int .i64 (0 : Int)) :: some (SV.bool false) :: some (SV.int .i64 (0 : Int)) :: nn 97 ([])) [.cells [SV.int .i64 (0 : Int), SV.int .i64 (0 : Int), SV.int .i64 (0 : Int), SV.int .i64 (0 : Int), SV.int .i64 (0 : Int), SV.ros undef kP []] (nat_lit 26), .seq kP [] (nat_lit 23), .cells [SV.sl (nat_lit 3), SV.sl (nat_lit 4), SV.sl (nat_lit 5), SV.int .i64 (0 : Int)] (nat_lit 31), .seq kP [] (nat_lit 23), .seq kP [] (nat_lit 23), .seq kP [] (nat_lit 23), .cells [SV.int .i64 (0 : Int), SV.int .i64 (0 : Int), SV.int .i64 (0 : Int), SV.int .i64 (0 : Int)] (nat_lit 36), .cells [SV.int .i64 (0 : Int), SV.int .i64 (0 : Int), SV.int .i64 (0 : Int), SV.int .i64 (0 : Int)] (nat_lit 36)]
noncomputable abbrev lscores_S4 (y1 : Bool) (y2 y3 y4 y5 : Int) (y6 : Bool) (y7 y8 y9 y10 y11 y12 : Int) (y13 : Value) (y14 y15 : L3) (y16 : Int) (y17 y18 y19 : L3) (y20 y21 y22 y23 y24 y25 y26 y27 : Int) : St := St.mk (none :: none :: some (SV.ptr (nat_lit 0) (nat_lit 0)) :: none :: none :: some (SV.bool y1) :: some (SV.sl (nat_lit 1)) :: some (SV.ptr (nat_lit 2) (nat_lit 0)) :: some (SV.int .i64 y2) :: none :: some (SV.int .i64 y3) :: some (SV.ptr (nat_lit 6) (nat_lit 0)) :: some (SV.int .i64 y4) :: some (SV.ptr (nat_lit 7) (nat_lit 0)) :: some (SV.int .i64 y5) :: some (SV.bool y6) :: none :: some (SV.int .i64 y7) :: nn 96 ([])) [.cells [SV.int .i64 y8, SV.int .i64 y9, SV.int .i64 y10, SV.int .i64 y11, SV.int .i64 y12, SV.ros y13 kP y14] (nat_lit 26), .seq kP y15 (nat_lit 23), .cells [SV.sl (nat_lit 3), SV.sl (nat_lit 4), SV.sl (nat_lit 5), SV.int .i64 y16] (nat_lit 31), .seq kP y17 (nat_lit 23), .seq kP y18 (nat_lit 23), .seq kP y19 (nat_lit 23), .cells [SV.int .i64 y20, SV.int .i64 y21, SV.int .i64 y22, SV.int .i64 y23] (nat_lit 36), .cells [SV.int .i64 y24, SV.int .i64 y25, SV.int .i64 y26, SV.int .i64 y27] (nat_lit 36)]
noncomputable abbrev lscores_S5 (y1 : Bool) (y2 y3 y4 y5 : Int) (y6 : Bool) (y7 y8 y9 y10 y11 : Int) (y12 : Value) (y13 y14 : L3) (y15 y16 y17 y18 y19 y20 y21 y22 : Int) : St := St.mk (none :: none :: some (SV.ptr (nat_lit 0) (nat_lit 0)) :: none :: none :: some (SV.bool y1) :: some (SV.sl (nat_lit 1)) :: none :: some (SV.int .i64 y2) :: none :: some (SV.int .i64 y3) :: some (SV.ptr (nat_lit 2) (nat_lit 0)) :: some (SV.int .i64 y4) :: some (SV.ptr (nat_lit 3) (nat_lit 0)) :: some (SV.int .i64 y5) :: some (SV.bool y6) :: nn 98 ([])) [.cells [SV.int .i64 y7, SV.int .i64 y8, SV.int .i64 y9, SV.int .i64 y10, SV.int .i64 y11, SV.ros y12 kP y13] (nat_lit 26), .seq kP y14 (nat_lit 23), .cells [SV.int .i64 y15, SV.int .i64 y16, SV.int .i64 y17, SV.int .i64 y18] (nat_lit 36), .cells [SV.int .i64 y19, SV.int .i64 y20, SV.int .i64 y21, SV.int .i64 y22] (nat_lit 36)]
noncomputable abbrev lscores_S6 : St := St.mk (none :: none :: some (SV.ptr (nat_lit 0) (nat_lit 0)) :: none :: none :: some (SV.bool false) :: some (SV.sl (nat_lit 1)) :: some (SV.ptr (nat_lit 2) (nat_lit 0)) :: some (SV.int .i64 (0 : Int)) :: none :: some (SV.int .i64 (0 : Int)) :: some (SV.ptr (nat_lit 6) (nat_lit 0)) :: some (SV.int .i64 (0 : Int)) :: some (SV.ptr (nat_lit 7) (nat_lit 0)) :: some (SV.int .i64 (0 : Int)) :: some (SV.bool false) :: none :: some (SV.int .i64 (0 : Int)) :: nn 96 ([])) [.cells [SV.int .i64 (0 : Int), SV.int .i64 (0 : Int), SV.int .i64 (0 : Int), SV.int .i64 (0 : Int), SV.int .i64 (0 : Int), SV.ros undef kP []] (nat_lit 26), .seq kP [] (nat_lit 23), .cells [SV.sl (nat_lit 3), SV.sl (nat_lit 4), SV.sl (nat_lit 5), SV.int .i64 (0 : Int)] (nat_lit 31), .seq kP [] (nat_lit 23), .seq kP [] (nat_lit 23), .seq kP [] (nat_lit 23), .cells [SV.int .i64 (0 : Int), SV.int .i64 (0 : Int), SV.int .i64 (0 : Int), SV.int .i64 (0 : Int)] (nat_lit 36), .cells [SV.int .i64 (0 : Int), SV.int .i64 (0 : Int), SV.int .i64 (0 : Int), SV.int .i64 (0 : Int)] (nat_lit 36)]
abbrev lscores_P1 : List Bool := [false, true, false, true, true, true, true, true, true, true, true, true, true]
abbrev lscores_P2 : List Bool := [false, true, false, true, true, true, true, true, true, true, true, true]
noncomputable def _root_.Go.Proofs.Ytkjellhkamfciaa.M.lscores_l0_step {α : Type} (kn : Int → L3 → Option α) (k1 : L3 → Option α) (x41 : Int) (x51 : L3) : Option α :=
  if cLt x41 (↑(List.length x51) : Int) = true then if (0 : Int) ≤ x41 ∧ x41 < (↑(List.length x51) : Int) then kn (IntKind.wrap .i64 (x41 + (1 : Int))) (List.set x51 (Int.toNat x41) ((-9 : Int), Prod.snd (List.getD x51 (Int.toNat x41) ((0 : Int), (0 : Int), (0 : Int))))) else none else k1 x51
noncomputable def _root_.Go.Proofs.Ytkjellhkamfciaa.M.lscores_l0 {α : Type} (k1 : L3 → Option α) : Nat → Int → L3 → Option α
  | 0, _, _ => none
  | n + 1, x41, x51 => M.lscores_l0_step (M.lscores_l0 k1 n) k1 x41 x51
theorem lscores_l0_step_eq {α : Type} (x35 : Bool) (x36 : Int) (x37 : Int) (x38 : Int) (x39 : Int) (x40 : Bool) (x41 : Int) (x42 : Int) (x43 : Int) (x44 : Int) (x45 : Int) (x46 : Int) (x47 : Value) (x48 : L3) (x49 : L3) (x50 : Int) (x51 : L3) (x52 : L3) (x53 : L3) (x54 : Int) (x55 : Int) (x56 : Int) (x57 : Int) (x58 : Int) (x59 : Int) (x60 : Int) (x61 : Int) (Q : Ex → St → Option α) : (loopStep E (exec E look_lcores noLps 400) 3 lscores_P2 0 (codeAt E.P 3 lscores_P2)) (lscores_S1 x35 x36 x37 x38 x39 x40 x41 x42 x43 x44 x45 x46 x47 x48 x49 x50 x51 x52 x53 x54 x55 x56 x57 x58 x59 x60 x61) Q = M.lscores_l0_step (fun (x63 : Int) (x64 : L3) => Q .normal (lscores_S1 x35 x36 x37 x38 x39 x40 x63 x42 x43 x44 x45 x46 x47 x48 x49 x50 x64 x52 x53 x54 x55 x56 x57 x58 x59 x60 x61)) (fun (x62 : L3) => Q (.exit 0) (lscores_S2 x35 x36 x37 x38 x39 x40 x42 x43 x44 x45 x46 x47 x48 x49 x50 x62 x52 x53 x54 x55 x56 x57 x58 x59 x60 x61)) x41 x51 := by kernel_rfl
theorem lscores_l0_iter {α : Type} (x35 : Bool) (x36 : Int) (x37 : Int) (x38 : Int) (x39 : Int) (x40 : Bool) (x42 : Int) (x43 : Int) (x44 : Int) (x45 : Int) (x46 : Int) (x47 : Value) (x48 : L3) (x49 : L3) (x50 : Int) (x52 : L3) (x53 : L3) (x54 : Int) (x55 : Int) (x56 : Int) (x57 : Int) (x58 : Int) (x59 : Int) (x60 : Int) (x61 : Int) (Q : Ex → St → Option α) : ∀ (n : Nat) (x41 : Int) (x51 : L3), iter (loopStep E (exec E look_lcores noLps 400) 3 lscores_P2 0 (codeAt E.P 3 lscores_P2)) n (lscores_S1 x35 x36 x37 x38 x39 x40 x41 x42 x43 x44 x45 x46 x47 x48 x49 x50 x51 x52 x53 x54 x55 x56 x57 x58 x59 x60 x61) Q = M.lscores_l0 (fun (x62 : L3) => Q (.exit 0) (lscores_S2 x35 x36 x37 x38 x39 x40 x42 x43 x44 x45 x46 x47 x48 x49 x50 x62 x52 x53 x54 x55 x56 x57 x58 x59 x60 x61)) n x41 x51
  | 0, _, _ => rfl
  | n + 1, x41, x51 => (lscores_l0_step_eq x35 x36 x37 x38 x39 x40 x41 x42 x43 x44 x45 x46 x47 x48 x49 x50 x51 x52 x53 x54 x55 x56 x57 x58 x59 x60 x61 (iterK (loopStep E (exec E look_lcores noLps 400) 3 lscores_P2 0 (codeAt E.P 3 lscores_P2)) n Q)).trans (congrArg (fun kn => M.lscores_l0_step kn (fun (x62 : L3) => Q (.exit 0) (lscores_S2 x35 x36 x37 x38 x39 x40 x42 x43 x44 x45 x46 x47 x48 x49 x50 x62 x52 x53 x54 x55 x56 x57 x58 x59 x60 x61)) x41 x51) (funext fun x41 => funext fun x51 => lscores_l0_iter x35 x36 x37 x38 x39 x40 x42 x43 x44 x45 x46 x47 x48 x49 x50 x52 x53 x54 x55 x56 x57 x58 x59 x60 x61 Q n x41 x51))
noncomputable def lscores_l0_go {α : Type} (ds : List D) (Q : Ex → St → Option α) : Option α :=
  dB ds fun x35 ds => dI ds fun x36 ds => dI ds fun x37 ds => dI ds fun x38 ds => dI ds fun x39 ds => dB ds fun x40 ds => dI ds fun x41 ds => dI ds fun x42 ds => dI ds fun x43 ds => dI ds fun x44 ds => dI ds fun x45 ds => dI ds fun x46 ds => dV ds fun x47 ds => dL kP ds fun x48 ds => dL kP ds fun x49 ds => dI ds fun x50 ds => dL kP ds fun x51 ds => dL kP ds fun x52 ds => dL kP ds fun x53 ds => dI ds fun x54 ds => dI ds fun x55 ds => dI ds fun x56 ds => dI ds fun x57 ds => dI ds fun x58 ds => dI ds fun x59 ds => dI ds fun x60 ds => dI ds fun x61 ds => dE ds (M.lscores_l0 (fun (x62 : L3) => Q (.exit 0) (lscores_S2 x35 x36 x37 x38 x39 x40 x42 x43 x44 x45 x46 x47 x48 x49 x50 x62 x52 x53 x54 x55 x56 x57 x58 x59 x60 x61)) (100 + x48.length + x49.length + x51.length + x52.length + x53.length) x41 x51)
theorem lscores_l0_ok {α : Type} : LoopOk E.P 3 lscores_P2 0 (lEnt (α := α) (lscores_S3) lscores_l0_go) :=
  lEnt_ok E (exec_sound E E_ok (look_lcores_ok) (noLps_ok _) 400) fun ds Q r h S hS => by
    unfold lscores_l0_go at h
    obtain ⟨x35, ds, rfl, h1⟩ := dB_inv h
    obtain ⟨x36, ds, rfl, h2⟩ := dI_inv h1
    obtain ⟨x37, ds, rfl, h3⟩ := dI_inv h2
    obtain ⟨x38, ds, rfl, h4⟩ := dI_inv h3
    obtain ⟨x39, ds, rfl, h5⟩ := dI_inv h4
    obtain ⟨x40, ds, rfl, h6⟩ := dB_inv h5
    obtain ⟨x41, ds, rfl, h7⟩ := dI_inv h6
    obtain ⟨x42, ds, rfl, h8⟩ := dI_inv h7
    obtain ⟨x43, ds, rfl, h9⟩ := dI_inv h8
    obtain ⟨x44, ds, rfl, h10⟩ := dI_inv h9
    obtain ⟨x45, ds, rfl, h11⟩ := dI_inv h10
    obtain ⟨x46, ds, rfl, h12⟩ := dI_inv h11
    obtain ⟨x47, ds, rfl, h13⟩ := dV_inv h12
    obtain ⟨x48, ds, rfl, h14⟩ := dL_inv h13
    obtain ⟨x49, ds, rfl, h15⟩ := dL_inv h14
    obtain ⟨x50, ds, rfl, h16⟩ := dI_inv h15
    obtain ⟨x51, ds, rfl, h17⟩ := dL_inv h16
    obtain ⟨x52, ds, rfl, h18⟩ := dL_inv h17
    obtain ⟨x53, ds, rfl, h19⟩ := dL_inv h18
    obtain ⟨x54, ds, rfl, h20⟩ := dI_inv h19
    obtain ⟨x55, ds, rfl, h21⟩ := dI_inv h20
    obtain ⟨x56, ds, rfl, h22⟩ := dI_inv h21
    obtain ⟨x57, ds, rfl, h23⟩ := dI_inv h22
    obtain ⟨x58, ds, rfl, h24⟩ := dI_inv h23
    obtain ⟨x59, ds, rfl, h25⟩ := dI_inv h24
    obtain ⟨x60, ds, rfl, h26⟩ := dI_inv h25
    obtain ⟨x61, ds, rfl, h27⟩ := dI_inv h26
    obtain ⟨rfl, hE⟩ := dE_inv h27
    have e : fillS (lscores_S3) [.b x35, .i x36, .i x37, .i x38, .i x39, .b x40, .i x41, .i x42, .i x43, .i x44, .i x45, .i x46, .v x47, .l kP x48, .l kP x49, .i x50, .l kP x51, .l kP x52, .l kP x53, .i x54, .i x55, .i x56, .i x57, .i x58, .i x59, .i x60, .i x61] = some (lscores_S1 x35 x36 x37 x38 x39 x40 x41 x42 x43 x44 x45 x46 x47 x48 x49 x50 x51 x52 x53 x54 x55 x56 x57 x58 x59 x60 x61) := by kernel_rfl
    rw [e] at hS
    cases hS
    exact ⟨_, (lscores_l0_iter x35 x36 x37 x38 x39 x40 x42 x43 x44 x45 x46 x47 x48 x49 x50 x52 x53 x54 x55 x56 x57 x58 x59 x60 x61 Q _ x41 x51).trans hE⟩
noncomputable def lscores_l0_lps {α : Type} : LookL α := addLp 3 lscores_P2 0 (lEnt (lscores_S3) lscores_l0_go) noLps
theorem lscores_l0_lps_ok {α : Type} : LoopsOk E.P (lscores_l0_lps (α := α)) := addLp_ok lscores_l0_ok (noLps_ok _)

noncomputable def _root_.Go.Proofs.Ytkjellhkamfciaa.M.lscores_l1_step {α : Type} (kn : Int → L3 → Option α) (k1 : Option α) (x100 : Int) (x111 : L3) : Option α :=
  if cLt x100 (↑(List.length x111) : Int) = true then if (0 : Int) ≤ x100 ∧ x100 < (↑(List.length x111) : Int) then kn (IntKind.wrap .i64 (x100 + (1 : Int))) (List.set x111 (Int.toNat x100) ((-9 : Int), Prod.snd (List.getD x111 (Int.toNat x100) ((0 : Int), (0 : Int), (0 : Int))))) else none else k1
noncomputable def _root_.Go.Proofs.Ytkjellhkamfciaa.M.lscores_l1 {α : Type} (k1 : Option α) : Nat → Int → L3 → Option α
  | 0, _, _ => none
  | n + 1, x100, x111 => M.lscores_l1_step (M.lscores_l1 k1 n) k1 x100 x111
theorem lscores_l1_step_eq {α : Type} (x94 : Bool) (x95 : Int) (x96 : Int) (x97 : Int) (x98 : Int) (x99 : Bool) (x100 : Int) (x101 : Int) (x102 : Int) (x103 : Int) (x104 : Int) (x105 : Int) (x106 : Value) (x107 : L3) (x108 : L3) (x109 : Int) (x110 : L3) (x111 : L3) (x112 : L3) (x113 : Int) (x114 : Int) (x115 : Int) (x116 : Int) (x117 : Int) (x118 : Int) (x119 : Int) (x120 : Int) (Q : Ex → St → Option α) : (loopStep E (exec E look_lcores lscores_l0_lps 400) 3 lscores_P1 0 (codeAt E.P 3 lscores_P1)) (lscores_S4 x94 x95 x96 x97 x98 x99 x100 x101 x102 x103 x104 x105 x106 x107 x108 x109 x110 x111 x112 x113 x114 x115 x116 x117 x118 x119 x120) Q = M.lscores_l1_step (fun (x121 : Int) (x122 : L3) => Q .normal (lscores_S4 x94 x95 x96 x97 x98 x99 x121 x101 x102 x103 x104 x105 x106 x107 x108 x109 x110 x122 x112 x113 x114 x115 x116 x117 x118 x119 x120)) (Q (.exit 2) (lscores_S5 x94 x95 x96 x97 x98 x99 x101 x102 x103 x104 x105 x106 x107 x108 x113 x114 x115 x116 x117 x118 x119 x120)) x100 x111 := by kernel_rfl
theorem lscores_l1_iter {α : Type} (x94 : Bool) (x95 : Int) (x96 : Int) (x97 : Int) (x98 : Int) (x99 : Bool) (x101 : Int) (x102 : Int) (x103 : Int) (x104 : Int) (x105 : Int) (x106 : Value) (x107 : L3) (x108 : L3) (x109 : Int) (x110 : L3) (x112 : L3) (x113 : Int) (x114 : Int) (x115 : Int) (x116 : Int) (x117 : Int) (x118 : Int) (x119 : Int) (x120 : Int) (Q : Ex → St → Option α) : ∀ (n : Nat) (x100 : Int) (x111 : L3), iter (loopStep E (exec E look_lcores lscores_l0_lps 400) 3 lscores_P1 0 (codeAt E.P 3 lscores_P1)) n (lscores_S4 x94 x95 x96 x97 x98 x99 x100 x101 x102 x103 x104 x105 x106 x107 x108 x109 x110 x111 x112 x113 x114 x115 x116 x117 x118 x119 x120) Q = M.lscores_l1 (Q (.exit 2) (lscores_S5 x94 x95 x96 x97 x98 x99 x101 x102 x103 x104 x105 x106 x107 x108 x113 x114 x115 x116 x117 x118 x119 x120)) n x100 x111
  | 0, _, _ => rfl
  | n + 1, x100, x111 => (lscores_l1_step_eq x94 x95 x96 x97 x98 x99 x100 x101 x102 x103 x104 x105 x106 x107 x108 x109 x110 x111 x112 x113 x114 x115 x116 x117 x118 x119 x120 (iterK (loopStep E (exec E look_lcores lscores_l0_lps 400) 3 lscores_P1 0 (codeAt E.P 3 lscores_P1)) n Q)).trans (congrArg (fun kn => M.lscores_l1_step kn (Q (.exit 2) (lscores_S5 x94 x95 x96 x97 x98 x99 x101 x102 x103 x104 x105 x106 x107 x108 x113 x114 x115 x116 x117 x118 x119 x120)) x100 x111) (funext fun x100 => funext fun x111 => lscores_l1_iter x94 x95 x96 x97 x98 x99 x101 x102 x103 x104 x105 x106 x107 x108 x109 x110 x112 x113 x114 x115 x116 x117 x118 x119 x120 Q n x100 x111))
noncomputable def lscores_l1_go {α : Type} (ds : List D) (Q : Ex → St → Option α) : Option α :=
  dB ds fun x94 ds => dI ds fun x95 ds => dI ds fun x96 ds => dI ds fun x97 ds => dI ds fun x98 ds => dB ds fun x99 ds => dI ds fun x100 ds => dI ds fun x101 ds => dI ds fun x102 ds => dI ds fun x103 ds => dI ds fun x104 ds => dI ds fun x105 ds => dV ds fun x106 ds => dL kP ds fun x107 ds => dL kP ds fun x108 ds => dI ds fun x109 ds => dL kP ds fun x110 ds => dL kP ds fun x111 ds => dL kP ds fun x112 ds => dI ds fun x113 ds => dI ds fun x114 ds => dI ds fun x115 ds => dI ds fun x116 ds => dI ds fun x117 ds => dI ds fun x118 ds => dI ds fun x119 ds => dI ds fun x120 ds => dE ds (M.lscores_l1 (Q (.exit 2) (lscores_S5 x94 x95 x96 x97 x98 x99 x101 x102 x103 x104 x105 x106 x107 x108 x113 x114 x115 x116 x117 x118 x119 x120)) (100 + x107.length + x108.length + x110.length + x111.length + x112.length) x100 x111)
theorem lscores_l1_ok {α : Type} : LoopOk E.P 3 lscores_P1 0 (lEnt (α := α) (lscores_S6) lscores_l1_go) :=
  lEnt_ok E (exec_sound E E_ok (look_lcores_ok) (lscores_l0_lps_ok) 400) fun ds Q r h S hS => by
    unfold lscores_l1_go at h
    obtain ⟨x94, ds, rfl, h1⟩ := dB_inv h
    obtain ⟨x95, ds, rfl, h2⟩ := dI_inv h1
    obtain ⟨x96, ds, rfl, h3⟩ := dI_inv h2
    obtain ⟨x97, ds, rfl, h4⟩ := dI_inv h3
    obtain ⟨x98, ds, rfl, h5⟩ := dI_inv h4
    obtain ⟨x99, ds, rfl, h6⟩ := dB_inv h5
    obtain ⟨x100, ds, rfl, h7⟩ := dI_inv h6
    obtain ⟨x101, ds, rfl, h8⟩ := dI_inv h7
    obtain ⟨x102, ds, rfl, h9⟩ := dI_inv h8
    obtain ⟨x103, ds, rfl, h10⟩ := dI_inv h9
    obtain ⟨x104, ds, rfl, h11⟩ := dI_inv h10
    obtain ⟨x105, ds, rfl, h12⟩ := dI_inv h11
    obtain ⟨x106, ds, rfl, h13⟩ := dV_inv h12
    obtain ⟨x107, ds, rfl, h14⟩ := dL_inv h13
    obtain ⟨x108, ds, rfl, h15⟩ := dL_inv h14
    obtain ⟨x109, ds, rfl, h16⟩ := dI_inv h15
    obtain ⟨x110, ds, rfl, h17⟩ := dL_inv h16
    obtain ⟨x111, ds, rfl, h18⟩ := dL_inv h17
    obtain ⟨x112, ds, rfl, h19⟩ := dL_inv h18
    obtain ⟨x113, ds, rfl, h20⟩ := dI_inv h19
    obtain ⟨x114, ds, rfl, h21⟩ := dI_inv h20
    obtain ⟨x115, ds, rfl, h22⟩ := dI_inv h21
    obtain ⟨x116, ds, rfl, h23⟩ := dI_inv h22
    obtain ⟨x117, ds, rfl, h24⟩ := dI_inv h23
    obtain ⟨x118, ds, rfl, h25⟩ := dI_inv h24
    obtain ⟨x119, ds, rfl, h26⟩ := dI_inv h25
    obtain ⟨x120, ds, rfl, h27⟩ := dI_inv h26
    obtain ⟨rfl, hE⟩ := dE_inv h27
    have e : fillS (lscores_S6) [.b x94, .i x95, .i x96, .i x97, .i x98, .b x99, .i x100, .i x101, .i x102, .i x103, .i x104, .i x105, .v x106, .l kP x107, .l kP x108, .i x109, .l kP x110, .l kP x111, .l kP x112, .i x113, .i x114, .i x115, .i x116, .i x117, .i x118, .i x119, .i x120] = some (lscores_S4 x94 x95 x96 x97 x98 x99 x100 x101 x102 x103 x104 x105 x106 x107 x108 x109 x110 x111 x112 x113 x114 x115 x116 x117 x118 x119 x120) := by kernel_rfl
    rw [e] at hS
    cases hS
    exact ⟨_, (lscores_l1_iter x94 x95 x96 x97 x98 x99 x101 x102 x103 x104 x105 x106 x107 x108 x109 x110 x112 x113 x114 x115 x116 x117 x118 x119 x120 Q _ x100 x111).trans hE⟩
noncomputable def lscores_l1_lps {α : Type} : LookL α := addLp 3 lscores_P1 0 (lEnt (lscores_S6) lscores_l1_go) lscores_l0_lps
theorem lscores_l1_lps_ok {α : Type} : LoopsOk E.P (lscores_l1_lps (α := α)) := addLp_ok lscores_l1_ok (lscores_l0_lps_ok)

noncomputable def _root_.Go.Proofs.Ytkjellhkamfciaa.M.lscores {α : Type} (k : Int) (r : Int) (hx : Int) (hy : Int) (hz : Int) (l : L3) (m : Int) (k0 : Bool → Option α) : Option α :=
  if cLt (40 : Int) (↑(List.length l) : Int) = true then k0 (cEq (V.chk k r hx hy hz l) (V.chk k r hx hy hz l))
else
  if List.length l * (24 : Nat) ≤ (140737488355328 : Nat) then
    if V.lenB (List.length (V.corP k r hx hy hz l)) = true ∧ V.lenB (List.length (V.corA k r hx hy hz l)) = true ∧ V.lenB (List.length (V.corE k r hx hy hz l)) = true then
      M.lscores_l0
        (fun (x124 : L3) ↦
          M.lscores_l1
            (if V.corEq (V.corP k r hx hy hz l) (V.corA k r hx hy hz l) (V.corE k r hx hy hz l) (V.corR k r hx hy hz l) (V.corP k r hx hy hz l) (V.corA k r hx hy hz l) (V.corE k r hx hy hz l) (V.corR k r hx hy hz l) = true then
              if cEq (V.chk k r hx hy hz l) (V.chk k r hx hy hz l) = true then
                if (cEq (V.masM k r hx hy hz l m) (V.masM k r hx hy hz l m) && (cEq (Prod.fst (V.masI k r hx hy hz l m)) (Prod.fst (V.masI k r hx hy hz l m)) && (cEq (Prod.fst (Prod.snd (V.masI k r hx hy hz l m))) (Prod.fst (Prod.snd (V.masI k r hx hy hz l m))) && (cEq (Prod.snd (Prod.snd (V.masI k r hx hy hz l m))) (Prod.snd (Prod.snd (V.masI k r hx hy hz l m))) && true)) && true)) = true then
                  if cEq (V.masE k r hx hy hz l m) (V.masE k r hx hy hz l m) = true then if cEq (V.chk k r hx hy hz l) (V.chk k r hx hy hz l) = true then if V.lenB (List.length l) = true then k0 (V.ptsEq l l) else none else k0 false else k0 false
                else k0 false
              else k0 false
            else k0 false)
            ((100 : Nat) + List.length l + List.length l + List.length x124 + List.length (V.corA k r hx hy hz l) + List.length (V.corE k r hx hy hz l)) (0 : Int) (V.corA k r hx hy hz l))
        ((100 : Nat) + List.length l + List.length l + List.length (V.corP k r hx hy hz l) + List.length (V.corA k r hx hy hz l) + List.length (V.corE k r hx hy hz l)) (0 : Int) (V.corP k r hx hy hz l)
    else none
  else none
theorem lscores_eq {α : Type} (k : Int) (r : Int) (hx : Int) (hy : Int) (hz : Int) (l : L3) (m : Int) (v123 : Value) (Q : SV → Hp → Option α) : callI E look_lcores (exec E look_lcores lscores_l1_lps 400) 3 ([SV.agg [SV.int .i64 k, SV.int .i64 r, SV.int .i64 hx, SV.int .i64 hy, SV.int .i64 hz, SV.ros v123 kP l], SV.int .i64 m]) ([]) Q = M.lscores k r hx hy hz l m (fun (x125 : Bool) => Q (SV.bool x125) ([])) := by kernel_rfl
def lscores_sp : List AS := [.st [.leaf (.int .i64 0), .leaf (.int .i64 0), .leaf (.int .i64 0), .leaf (.int .i64 0), .leaf (.int .i64 0), .ro kP], .val (.int .i64 0)]
theorem cset_l0 {α : Type} (k1 : List P3 → Option α) : ∀ (fuel i : Nat) (X : List P3), X.length < 1099511627776 → i ≤ X.length → X.length - i < fuel → ∃ Y : List P3, Y.length = X.length ∧ M.lscores_l0 k1 fuel (i : Int) X = k1 Y
  | 0, i, X, h0, h1, h2 => by omega
  | f + 1, i, X, h0, h1, h2 => by
    unfold M.lscores_l0 M.lscores_l0_step
    rw [cLt_nat]
    by_cases hi : i < X.length
    · rw [if_pos (by simpa using hi), if_pos (by omega : (0 : Int) ≤ (i : Int) ∧ (i : Int) < (X.length : Int)), w_next (by omega)]
      obtain ⟨Y, y1, y2⟩ := cset_l0 k1 f (i + 1) (List.set X (Int.toNat (i : Int)) ((-9 : Int), Prod.snd (List.getD X (Int.toNat (i : Int)) ((0 : Int), (0 : Int), (0 : Int))))) (by rw [List.length_set]; omega) (by rw [List.length_set]; omega) (by rw [List.length_set]; omega)
      exact ⟨Y, by rw [y1, List.length_set], y2⟩
    · exact ⟨X, rfl, by rw [if_neg (by simpa using hi)]⟩
theorem cset_all {α : Type} (k1 : List P3 → Option α) (v : Option α) (fuel i : Nat) (X : List P3) (h0 : X.length < 1099511627776) (h1 : i ≤ X.length) (h2 : X.length - i < fuel) (h : ∀ Y : List P3, Y.length = X.length → k1 Y = v) : M.lscores_l0 k1 fuel (i : Int) X = v := by
  obtain ⟨Y, y1, y2⟩ := cset_l0 k1 fuel i X h0 h1 h2
  rw [y2]; exact h Y y1
theorem cset_l1 {α : Type} (k1 : Option α) : ∀ (fuel i : Nat) (X : List P3), X.length < 1099511627776 → i ≤ X.length → X.length - i < fuel → M.lscores_l1 k1 fuel (i : Int) X = k1
  | 0, i, X, h0, h1, h2 => by omega
  | f + 1, i, X, h0, h1, h2 => by
    unfold M.lscores_l1 M.lscores_l1_step
    rw [cLt_nat]
    by_cases hi : i < X.length
    · rw [if_pos (by simpa using hi), if_pos (by omega : (0 : Int) ≤ (i : Int) ∧ (i : Int) < (X.length : Int)), w_next (by omega)]
      exact cset_l1 k1 f (i + 1) _ (by rw [List.length_set]; omega) (by rw [List.length_set]; omega) (by rw [List.length_set]; omega)
    · rw [if_neg (by simpa using hi)]
theorem cor_lens (k r hx hy hz : Int) (l : List P3) : (V.corP k r hx hy hz l).length ≤ 12 ∧ (V.corA k r hx hy hz l).length ≤ 7000 ∧ (V.corE k r hx hy hz l).length ≤ 7000 := by
  unfold V.corP V.corA V.corE
  simp only [hid_eq]
  by_cases hc : chkP k r hx hy hz l = 0
  · simp only [if_pos hc]
    refine ⟨(corPP_pos hc).2.1, ?_, ?_⟩
    · unfold corAP
      split
      · decide
      · split
        · rename_i h4
          have hl : l.length ≤ 12 := by rcases chk_range hc with ⟨h, _⟩ | ⟨h, _⟩ | ⟨h, _⟩ | ⟨_, _, h, _⟩ <;> omega
          have := iF_len l hl l.length 0 ([], [])
          have e : sz2 (([], []) : St2) = 0 := rfl
          unfold facesP
          unfold sz2 at this
          have e2 : (([], []) : St2).1.length = 0 := rfl
          have e3 : (([], []) : St2).2.length = 0 := rfl
          omega
        · decide
    · unfold corEP
      split
      · decide
      · split
        · decide
        · split
          · rename_i h4
            have hl : l.length ≤ 12 := by rcases chk_range hc with ⟨h, _⟩ | ⟨h, _⟩ | ⟨h, _⟩ | ⟨_, _, h, _⟩ <;> omega
            have := iF_len l hl l.length 0 ([], [])
            unfold facesP
            unfold sz2 at this
            have e2 : (([], []) : St2).1.length = 0 := rfl
            have e3 : (([], []) : St2).2.length = 0 := rfl
            omega
          · decide
  · simp only [if_neg hc]
    exact ⟨by simp, by simp, by simp⟩
theorem lscores_v {α : Type} (k r hx hy hz : Int) (l : List P3) (m : Int) (hl : l.length < 9223372036854775808) (k0 : Bool → Option α) : M.lscores k r hx hy hz l m k0 = k0 true := by
  unfold M.lscores
  have ee : ∀ a : Int, cEq a a = true := by intro a; rw [cEq_eq]; simp
  obtain ⟨c1, c2, c3⟩ := cor_lens k r hx hy hz l
  by_cases h40 : 40 < l.length
  · rw [if_pos (by rw [cLt_eq]; simp; omega), ee]
  · rw [if_neg (by rw [cLt_eq]; simp; omega), if_pos (by omega), if_pos ⟨lenB_of (by omega), lenB_of (by omega), lenB_of (by omega)⟩]
    refine cset_all _ (k0 true) _ 0 (V.corP k r hx hy hz l) (by omega) (by omega) (by omega) fun Y hY => ?_
    refine Eq.trans (cset_l1 _ _ 0 (V.corA k r hx hy hz l) (by omega) (by omega) (by omega)) ?_
    simp only [ee, Bool.and_true, if_true]
    rw [if_pos (by unfold V.corEq; simp), if_pos (lenB_of (by omega))]
    unfold V.ptsEq
    simp
noncomputable def lscores_h {α : Type} (ds : List D) (Q : SV → Hp → Option α) : Option α :=
  dI ds fun k ds => dI ds fun r ds => dI ds fun hx ds => dI ds fun hy ds => dI ds fun hz ds => dL kP ds fun l ds => dI ds fun m ds => dE ds (if V.gB (l.length < 9223372036854775808) = true then Q (.bool true) ([]) else none)
theorem lscores_h_ok {α : Type} : FnOk E.P 3 (fEnt (α := α) lscores_sp lscores_h) :=
  fEntR_ok E (look_lcores_ok) (exec_sound E E_ok (look_lcores_ok) (lscores_l1_lps_ok) 400) fun ds Q r h => by
    unfold lscores_h at h
    obtain ⟨k, ds, rfl, h1⟩ := dI_inv h
    obtain ⟨r, ds, rfl, h2⟩ := dI_inv h1
    obtain ⟨hx, ds, rfl, h3⟩ := dI_inv h2
    obtain ⟨hy, ds, rfl, h4⟩ := dI_inv h3
    obtain ⟨hz, ds, rfl, h5⟩ := dI_inv h4
    obtain ⟨l, ds, rfl, h6⟩ := dL_inv h5
    obtain ⟨m, ds, rfl, h7⟩ := dI_inv h6
    obtain ⟨rfl, hE⟩ := dE_inv h7
    split at hE
    · rename_i hg
      exact ⟨_, _, hE, fun vs => ⟨_, _, by kernel_rfl, (lscores_eq k r hx hy hz l m ((cellsV (vs.headD undef)).tail.tail.tail.tail.tail.headD undef) _).trans (lscores_v k r hx hy hz l m (gB_iff hg) _)⟩⟩
    · cases hE
noncomputable def look_lscores {α : Type} : LookF α := addFn 3 (fEnt lscores_sp lscores_h) look_lcores
theorem look_lscores_ok {α : Type} : LookOk E.P (look_lscores (α := α)) := addFn_ok lscores_h_ok (look_lcores_ok)
end Go.Proofs.Ytkjellhkamfciaa.Sx
end
