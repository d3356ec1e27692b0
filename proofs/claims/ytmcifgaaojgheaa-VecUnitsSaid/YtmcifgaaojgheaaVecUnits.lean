/- VecUnits: its run tells true. -/
import Derived.Test.YtmcifgaaojgheaaVecC
namespace Go.Proofs.Ytmcifgaaojgheaa.Sx
open Go
set_option maxRecDepth 20000
set_option linter.unusedVariables false
set_option linter.unusedSimpArgs false
noncomputable def _root_.Go.Proofs.Ytmcifgaaojgheaa.M.vunitsL {α : Type} (ax : Int) (ay : Int) (az : Int) (bx : Int) (b_y : Int) (bz : Int) (k0 : Bool → Option α) : Option α :=
  if (!cEq (V.gv (V.tDot (ax, ay, az) (bx, b_y, bz))) (V.gv (V.tDot (bx, b_y, bz) (ax, ay, az)))) = true then k0 false
else
  if
      (!(cEq (V.x3 (V.tAdd (ax, ay, az) (V.x3 (V.tSub ((0 : Int), (0 : Int), (0 : Int)) (ax, ay, az)), V.y3 (V.tSub ((0 : Int), (0 : Int), (0 : Int)) (ax, ay, az)), V.z3 (V.tSub ((0 : Int), (0 : Int), (0 : Int)) (ax, ay, az))))) (0 : Int) &&
            (cEq (V.y3 (V.tAdd (ax, ay, az) (V.x3 (V.tSub ((0 : Int), (0 : Int), (0 : Int)) (ax, ay, az)), V.y3 (V.tSub ((0 : Int), (0 : Int), (0 : Int)) (ax, ay, az)), V.z3 (V.tSub ((0 : Int), (0 : Int), (0 : Int)) (ax, ay, az))))) (0 : Int) && (cEq (V.z3 (V.tAdd (ax, ay, az) (V.x3 (V.tSub ((0 : Int), (0 : Int), (0 : Int)) (ax, ay, az)), V.y3 (V.tSub ((0 : Int), (0 : Int), (0 : Int)) (ax, ay, az)), V.z3 (V.tSub ((0 : Int), (0 : Int), (0 : Int)) (ax, ay, az))))) (0 : Int) && true)))) =
        true then
    k0 false
  else
    if V.gn (V.tLen (ax, ay, az)) false = true then k0 true
    else
      if cLt (V.gv (V.tLen (ax, ay, az))) (4294967296 : Int) = true then k0 true
      else if (!V.gn (V.tLen (V.x3 (V.tUnit (ax, ay, az)), V.y3 (V.tUnit (ax, ay, az)), V.z3 (V.tUnit (ax, ay, az)))) (V.on (V.tUnit (ax, ay, az)) (V.gn (V.tLen (ax, ay, az)) false))) = true then if cLe (4294967292 : Int) (V.gv (V.tLen (V.x3 (V.tUnit (ax, ay, az)), V.y3 (V.tUnit (ax, ay, az)), V.z3 (V.tUnit (ax, ay, az))))) = true then k0 (cLe (V.gv (V.tLen (V.x3 (V.tUnit (ax, ay, az)), V.y3 (V.tUnit (ax, ay, az)), V.z3 (V.tUnit (ax, ay, az))))) (4294967300 : Int)) else k0 false else k0 false
theorem vunitsL_eq {α : Type} (ax : Int) (ay : Int) (az : Int) (bx : Int) (b_y : Int) (bz : Int) (Q : SV → Hp → Option α) : callI E look_awake (exec E look_awake noLps 400) 7 ([SV.agg [SV.int IntKind.i64 ax, SV.int IntKind.i64 ay, SV.int IntKind.i64 az], SV.agg [SV.int IntKind.i64 bx, SV.int IntKind.i64 b_y, SV.int IntKind.i64 bz]]) ([]) Q = Go.Proofs.Ytmcifgaaojgheaa.M.vunitsL ax ay az bx b_y bz (fun (x0 : Bool) => Q (SV.bool x0) ([])) := by kernel_rfl
def vunitsL_sp : List AS := [.val (.agg [.int .i64 0, .int .i64 0, .int .i64 0]), .val (.agg [.int .i64 0, .int .i64 0, .int .i64 0])]
noncomputable def vunitsL_go {α : Type} (ds : List D) (Q : SV → Hp → Option α) : Option α :=
  dI ds fun ax ds => dI ds fun ay ds => dI ds fun az ds => dI ds fun bx ds => dI ds fun b_y ds => dI ds fun bz ds => dE ds (Go.Proofs.Ytmcifgaaojgheaa.M.vunitsL ax ay az bx b_y bz (fun (x0 : Bool) => Q (SV.bool x0) ([])))
theorem vunitsL_ok {α : Type} : FnOk E.P 7 (fEnt (α := α) vunitsL_sp vunitsL_go) :=
  fEnt_ok E (look_awake_ok) (exec_sound E E_ok (look_awake_ok) (noLps_ok _) 400) fun ds Q r h => by
    unfold vunitsL_go at h
    obtain ⟨ax, ds, rfl, h1⟩ := dI_inv h
    obtain ⟨ay, ds, rfl, h2⟩ := dI_inv h1
    obtain ⟨az, ds, rfl, h3⟩ := dI_inv h2
    obtain ⟨bx, ds, rfl, h4⟩ := dI_inv h3
    obtain ⟨b_y, ds, rfl, h5⟩ := dI_inv h4
    obtain ⟨bz, ds, rfl, h6⟩ := dI_inv h5
    obtain ⟨rfl, hE⟩ := dE_inv h6
    exact ⟨[SV.agg [SV.int IntKind.i64 ax, SV.int IntKind.i64 ay, SV.int IntKind.i64 az], SV.agg [SV.int IntKind.i64 bx, SV.int IntKind.i64 b_y, SV.int IntKind.i64 bz]], [], fun vs => by kernel_rfl, (vunitsL_eq ax ay az bx b_y bz Q).trans hE⟩
--##
theorem abs_mul {a r n : Int} (h1 : -n ≤ a) (h2 : a ≤ n) (h3 : 0 ≤ r) (h4 : r ≤ n) : -(n * n) ≤ a * r ∧ a * r ≤ n * n := by
  have e1 : 0 ≤ (a + n) * r := Int.mul_nonneg (by omega) h3
  have e2 : 0 ≤ (n - a) * r := Int.mul_nonneg (by omega) h3
  have e3 : n * r ≤ n * n := Int.mul_le_mul_of_nonneg_left h4 (by omega)
  rw [Int.add_mul] at e1
  rw [Int.sub_mul] at e2
  omega
theorem unit_part {a n t : Int} (hn : 0 < n) (h1 : -n ≤ a) (h2 : a ≤ n) (ht : t = Int.fdiv (a * 4294967296) n) :
    -4294967296 ≤ t ∧ t ≤ 4294967296 ∧ a * a * 18446744073709551616 - 8589934592 * (n * n) ≤ n * n * (t * t) ∧ n * n * (t * t) ≤ a * a * 18446744073709551616 + 8589934593 * (n * n) := by
  rw [fdiv_pos _ _ hn] at ht
  have e1 : a * 4294967296 / n * n + a * 4294967296 % n = a * 4294967296 := Int.ediv_mul_add_emod _ n
  have e2 : 0 ≤ a * 4294967296 % n := Int.emod_nonneg _ (by omega)
  have e3 : a * 4294967296 % n < n := Int.emod_lt_of_pos _ hn
  rw [← ht] at e1
  generalize a * 4294967296 % n = r at *
  obtain ⟨f1, f2⟩ := abs_mul h1 h2 e2 (by omega)
  have f3 : 0 ≤ r * r := sq_nn r
  have f4 : r * r ≤ n * n := Int.mul_le_mul (by omega) (by omega) e2 (by omega)
  have g : n * n * (t * t) = a * a * 18446744073709551616 - 8589934592 * (a * r) + r * r := by
    have : n * n * (t * t) = (t * n) * (t * n) := by grind
    rw [this, show t * n = a * 4294967296 - r by omega]
    grind
  refine ⟨?_, ?_, by omega, by omega⟩
  · rw [ht]; exact Int.le_ediv_of_mul_le hn (by omega)
  · rw [ht]; exact Int.ediv_le_of_le_mul hn (by omega)
theorem unit_len {a : V.T3} {n : Int} (h : V.tLen a = some n) (hn : 4294967296 ≤ n) : ∃ t l, V.tUnit a = some t ∧ V.tLen t = some l ∧ 4294967292 ≤ l ∧ l ≤ 4294967300 := by
  obtain ⟨x, y, z⟩ := a
  obtain ⟨gx, gy, gz, hs, hm⟩ := mNorm3_some.1 h
  simp only at gx gy gz hs
  have hS : 0 ≤ x * x + (y * y + z * z) := by have := sq_nn x; have := sq_nn y; have := sq_nn z; omega
  obtain ⟨q0, q1, q2⟩ := isqSpec hS
  rw [← hs] at q0 q1 q2
  have px := sq_nn x; have py := sq_nn y; have pz := sq_nn z
  have bx := sq_le (a := x) q0 (by omega)
  have b_y := sq_le (a := y) q0 (by omega)
  have bz := sq_le (a := z) q0 (by omega)
  have gn : Gd n := by unfold Gd; omega
  obtain ⟨x1, x2, x3, x4⟩ := unit_part (t := Int.fdiv (x * 4294967296) n) (by omega) bx.1 bx.2 rfl
  obtain ⟨y1, y2, y3, y4⟩ := unit_part (t := Int.fdiv (y * 4294967296) n) (by omega) b_y.1 b_y.2 rfl
  obtain ⟨z1, z2, z3, z4⟩ := unit_part (t := Int.fdiv (z * 4294967296) n) (by omega) bz.1 bz.2 rfl
  have gdx : Gd (Int.fdiv (x * 4294967296) n) := by unfold Gd; omega
  have gdy : Gd (Int.fdiv (y * 4294967296) n) := by unfold Gd; omega
  have gdz : Gd (Int.fdiv (z * 4294967296) n) := by unfold Gd; omega
  have hu : V.tUnit (x, y, z) = some (Int.fdiv (x * 4294967296) n, Int.fdiv (y * 4294967296) n, Int.fdiv (z * 4294967296) n) := by
    rw [tUnit_some]
    exact ⟨n, h, mDiv_some.2 ⟨by omega, gx, gn, gdx, rfl⟩, mDiv_some.2 ⟨by omega, gy, gn, gdy, rfl⟩, mDiv_some.2 ⟨by omega, gz, gn, gdz, rfl⟩⟩
  generalize Int.fdiv (x * 4294967296) n = t at *
  generalize Int.fdiv (y * 4294967296) n = u at *
  generalize Int.fdiv (z * 4294967296) n = v at *
  have pt := sq_nn t; have pu := sq_nn u; have pv := sq_nn v
  have hN : 0 < n * n := Int.mul_pos (by omega) (by omega)
  have hc : n * 4294967296 ≤ n * n := Int.mul_le_mul_of_nonneg_left hn (by omega)
  have e1 : (n + 1) * (n + 1) = n * n + 2 * n + 1 := by grind
  rw [e1] at q2
  have eT : n * n * (t * t + (u * u + v * v)) = n * n * (t * t) + (n * n * (u * u) + n * n * (v * v)) := by grind
  generalize hN' : n * n = N at *
  generalize hT : t * t + (u * u + v * v) = T at *
  have lo : 18446744047939747840 ≤ T := by
    refine Int.le_of_mul_le_mul_left (a := N) ?_ hN
    rw [eT]; omega
  have hi : T ≤ 18446744108069289987 := by
    refine Int.le_of_mul_le_mul_left (a := N) ?_ hN
    rw [eT]; omega
  obtain ⟨l0, l1, l2⟩ := isqSpec (show 0 ≤ T by omega)
  have k1 : 4294967292 ≤ V.isq T := by
    by_cases hl : 4294967292 ≤ V.isq T
    · exact hl
    · have : (V.isq T + 1) * (V.isq T + 1) ≤ 4294967292 * 4294967292 := Int.mul_le_mul (by omega) (by omega) (by omega) (by omega)
      omega
  have k2 : V.isq T ≤ 4294967300 := by
    by_cases hl : V.isq T ≤ 4294967300
    · exact hl
    · have : 4294967301 * 4294967301 ≤ V.isq T * V.isq T := Int.mul_le_mul (by omega) (by omega) (by omega) (by omega)
      omega
  have gt : Gd t := by unfold Gd; omega
  have gu : Gd u := by unfold Gd; omega
  have gv : Gd v := by unfold Gd; omega
  exact ⟨(t, u, v), V.isq T, hu, mNorm3_some.2 ⟨gt, gu, gv, by rw [hT], by omega⟩, k1, k2⟩
theorem dot_comm (a b : V.T3) : V.tDot a b = V.tDot b a := by
  apply Option.ext
  intro m
  show V.mDot _ _ = some m ↔ V.mDot _ _ = some m
  rw [mDot3_some, mDot3_some, Int.mul_comm a.1, Int.mul_comm a.2.1, Int.mul_comm a.2.2]
  constructor
  · rintro ⟨a1, a2, a3, a4, a5, a6, a7⟩; exact ⟨a4, a5, a6, a1, a2, a3, a7⟩
  · rintro ⟨a1, a2, a3, a4, a5, a6, a7⟩; exact ⟨a4, a5, a6, a1, a2, a3, a7⟩
theorem add_sub_zero (a : V.T3) : V.q3 (V.tAdd a (V.q3 (V.tSub (0, 0, 0) a))) = (0, 0, 0) := by
  cases h : V.tSub (0, 0, 0) a with
  | none =>
    show V.q3 (V.tAdd a (0, 0, 0)) = _
    cases h2 : V.tAdd a (0, 0, 0) with
    | none => rfl
    | some t =>
      obtain ⟨a1, a2, a3⟩ := tAdd_some.1 h2
      have g1 := (mAdd_some.1 a1).1; have g2 := (mAdd_some.1 a2).1; have g3 := (mAdd_some.1 a3).1
      have : V.tSub (0, 0, 0) a = some (-a.1, -a.2.1, -a.2.2) := tSub_some.2 ⟨negO.2 ⟨g1, rfl⟩, negO.2 ⟨g2, rfl⟩, negO.2 ⟨g3, rfl⟩⟩
      rw [this] at h; cases h
  | some s =>
    obtain ⟨a1, a2, a3⟩ := tSub_some.1 h
    have g1 := negO.1 a1; have g2 := negO.1 a2; have g3 := negO.1 a3
    have : V.tAdd a s = some (0, 0, 0) := by
      rw [tAdd_some]
      refine ⟨mAdd_some.2 ⟨g1.1, ?_, by decide, ?_⟩, mAdd_some.2 ⟨g2.1, ?_, by decide, ?_⟩, mAdd_some.2 ⟨g3.1, ?_, by decide, ?_⟩⟩ <;> simp only [g1.2, g2.2, g3.2] <;> unfold Gd at * <;> omega
    show V.q3 (V.tAdd a s) = _
    rw [this]; rfl
theorem vunitsL_v {α : Type} (ax ay az bx b_y bz : Int) (k0 : Bool → Option α) : M.vunitsL ax ay az bx b_y bz k0 = k0 true := by
  unfold M.vunitsL
  simp only [V.q3_eta, cEq_eq, cLt_eq, cLe_eq, dot_comm (bx, b_y, bz) (ax, ay, az)]
  have e := add_sub_zero (ax, ay, az)
  simp only [V.x3, V.y3, V.z3, e]
  simp only [beq_self_eq_true, Bool.not_true, Bool.and_self, Bool.false_eq_true, if_false]
  cases h : V.tLen (ax, ay, az) with
  | none => simp [gn_none]
  | some n =>
    simp only [gn_some, gv_some, Bool.false_eq_true, if_false]
    by_cases hn : n < 4294967296
    · simp [hn]
    · obtain ⟨t, l, h1, h2, h3, h4⟩ := unit_len h (by omega)
      rw [h1]
      show (if decide (n < 4294967296) = true then k0 true else if (!V.gn (V.tLen t) (V.on (some t) false)) = true then if decide (4294967292 ≤ V.gv (V.tLen t)) = true then k0 (decide (V.gv (V.tLen t) ≤ 4294967300)) else k0 false else k0 false) = k0 true
      rw [h2]
      simp [hn, gn_some, gv_some, on_some, h3, h4]
noncomputable def vunitsL_h {α : Type} (ds : List D) (Q : SV → Hp → Option α) : Option α :=
  dI ds fun ax ds => dI ds fun ay ds => dI ds fun az ds => dI ds fun bx ds => dI ds fun b_y ds => dI ds fun bz ds => dE ds (Q (.bool true) ([]))
theorem vunitsL_h_ok {α : Type} : FnOk E.P 7 (fEnt (α := α) vunitsL_sp vunitsL_h) :=
  fEnt_ok E (look_awake_ok) (exec_sound E E_ok (look_awake_ok) (noLps_ok _) 400) fun ds Q r h => by
    unfold vunitsL_h at h
    obtain ⟨ax, ds, rfl, h1⟩ := dI_inv h
    obtain ⟨ay, ds, rfl, h2⟩ := dI_inv h1
    obtain ⟨az, ds, rfl, h3⟩ := dI_inv h2
    obtain ⟨bx, ds, rfl, h4⟩ := dI_inv h3
    obtain ⟨b_y, ds, rfl, h5⟩ := dI_inv h4
    obtain ⟨bz, ds, rfl, h6⟩ := dI_inv h5
    obtain ⟨rfl, hE⟩ := dE_inv h6
    exact ⟨[SV.agg [SV.int IntKind.i64 ax, SV.int IntKind.i64 ay, SV.int IntKind.i64 az], SV.agg [SV.int IntKind.i64 bx, SV.int IntKind.i64 b_y, SV.int IntKind.i64 bz]], [], fun vs => by kernel_rfl, (vunitsL_eq ax ay az bx b_y bz Q).trans ((vunitsL_v ax ay az bx b_y bz _).trans hE)⟩
end Go.Proofs.Ytmcifgaaojgheaa.Sx
