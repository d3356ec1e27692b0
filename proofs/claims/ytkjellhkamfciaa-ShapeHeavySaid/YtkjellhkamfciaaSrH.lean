/- ShapeHeavy: its run tells true. -/
import Derived.Test.YtkjellhkamfciaaSrD
namespace Go.Proofs.Ytkjellhkamfciaa.Sx
open Go
set_option maxRecDepth 20000
set_option linter.unusedVariables false
set_option linter.unusedSimpArgs false
noncomputable def _root_.Go.Proofs.Ytkjellhkamfciaa.M.lheavy {α : Type} (k : Int) (r : Int) (hx : Int) (hy : Int) (hz : Int) (l : L3) (ma : Int) (mo : Int) (k0 : Bool → Option α) : Option α :=
  if V.lpick_g k (3 : Int) = true then
  if V.rgG (V.lpick_r0 k (3 : Int)) r hx hy hz l = true then
    if V.lpick_g ma (1099494850561 : Int) = true then
      if V.lpick_g mo (IntKind.wrap .i64 (IntKind.wrap .i64 ((1099511627776 : Int) - IntKind.wrap .i64 ((16777216 : Int) + V.lpick_r0 ma (1099494850561 : Int))) + (1 : Int))) = true then
        if (!cEq (V.masE (V.rgK (V.lpick_r0 k (3 : Int)) r hx hy hz l) (V.rgR r) (V.rgH hx) (V.rgH hy) (V.rgH hz) (V.rgP (V.lpick_r0 k (3 : Int)) r hx hy hz l) (IntKind.wrap .i64 ((16777216 : Int) + V.lpick_r0 ma (1099494850561 : Int)))) (0 : Int)) = true then k0 false
        else
          if (!cEq (V.masE (V.rgK (V.lpick_r0 k (3 : Int)) r hx hy hz l) (V.rgR r) (V.rgH hx) (V.rgH hy) (V.rgH hz) (V.rgP (V.lpick_r0 k (3 : Int)) r hx hy hz l) (IntKind.wrap .i64 (IntKind.wrap .i64 ((16777216 : Int) + V.lpick_r0 ma (1099494850561 : Int)) + V.lpick_r0 mo (IntKind.wrap .i64 (IntKind.wrap .i64 ((1099511627776 : Int) - IntKind.wrap .i64 ((16777216 : Int) + V.lpick_r0 ma (1099494850561 : Int))) + (1 : Int)))))) (0 : Int)) = true then k0 false
          else
            if (!cEq (V.masE (V.rgK (V.lpick_r0 k (3 : Int)) r hx hy hz l) (16384 : Int) (V.rgH hx) (V.rgH hy) (V.rgH hz) (V.rgP (V.lpick_r0 k (3 : Int)) r hx hy hz l) (IntKind.wrap .i64 ((16777216 : Int) + V.lpick_r0 ma (1099494850561 : Int)))) (0 : Int)) = true then k0 false
            else
              if
                  cLe (Prod.fst (V.masI (V.rgK (V.lpick_r0 k (3 : Int)) r hx hy hz l) (V.rgR r) (V.rgH hx) (V.rgH hy) (V.rgH hz) (V.rgP (V.lpick_r0 k (3 : Int)) r hx hy hz l) (IntKind.wrap .i64 ((16777216 : Int) + V.lpick_r0 ma (1099494850561 : Int)))))
                      (Prod.fst (V.masI (V.rgK (V.lpick_r0 k (3 : Int)) r hx hy hz l) (V.rgR r) (V.rgH hx) (V.rgH hy) (V.rgH hz) (V.rgP (V.lpick_r0 k (3 : Int)) r hx hy hz l) (IntKind.wrap .i64 (IntKind.wrap .i64 ((16777216 : Int) + V.lpick_r0 ma (1099494850561 : Int)) + V.lpick_r0 mo (IntKind.wrap .i64 (IntKind.wrap .i64 ((1099511627776 : Int) - IntKind.wrap .i64 ((16777216 : Int) + V.lpick_r0 ma (1099494850561 : Int))) + (1 : Int))))))) =
                    true then
                if
                    cLe (Prod.fst (Prod.snd (V.masI (V.rgK (V.lpick_r0 k (3 : Int)) r hx hy hz l) (V.rgR r) (V.rgH hx) (V.rgH hy) (V.rgH hz) (V.rgP (V.lpick_r0 k (3 : Int)) r hx hy hz l) (IntKind.wrap .i64 ((16777216 : Int) + V.lpick_r0 ma (1099494850561 : Int))))))
                        (Prod.fst (Prod.snd (V.masI (V.rgK (V.lpick_r0 k (3 : Int)) r hx hy hz l) (V.rgR r) (V.rgH hx) (V.rgH hy) (V.rgH hz) (V.rgP (V.lpick_r0 k (3 : Int)) r hx hy hz l) (IntKind.wrap .i64 (IntKind.wrap .i64 ((16777216 : Int) + V.lpick_r0 ma (1099494850561 : Int)) + V.lpick_r0 mo (IntKind.wrap .i64 (IntKind.wrap .i64 ((1099511627776 : Int) - IntKind.wrap .i64 ((16777216 : Int) + V.lpick_r0 ma (1099494850561 : Int))) + (1 : Int)))))))) =
                      true then
                  if
                      cLe (Prod.snd (Prod.snd (V.masI (V.rgK (V.lpick_r0 k (3 : Int)) r hx hy hz l) (V.rgR r) (V.rgH hx) (V.rgH hy) (V.rgH hz) (V.rgP (V.lpick_r0 k (3 : Int)) r hx hy hz l) (IntKind.wrap .i64 ((16777216 : Int) + V.lpick_r0 ma (1099494850561 : Int))))))
                          (Prod.snd (Prod.snd (V.masI (V.rgK (V.lpick_r0 k (3 : Int)) r hx hy hz l) (V.rgR r) (V.rgH hx) (V.rgH hy) (V.rgH hz) (V.rgP (V.lpick_r0 k (3 : Int)) r hx hy hz l) (IntKind.wrap .i64 (IntKind.wrap .i64 ((16777216 : Int) + V.lpick_r0 ma (1099494850561 : Int)) + V.lpick_r0 mo (IntKind.wrap .i64 (IntKind.wrap .i64 ((1099511627776 : Int) - IntKind.wrap .i64 ((16777216 : Int) + V.lpick_r0 ma (1099494850561 : Int))) + (1 : Int)))))))) =
                        true then
                    if
                        cLe (Prod.fst (V.masI (V.rgK (V.lpick_r0 k (3 : Int)) r hx hy hz l) (V.rgR r) (V.rgH hx) (V.rgH hy) (V.rgH hz) (V.rgP (V.lpick_r0 k (3 : Int)) r hx hy hz l) (IntKind.wrap .i64 ((16777216 : Int) + V.lpick_r0 ma (1099494850561 : Int)))))
                            (Prod.fst (V.masI (V.rgK (V.lpick_r0 k (3 : Int)) r hx hy hz l) (16384 : Int) (V.rgH hx) (V.rgH hy) (V.rgH hz) (V.rgP (V.lpick_r0 k (3 : Int)) r hx hy hz l) (IntKind.wrap .i64 ((16777216 : Int) + V.lpick_r0 ma (1099494850561 : Int))))) =
                          true then
                      if
                          cLe (Prod.fst (Prod.snd (V.masI (V.rgK (V.lpick_r0 k (3 : Int)) r hx hy hz l) (V.rgR r) (V.rgH hx) (V.rgH hy) (V.rgH hz) (V.rgP (V.lpick_r0 k (3 : Int)) r hx hy hz l) (IntKind.wrap .i64 ((16777216 : Int) + V.lpick_r0 ma (1099494850561 : Int))))))
                              (Prod.fst (Prod.snd (V.masI (V.rgK (V.lpick_r0 k (3 : Int)) r hx hy hz l) (16384 : Int) (V.rgH hx) (V.rgH hy) (V.rgH hz) (V.rgP (V.lpick_r0 k (3 : Int)) r hx hy hz l) (IntKind.wrap .i64 ((16777216 : Int) + V.lpick_r0 ma (1099494850561 : Int)))))) =
                            true then
                        k0
                          (cLe (Prod.snd (Prod.snd (V.masI (V.rgK (V.lpick_r0 k (3 : Int)) r hx hy hz l) (V.rgR r) (V.rgH hx) (V.rgH hy) (V.rgH hz) (V.rgP (V.lpick_r0 k (3 : Int)) r hx hy hz l) (IntKind.wrap .i64 ((16777216 : Int) + V.lpick_r0 ma (1099494850561 : Int))))))
                            (Prod.snd (Prod.snd (V.masI (V.rgK (V.lpick_r0 k (3 : Int)) r hx hy hz l) (16384 : Int) (V.rgH hx) (V.rgH hy) (V.rgH hz) (V.rgP (V.lpick_r0 k (3 : Int)) r hx hy hz l) (IntKind.wrap .i64 ((16777216 : Int) + V.lpick_r0 ma (1099494850561 : Int)))))))
                      else k0 false
                    else k0 false
                  else k0 false
                else k0 false
              else k0 false
      else none
    else none
  else none
else none
theorem lheavy_eq {α : Type} (k : Int) (r : Int) (hx : Int) (hy : Int) (hz : Int) (l : L3) (ma : Int) (mo : Int) (v0 : Value) (Q : SV → Hp → Option α) : callI E look_right (exec E look_right noLps 400) 7 ([SV.agg [SV.int .i64 k, SV.int .i64 r, SV.int .i64 hx, SV.int .i64 hy, SV.int .i64 hz, SV.ros v0 kP l], SV.int .i64 ma, SV.int .i64 mo]) ([]) Q = M.lheavy k r hx hy hz l ma mo (fun (x1 : Bool) => Q (SV.bool x1) ([])) := by kernel_rfl
def lheavy_sp : List AS := [.st [.leaf (.int .i64 0), .leaf (.int .i64 0), .leaf (.int .i64 0), .leaf (.int .i64 0), .leaf (.int .i64 0), .ro kP], .val (.int .i64 0), .val (.int .i64 0)]
theorem lheavy_v {α : Type} (k r hx hy hz : Int) (l : List P3) (ma mo : Int) (hg : (-9223372036854775808 ≤ k ∧ k < 9223372036854775808) ∧ (-9223372036854775808 ≤ r ∧ r < 9223372036854775808) ∧ (-9223372036854775808 ≤ hx ∧ hx < 9223372036854775808) ∧ (-9223372036854775808 ≤ hy ∧ hy < 9223372036854775808) ∧ (-9223372036854775808 ≤ hz ∧ hz < 9223372036854775808) ∧ (l.length < 9223372036854775808 ∧ ∀ x ∈ l, (RT.good (.i .i64) [.i .i64, .i .i64]) x) ∧ (-9223372036854775808 ≤ ma ∧ ma < 9223372036854775808) ∧ (-9223372036854775808 ≤ mo ∧ mo < 9223372036854775808)) (k0 : Bool → Option α) : M.lheavy k r hx hy hz l ma mo k0 = k0 true := by
  obtain ⟨g1, g2, g3, g4, g5, ⟨gl, gp⟩, g6, g7⟩ := hg
  unfold M.lheavy
  obtain ⟨a1, a2, a3⟩ := pick_val (n := 3) g1 (by omega)
  obtain ⟨b1, b2, b3⟩ := pick_val (n := 1099494850561) g6 (by omega)
  have hq : Rr (V.lpick_r0 k 3) := by unfold Rr; omega
  have hG : V.rgG (V.lpick_r0 k 3) r hx hy hz l = true := gB_of ⟨⟨hq, g2, g3, g4, g5⟩, gl, fun p hp => good_rp (gp p hp)⟩
  rw [if_pos a1, if_pos hG, if_pos b1]
  generalize V.lpick_r0 ma 1099494850561 = pa at *
  rw [IntWalk.i64_in (16777216 + pa) (by omega), IntWalk.i64_in (1099511627776 - (16777216 + pa)) (by omega), IntWalk.i64_in (1099511627776 - (16777216 + pa) + 1) (by omega)]
  obtain ⟨c1, c2, c3⟩ := pick_val (n := 1099511627776 - (16777216 + pa) + 1) g7 (by omega)
  rw [if_pos c1]
  generalize V.lpick_r0 mo (1099511627776 - (16777216 + pa) + 1) = pb at *
  rw [IntWalk.i64_in (16777216 + pa + pb) (by omega)]
  have hk : kd (V.lpick_r0 k 3) = 1 + V.lpick_r0 k 3 := by unfold kd; rw [pick_lt (by omega) (by omega)]
  have hK : rgKP (V.lpick_r0 k 3) r hx hy hz l = kd (V.lpick_r0 k 3) := by unfold rgKP; rw [if_neg (fun h => by omega)]
  have ok1 := right_ok (l := l) hq g2 g3 g4 g5
  have hr := rad_val g2
  have h3 := hlf_val g3
  have h4 := hlf_val g4
  have h5 := hlf_val g5
  have ok2 : chkP (rgKP (V.lpick_r0 k 3) r hx hy hz l) 16384 (hlf hx) (hlf hy) (hlf hz) (rgPP (V.lpick_r0 k 3) r hx hy hz l) = 0 := by
    rw [hK]
    have : kd (V.lpick_r0 k 3) = 1 ∨ kd (V.lpick_r0 k 3) = 2 ∨ kd (V.lpick_r0 k 3) = 3 := by omega
    unfold chkP
    rcases this with e | e | e <;> rw [e]
    · rw [if_pos rfl, if_pos (by simp [inZ])]
    · rw [if_neg (by decide), if_pos rfl, if_pos (by simp [inZ]; omega)]
    · rw [if_neg (by decide), if_neg (by decide), if_pos rfl, if_pos (by simp [inZ]; omega)]
  simp only [V.masE, V.masI, V.rgK, V.rgR, V.rgH, V.rgP, hid_eq]
  generalize rgKP (V.lpick_r0 k 3) r hx hy hz l = K at *
  generalize rgPP (V.lpick_r0 k 3) r hx hy hz l = P at *
  have m1 : masEP K (rad r) (hlf hx) (hlf hy) (hlf hz) P (16777216 + pa) = 0 := by unfold masEP; rw [if_pos ok1, if_pos (by simp [inZ]; omega)]
  have m2 : masEP K (rad r) (hlf hx) (hlf hy) (hlf hz) P (16777216 + pa + pb) = 0 := by unfold masEP; rw [if_pos ok1, if_pos (by simp [inZ]; omega)]
  have m3 : masEP K 16384 (hlf hx) (hlf hy) (hlf hz) P (16777216 + pa) = 0 := by unfold masEP; rw [if_pos ok2, if_pos (by simp [inZ]; omega)]
  obtain ⟨u1, u2, u3⟩ := mass_mono (k := K) (r := rad r) (s := rad r) (hx := hlf hx) (hy := hlf hy) (hz := hlf hz) (l := P) (m := 16777216 + pa) (n := 16777216 + pa + pb) (by omega) (Int.le_refl _) (by omega) (by omega)
  obtain ⟨v1, v2, v3⟩ := mass_mono (k := K) (r := rad r) (s := 16384) (hx := hlf hx) (hy := hlf hy) (hz := hlf hz) (l := P) (m := 16777216 + pa) (n := 16777216 + pa) (by omega) hr.2 (by omega) (Int.le_refl _)
  simp only [m1, m2, m3, if_true, cEq_eq, cLe_eq, beq_self_eq_true, Bool.not_true, Bool.false_eq_true, if_false, decide_eq_true_eq, u1, u2, u3, v1, v2, v3, decide_true]
noncomputable def lheavy_h {α : Type} (ds : List D) (Q : SV → Hp → Option α) : Option α :=
  dI ds fun k ds => dI ds fun r ds => dI ds fun hx ds => dI ds fun hy ds => dI ds fun hz ds => dL kP ds fun l ds => dI ds fun ma ds => dI ds fun mo ds => dE ds (if V.gB ((-9223372036854775808 ≤ k ∧ k < 9223372036854775808) ∧ (-9223372036854775808 ≤ r ∧ r < 9223372036854775808) ∧ (-9223372036854775808 ≤ hx ∧ hx < 9223372036854775808) ∧ (-9223372036854775808 ≤ hy ∧ hy < 9223372036854775808) ∧ (-9223372036854775808 ≤ hz ∧ hz < 9223372036854775808) ∧ (l.length < 9223372036854775808 ∧ ∀ x ∈ l, (RT.good (.i .i64) [.i .i64, .i .i64]) x) ∧ (-9223372036854775808 ≤ ma ∧ ma < 9223372036854775808) ∧ (-9223372036854775808 ≤ mo ∧ mo < 9223372036854775808)) = true then Q (.bool true) ([]) else none)
theorem lheavy_h_ok {α : Type} : FnOk E.P 7 (fEnt (α := α) lheavy_sp lheavy_h) :=
  fEntR_ok E (look_right_ok) (exec_sound E E_ok (look_right_ok) (noLps_ok _) 400) fun ds Q r h => by
    unfold lheavy_h at h
    obtain ⟨k, ds, rfl, h1⟩ := dI_inv h
    obtain ⟨r, ds, rfl, h2⟩ := dI_inv h1
    obtain ⟨hx, ds, rfl, h3⟩ := dI_inv h2
    obtain ⟨hy, ds, rfl, h4⟩ := dI_inv h3
    obtain ⟨hz, ds, rfl, h5⟩ := dI_inv h4
    obtain ⟨l, ds, rfl, h6⟩ := dL_inv h5
    obtain ⟨ma, ds, rfl, h7⟩ := dI_inv h6
    obtain ⟨mo, ds, rfl, h8⟩ := dI_inv h7
    obtain ⟨rfl, hE⟩ := dE_inv h8
    split at hE
    · rename_i hg
      exact ⟨_, _, hE, fun vs => ⟨_, _, by kernel_rfl, (lheavy_eq k r hx hy hz l ma mo ((cellsV (vs.headD undef)).tail.tail.tail.tail.tail.headD undef) _).trans (lheavy_v k r hx hy hz l ma mo (gB_iff hg) _)⟩⟩
    · cases hE
end Go.Proofs.Ytkjellhkamfciaa.Sx
