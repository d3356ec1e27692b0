/- ShapeWhole: its run tells true. -/
import Derived.Test.YtkjellhkamfciaaSrD
namespace Go.Proofs.Ytkjellhkamfciaa.Sx
open Go
set_option maxRecDepth 20000
set_option linter.unusedVariables false
set_option linter.unusedSimpArgs false
noncomputable def _root_.Go.Proofs.Ytkjellhkamfciaa.M.lwhole {α : Type} (k : Int) (r : Int) (hx : Int) (hy : Int) (hz : Int) (l : L3) (ma : Int) (tu : Int) (k0 : Bool → Option α) : Option α :=
  if V.rgG k r hx hy hz l = true then
  if V.lpick_g ma (1099494850561 : Int) = true then
    if (!cEq (V.masE (V.rgK k r hx hy hz l) (V.rgR r) (V.rgH hx) (V.rgH hy) (V.rgH hz) (V.rgP k r hx hy hz l) (IntKind.wrap .i64 ((16777216 : Int) + V.lpick_r0 ma (1099494850561 : Int)))) (0 : Int)) = true then k0 false
    else
      if (!cEq (V.chk (V.rgK k r hx hy hz l) (V.rgR r) (V.rgH hx) (V.rgH hy) (V.rgH hz) (V.rgP k r hx hy hz l)) (0 : Int)) = true then k0 false
      else
        if (!cEq (V.masM (V.rgK k r hx hy hz l) (V.rgR r) (V.rgH hx) (V.rgH hy) (V.rgH hz) (V.rgP k r hx hy hz l) (IntKind.wrap .i64 ((16777216 : Int) + V.lpick_r0 ma (1099494850561 : Int)))) (IntKind.wrap .i64 ((16777216 : Int) + V.lpick_r0 ma (1099494850561 : Int)))) = true then k0 false
        else
          if (!cEq (V.corR (V.rgK k r hx hy hz l) (V.rgR r) (V.rgH hx) (V.rgH hy) (V.rgH hz) (V.rgP k r hx hy hz l)) (V.rgR r)) = true then k0 false
          else
            if (0 : Int) ≤ V.rgK k r hx hy hz l ∧ V.rgK k r hx hy hz l < (↑((4 : Nat) + (1 : Nat)) : Int) then
              if (!cEq (↑(List.length (V.corP (V.rgK k r hx hy hz l) (V.rgR r) (V.rgH hx) (V.rgH hy) (V.rgH hz) (V.rgP k r hx hy hz l))) : Int) (List.getD [(0 : Int), (1 : Int), (2 : Int), (8 : Int), (↑(List.length (V.rgP k r hx hy hz l)) : Int)] (Int.toNat (V.rgK k r hx hy hz l)) (0 : Int))) = true then k0 false
              else
                if cLt (Prod.fst (V.masI (V.rgK k r hx hy hz l) (V.rgR r) (V.rgH hx) (V.rgH hy) (V.rgH hz) (V.rgP k r hx hy hz l) (IntKind.wrap .i64 ((16777216 : Int) + V.lpick_r0 ma (1099494850561 : Int))))) (4096 : Int) = true then k0 false
                else
                  if cLt (Prod.fst (Prod.snd (V.masI (V.rgK k r hx hy hz l) (V.rgR r) (V.rgH hx) (V.rgH hy) (V.rgH hz) (V.rgP k r hx hy hz l) (IntKind.wrap .i64 ((16777216 : Int) + V.lpick_r0 ma (1099494850561 : Int)))))) (4096 : Int) = true then k0 false
                  else
                    if cLt (Prod.snd (Prod.snd (V.masI (V.rgK k r hx hy hz l) (V.rgR r) (V.rgH hx) (V.rgH hy) (V.rgH hz) (V.rgP k r hx hy hz l) (IntKind.wrap .i64 ((16777216 : Int) + V.lpick_r0 ma (1099494850561 : Int)))))) (4096 : Int) = true then k0 false
                    else
                      if (!cEq (V.rgK k r hx hy hz l) (4 : Int)) = true then k0 true
                      else
                        if V.lpick_g tu (↑(List.length (V.rgP k r hx hy hz l)) : Int) = true then
                          if (0 : Int) ≤ V.lpick_r0 tu (↑(List.length (V.rgP k r hx hy hz l)) : Int) ∧ V.lpick_r0 tu (↑(List.length (V.rgP k r hx hy hz l)) : Int) ≤ (↑(List.length (V.rgP k r hx hy hz l)) : Int) ∧ (↑(List.length (V.rgP k r hx hy hz l)) : Int) ≤ (↑(List.length (V.rgP k r hx hy hz l)) : Int) then
                            if List.length (List.take (Int.toNat ((↑(List.length (V.rgP k r hx hy hz l)) : Int) - V.lpick_r0 tu (↑(List.length (V.rgP k r hx hy hz l)) : Int))) (List.drop (Int.toNat (V.lpick_r0 tu (↑(List.length (V.rgP k r hx hy hz l)) : Int))) (V.rgP k r hx hy hz l))) * (24 : Nat) ≤ (140737488355328 : Nat) then
                              if (0 : Int) ≤ (0 : Int) ∧ (0 : Int) ≤ V.lpick_r0 tu (↑(List.length (V.rgP k r hx hy hz l)) : Int) ∧ V.lpick_r0 tu (↑(List.length (V.rgP k r hx hy hz l)) : Int) ≤ (↑(List.length (V.rgP k r hx hy hz l)) : Int) then
                                if (List.length (List.take (Int.toNat ((↑(List.length (V.rgP k r hx hy hz l)) : Int) - V.lpick_r0 tu (↑(List.length (V.rgP k r hx hy hz l)) : Int))) (List.drop (Int.toNat (V.lpick_r0 tu (↑(List.length (V.rgP k r hx hy hz l)) : Int))) (V.rgP k r hx hy hz l))) + List.length (List.take (Int.toNat (V.lpick_r0 tu (↑(List.length (V.rgP k r hx hy hz l)) : Int) - (0 : Int))) (List.drop (0 : Nat) (V.rgP k r hx hy hz l)))) * (24 : Nat) ≤ (140737488355328 : Nat) then
                                  if
                                      cEq
                                          (V.masE (V.rgK k r hx hy hz l) (V.rgR r) (V.rgH hx) (V.rgH hy) (V.rgH hz)
                                            (List.take (Int.toNat ((↑(List.length (V.rgP k r hx hy hz l)) : Int) - V.lpick_r0 tu (↑(List.length (V.rgP k r hx hy hz l)) : Int))) (List.drop (Int.toNat (V.lpick_r0 tu (↑(List.length (V.rgP k r hx hy hz l)) : Int))) (V.rgP k r hx hy hz l)) ++ List.take (Int.toNat (V.lpick_r0 tu (↑(List.length (V.rgP k r hx hy hz l)) : Int) - (0 : Int))) (List.drop (0 : Nat) (V.rgP k r hx hy hz l)))
                                            (IntKind.wrap .i64 ((16777216 : Int) + V.lpick_r0 ma (1099494850561 : Int))))
                                          (0 : Int) =
                                        true then
                                    k0
                                      (cEq
                                          (V.masM (V.rgK k r hx hy hz l) (V.rgR r) (V.rgH hx) (V.rgH hy) (V.rgH hz)
                                            (List.take (Int.toNat ((↑(List.length (V.rgP k r hx hy hz l)) : Int) - V.lpick_r0 tu (↑(List.length (V.rgP k r hx hy hz l)) : Int))) (List.drop (Int.toNat (V.lpick_r0 tu (↑(List.length (V.rgP k r hx hy hz l)) : Int))) (V.rgP k r hx hy hz l)) ++ List.take (Int.toNat (V.lpick_r0 tu (↑(List.length (V.rgP k r hx hy hz l)) : Int) - (0 : Int))) (List.drop (0 : Nat) (V.rgP k r hx hy hz l)))
                                            (IntKind.wrap .i64 ((16777216 : Int) + V.lpick_r0 ma (1099494850561 : Int))))
                                          (V.masM (V.rgK k r hx hy hz l) (V.rgR r) (V.rgH hx) (V.rgH hy) (V.rgH hz) (V.rgP k r hx hy hz l) (IntKind.wrap .i64 ((16777216 : Int) + V.lpick_r0 ma (1099494850561 : Int)))) &&
                                        (cEq
                                              (Prod.fst
                                                (V.masI (V.rgK k r hx hy hz l) (V.rgR r) (V.rgH hx) (V.rgH hy) (V.rgH hz)
                                                  (List.take (Int.toNat ((↑(List.length (V.rgP k r hx hy hz l)) : Int) - V.lpick_r0 tu (↑(List.length (V.rgP k r hx hy hz l)) : Int))) (List.drop (Int.toNat (V.lpick_r0 tu (↑(List.length (V.rgP k r hx hy hz l)) : Int))) (V.rgP k r hx hy hz l)) ++ List.take (Int.toNat (V.lpick_r0 tu (↑(List.length (V.rgP k r hx hy hz l)) : Int) - (0 : Int))) (List.drop (0 : Nat) (V.rgP k r hx hy hz l)))
                                                  (IntKind.wrap .i64 ((16777216 : Int) + V.lpick_r0 ma (1099494850561 : Int)))))
                                              (Prod.fst (V.masI (V.rgK k r hx hy hz l) (V.rgR r) (V.rgH hx) (V.rgH hy) (V.rgH hz) (V.rgP k r hx hy hz l) (IntKind.wrap .i64 ((16777216 : Int) + V.lpick_r0 ma (1099494850561 : Int))))) &&
                                            (cEq
                                                (Prod.fst
                                                  (Prod.snd
                                                    (V.masI (V.rgK k r hx hy hz l) (V.rgR r) (V.rgH hx) (V.rgH hy) (V.rgH hz)
                                                      (List.take (Int.toNat ((↑(List.length (V.rgP k r hx hy hz l)) : Int) - V.lpick_r0 tu (↑(List.length (V.rgP k r hx hy hz l)) : Int))) (List.drop (Int.toNat (V.lpick_r0 tu (↑(List.length (V.rgP k r hx hy hz l)) : Int))) (V.rgP k r hx hy hz l)) ++ List.take (Int.toNat (V.lpick_r0 tu (↑(List.length (V.rgP k r hx hy hz l)) : Int) - (0 : Int))) (List.drop (0 : Nat) (V.rgP k r hx hy hz l)))
                                                      (IntKind.wrap .i64 ((16777216 : Int) + V.lpick_r0 ma (1099494850561 : Int))))))
                                                (Prod.fst (Prod.snd (V.masI (V.rgK k r hx hy hz l) (V.rgR r) (V.rgH hx) (V.rgH hy) (V.rgH hz) (V.rgP k r hx hy hz l) (IntKind.wrap .i64 ((16777216 : Int) + V.lpick_r0 ma (1099494850561 : Int)))))) &&
                                              (cEq
                                                  (Prod.snd
                                                    (Prod.snd
                                                      (V.masI (V.rgK k r hx hy hz l) (V.rgR r) (V.rgH hx) (V.rgH hy) (V.rgH hz)
                                                        (List.take (Int.toNat ((↑(List.length (V.rgP k r hx hy hz l)) : Int) - V.lpick_r0 tu (↑(List.length (V.rgP k r hx hy hz l)) : Int))) (List.drop (Int.toNat (V.lpick_r0 tu (↑(List.length (V.rgP k r hx hy hz l)) : Int))) (V.rgP k r hx hy hz l)) ++ List.take (Int.toNat (V.lpick_r0 tu (↑(List.length (V.rgP k r hx hy hz l)) : Int) - (0 : Int))) (List.drop (0 : Nat) (V.rgP k r hx hy hz l)))
                                                        (IntKind.wrap .i64 ((16777216 : Int) + V.lpick_r0 ma (1099494850561 : Int))))))
                                                  (Prod.snd (Prod.snd (V.masI (V.rgK k r hx hy hz l) (V.rgR r) (V.rgH hx) (V.rgH hy) (V.rgH hz) (V.rgP k r hx hy hz l) (IntKind.wrap .i64 ((16777216 : Int) + V.lpick_r0 ma (1099494850561 : Int)))))) &&
                                                true)) &&
                                          true))
                                  else k0 false
                                else none
                              else none
                            else none
                          else none
                        else none
            else none
  else none
else none
theorem lwhole_eq {α : Type} (k : Int) (r : Int) (hx : Int) (hy : Int) (hz : Int) (l : L3) (ma : Int) (tu : Int) (v0 : Value) (Q : SV → Hp → Option α) : callI E look_right (exec E look_right noLps 400) 8 ([SV.agg [SV.int .i64 k, SV.int .i64 r, SV.int .i64 hx, SV.int .i64 hy, SV.int .i64 hz, SV.ros v0 kP l], SV.int .i64 ma, SV.int .i64 tu]) ([]) Q = M.lwhole k r hx hy hz l ma tu (fun (x1 : Bool) => Q (SV.bool x1) ([])) := by kernel_rfl
def lwhole_sp : List AS := [.st [.leaf (.int .i64 0), .leaf (.int .i64 0), .leaf (.int .i64 0), .leaf (.int .i64 0), .leaf (.int .i64 0), .ro kP], .val (.int .i64 0), .val (.int .i64 0)]
theorem cor_many {k r hx hy hz : Int} {l : List P3} (h : chkP k r hx hy hz l = 0) : ((corPP k hx hy hz l).length : Int) = List.getD [(0 : Int), 1, 2, 8, (l.length : Int)] k.toNat 0 ∧ 0 ≤ k ∧ k < 5 := by
  rcases chk_range h with ⟨rfl, _⟩ | ⟨rfl, _⟩ | ⟨rfl, _⟩ | ⟨rfl, _⟩
  · exact ⟨by simp [corPP], by omega, by omega⟩
  · exact ⟨by simp [corPP], by omega, by omega⟩
  · exact ⟨by simp [corPP, brickP], by omega, by omega⟩
  · exact ⟨by simp [corPP], by omega, by omega⟩
theorem whole_plain {K R HX HY HZ n : Int} {P T : List P3} (ok : chkP K R HX HY HZ P = 0) (hn : 16777216 ≤ n ∧ n ≤ 1099511627776) (hp : P.Perm T) (h4 : K = 4) (hP : 0 < P.length) :
    V.masE K R HX HY HZ T n = 0 ∧ V.masM K R HX HY HZ T n = n ∧ V.masI K R HX HY HZ T n = massP K R HX HY HZ P n := by
  have e := chk_perm (k := K) (r := R) (hx := HX) (hy := HY) (hz := HZ) hp
  have m1 : masEP K R HX HY HZ T n = 0 := by unfold masEP; rw [← e, if_pos ok, if_pos (by simp [inZ]; omega)]
  unfold V.masE V.masM V.masI
  simp only [hid_eq, m1, if_true, true_and]
  subst h4
  exact (mass_perm hP hp).symm
theorem whole_self {K R HX HY HZ n : Int} {P : List P3} (ok : chkP K R HX HY HZ P = 0) (hn : 16777216 ≤ n ∧ n ≤ 1099511627776) :
    V.masE K R HX HY HZ P n = 0 ∧ V.masM K R HX HY HZ P n = n ∧ V.masI K R HX HY HZ P n = massP K R HX HY HZ P n := by
  have m1 : masEP K R HX HY HZ P n = 0 := by unfold masEP; rw [if_pos ok, if_pos (by simp [inZ]; omega)]
  unfold V.masE V.masM V.masI
  simp only [hid_eq, m1, if_true, true_and]
theorem lwhole_v {α : Type} (k r hx hy hz : Int) (l : List P3) (ma tu : Int) (hg : (-9223372036854775808 ≤ k ∧ k < 9223372036854775808) ∧ (-9223372036854775808 ≤ r ∧ r < 9223372036854775808) ∧ (-9223372036854775808 ≤ hx ∧ hx < 9223372036854775808) ∧ (-9223372036854775808 ≤ hy ∧ hy < 9223372036854775808) ∧ (-9223372036854775808 ≤ hz ∧ hz < 9223372036854775808) ∧ (l.length < 9223372036854775808 ∧ ∀ x ∈ l, (RT.good (.i .i64) [.i .i64, .i .i64]) x) ∧ (-9223372036854775808 ≤ ma ∧ ma < 9223372036854775808) ∧ (-9223372036854775808 ≤ tu ∧ tu < 9223372036854775808)) (k0 : Bool → Option α) : M.lwhole k r hx hy hz l ma tu k0 = k0 true := by
  obtain ⟨g1, g2, g3, g4, g5, ⟨gl, gp⟩, g6, g7⟩ := hg
  unfold M.lwhole
  obtain ⟨b1, b2, b3⟩ := pick_val (n := 1099494850561) g6 (by omega)
  have hG : V.rgG k r hx hy hz l = true := gB_of ⟨⟨g1, g2, g3, g4, g5⟩, gl, fun p hp => good_rp (gp p hp)⟩
  rw [if_pos hG, if_pos b1]
  generalize V.lpick_r0 ma 1099494850561 = pa at *
  rw [IntWalk.i64_in (16777216 + pa) (by omega)]
  have hn : 16777216 ≤ 16777216 + pa ∧ 16777216 + pa ≤ 1099511627776 := by omega
  generalize 16777216 + pa = n at *
  have ok := right_ok (l := l) g1 g2 g3 g4 g5
  have eK : V.rgK k r hx hy hz l = rgKP k r hx hy hz l := by unfold V.rgK; rw [hid_eq]
  have eP : V.rgP k r hx hy hz l = rgPP k r hx hy hz l := by unfold V.rgP; rw [hid_eq]
  have eR : V.rgR r = rad r := by unfold V.rgR; rw [hid_eq]
  have e1 : V.rgH hx = hlf hx := by unfold V.rgH; rw [hid_eq]
  have e2 : V.rgH hy = hlf hy := by unfold V.rgH; rw [hid_eq]
  have e3 : V.rgH hz = hlf hz := by unfold V.rgH; rw [hid_eq]
  rw [eK, eP, eR, e1, e2, e3]
  generalize rgKP k r hx hy hz l = K at *
  generalize rgPP k r hx hy hz l = P at *
  generalize rad r = R at *
  generalize hlf hx = HX at *
  generalize hlf hy = HY at *
  generalize hlf hz = HZ at *
  obtain ⟨s1, s2, s3⟩ := whole_self ok hn
  obtain ⟨c1, c2, c3⟩ := cor_many ok
  have a1 : V.chk K R HX HY HZ P = 0 := by unfold V.chk; rw [hid_eq]; exact ok
  have a2 : V.corR K R HX HY HZ P = R := by unfold V.corR; rw [hid_eq, if_pos ok]
  have a3 : V.corP K R HX HY HZ P = corPP K HX HY HZ P := by unfold V.corP; rw [hid_eq, if_pos ok]
  obtain ⟨m1, m2, m3⟩ := mass_ge K R HX HY HZ P n
  have lt : ∀ x : Int, 4096 ≤ x → ¬ cLt x 4096 = true := fun x hx => by rw [cLt_eq]; simp; omega
  have ne : ∀ x : Int, ¬ (!cEq x x) = true := fun x => by rw [cEq_self]; simp
  rw [s1, if_neg (ne 0), a1, if_neg (ne 0), s2, if_neg (ne n), a2, if_neg (ne R), if_pos (by omega : 0 ≤ K ∧ K < (↑((4 : Nat) + (1 : Nat)) : Int)), a3, c1, if_neg (ne _), s3, if_neg (lt _ m1), if_neg (lt _ m2), if_neg (lt _ m3)]
  by_cases h4 : K = 4
  · rw [if_neg (by rw [h4]; exact ne 4)]
    have hP : 4 ≤ P.length ∧ P.length ≤ 12 := by
      rcases chk_range ok with ⟨h, _⟩ | ⟨h, _⟩ | ⟨h, _⟩ | ⟨_, _, h, _⟩
      · omega
      · omega
      · omega
      · exact h
    obtain ⟨d1, d2, d3⟩ := pick_val (n := (P.length : Int)) g7 (by omega)
    rw [if_pos d1]
    generalize V.lpick_r0 tu (P.length : Int) = q at *
    obtain ⟨j, rfl⟩ := Int.eq_ofNat_of_zero_le d2
    have hj : j < P.length := by omega
    have t1 : Int.toNat ((P.length : Int) - (j : Int)) = P.length - j := by omega
    have t2 : Int.toNat ((j : Int) - 0) = j := by omega
    have t3 : Int.toNat (j : Int) = j := by omega
    have t4 : (P.drop j).take (P.length - j) = P.drop j := List.take_of_length_le (by simp)
    rw [t1, t2, t3, t4, List.drop_zero]
    have hp : P.Perm (P.drop j ++ P.take j) := by
      have h := List.perm_append_comm (l₁ := P.drop j) (l₂ := P.take j)
      rw [List.take_append_drop] at h
      exact h.symm
    obtain ⟨u1, u2, u3⟩ := whole_plain ok hn hp h4 (by omega)
    rw [if_pos (by omega), if_pos (by simp; omega), if_pos (by omega), if_pos (by simp; omega), u1, if_pos (cEq_self 0), u2, u3]
    simp only [cEq_self, Bool.and_true]
  · rw [if_pos (by rw [cEq_eq]; simpa using h4)]
noncomputable def lwhole_h {α : Type} (ds : List D) (Q : SV → Hp → Option α) : Option α :=
  dI ds fun k ds => dI ds fun r ds => dI ds fun hx ds => dI ds fun hy ds => dI ds fun hz ds => dL kP ds fun l ds => dI ds fun ma ds => dI ds fun tu ds => dE ds (if V.gB ((-9223372036854775808 ≤ k ∧ k < 9223372036854775808) ∧ (-9223372036854775808 ≤ r ∧ r < 9223372036854775808) ∧ (-9223372036854775808 ≤ hx ∧ hx < 9223372036854775808) ∧ (-9223372036854775808 ≤ hy ∧ hy < 9223372036854775808) ∧ (-9223372036854775808 ≤ hz ∧ hz < 9223372036854775808) ∧ (l.length < 9223372036854775808 ∧ ∀ x ∈ l, (RT.good (.i .i64) [.i .i64, .i .i64]) x) ∧ (-9223372036854775808 ≤ ma ∧ ma < 9223372036854775808) ∧ (-9223372036854775808 ≤ tu ∧ tu < 9223372036854775808)) = true then Q (.bool true) ([]) else none)
theorem lwhole_h_ok {α : Type} : FnOk E.P 8 (fEnt (α := α) lwhole_sp lwhole_h) :=
  fEntR_ok E (look_right_ok) (exec_sound E E_ok (look_right_ok) (noLps_ok _) 400) fun ds Q r h => by
    unfold lwhole_h at h
    obtain ⟨k, ds, rfl, h1⟩ := dI_inv h
    obtain ⟨r, ds, rfl, h2⟩ := dI_inv h1
    obtain ⟨hx, ds, rfl, h3⟩ := dI_inv h2
    obtain ⟨hy, ds, rfl, h4⟩ := dI_inv h3
    obtain ⟨hz, ds, rfl, h5⟩ := dI_inv h4
    obtain ⟨l, ds, rfl, h6⟩ := dL_inv h5
    obtain ⟨ma, ds, rfl, h7⟩ := dI_inv h6
    obtain ⟨tu, ds, rfl, h8⟩ := dI_inv h7
    obtain ⟨rfl, hE⟩ := dE_inv h8
    split at hE
    · rename_i hg
      exact ⟨_, _, hE, fun vs => ⟨_, _, by kernel_rfl, (lwhole_eq k r hx hy hz l ma tu ((cellsV (vs.headD undef)).tail.tail.tail.tail.tail.headD undef) _).trans (lwhole_v k r hx hy hz l ma tu (gB_iff hg) _)⟩⟩
    · cases hE
end Go.Proofs.Ytkjellhkamfciaa.Sx
