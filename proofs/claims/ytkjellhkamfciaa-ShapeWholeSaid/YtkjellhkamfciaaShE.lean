/- shape: whether shapes may be; their cores. -/
import Derived.Test.YtkjellhkamfciaaShD
namespace Go.Proofs.Ytkjellhkamfciaa.Sx
open Go
set_option maxRecDepth 20000
set_option linter.unusedVariables false
set_option linter.unusedSimpArgs false
def inZ (n lo hi : Int) : Bool := decide (lo ≤ n) && decide (n ≤ hi)
theorem within_eq (n lo hi : Int) : V.shwithin_r0 n lo hi = inZ n lo hi := by
  unfold V.shwithin_r0 inZ
  simp only [cLe_eq]
  cases decide (lo ≤ n) <;> simp
/-- What the check of a shape tells. -/
noncomputable def chkP (k r hx hy hz : Int) (l : List P3) : Int :=
  if k = 1 then (if inZ r 1 16384 then 0 else 50)
  else if k = 2 then (if inZ hx 1 65536 && inZ r 1 16384 then 0 else 50)
  else if k = 3 then (if inZ hx 1 65536 && inZ hy 1 65536 && inZ hz 1 65536 && inZ r 0 16384 then 0 else 50)
  else if k = 4 then (if inZ (l.length : Int) 4 12 && V.apartP l && inZ r 0 16384 then (if V.flatP l then 51 else 0) else 50)
  else 50
noncomputable def _root_.Go.Proofs.Ytkjellhkamfciaa.V.chk (k r hx hy hz : Int) (l : List P3) : Int := hid (chkP k r hx hy hz l)
theorem brick_eq (hx hy hz : Int) : (decide (0 < (if hz < if hy < hx then hy else hx then hz else if hy < hx then hy else hx)) && !bigP (hx, hy, hz) 65536) = (inZ hx 1 65536 && inZ hy 1 65536 && inZ hz 1 65536) := by
  obtain ⟨a, e1, h1⟩ := min_spec hx hy
  obtain ⟨b, e2, h2⟩ := min_spec a hz
  rw [e1, e2, Bool.eq_iff_iff]
  simp only [inZ, bigP, Bool.and_eq_true, decide_eq_true_eq, Bool.not_eq_true', Bool.or_eq_false_iff, decide_eq_false_iff_not]
  omega
noncomputable def _root_.Go.Proofs.Ytkjellhkamfciaa.M.check {α : Type} (k : Int) (r : Int) (hx : Int) (hy : Int) (hz : Int) (l : L3) (k0 : Int → Option α) : Option α :=
  if cEq k (1 : Int) = true then if (!V.shwithin_r0 r (1 : Int) (16384 : Int)) = true then k0 (50 : Int) else if cEq k (4 : Int) = true then if V.ptsB l = true then if V.flatP l = true then k0 (51 : Int) else k0 (0 : Int) else none else k0 (0 : Int)
else
  if cEq k (2 : Int) = true then if (!V.shwithin_r0 hx (1 : Int) (65536 : Int)) = true then k0 (50 : Int) else if (!V.shwithin_r0 r (1 : Int) (16384 : Int)) = true then k0 (50 : Int) else if cEq k (4 : Int) = true then if V.ptsB l = true then if V.flatP l = true then k0 (51 : Int) else k0 (0 : Int) else none else k0 (0 : Int)
  else
    if cEq k (3 : Int) = true then if cLt (0 : Int) (if hz < if hy < hx then hy else hx then hz else if hy < hx then hy else hx) = true then if (!!V.shbeyond_r0 hx hy hz (65536 : Int)) = true then k0 (50 : Int) else if (!V.shwithin_r0 r (0 : Int) (16384 : Int)) = true then k0 (50 : Int) else if cEq k (4 : Int) = true then if V.ptsB l = true then if V.flatP l = true then k0 (51 : Int) else k0 (0 : Int) else none else k0 (0 : Int) else k0 (50 : Int)
    else if cEq k (4 : Int) = true then if V.shwithin_r0 (↑(List.length l) : Int) (4 : Int) (12 : Int) = true then if V.lenB (List.length l) = true then if (!V.apartP l) = true then k0 (50 : Int) else if (!V.shwithin_r0 r (0 : Int) (16384 : Int)) = true then k0 (50 : Int) else if cEq k (4 : Int) = true then if V.ptsB l = true then if V.flatP l = true then k0 (51 : Int) else k0 (0 : Int) else none else k0 (0 : Int) else none else k0 (50 : Int) else k0 (50 : Int)
theorem check_eq {α : Type} (k : Int) (r : Int) (hx : Int) (hy : Int) (hz : Int) (l : L3) (v0 : Value) (Q : SV → Hp → Option α) : callI E look_flat (exec E look_flat noLps 400) 11 ([SV.agg [SV.int .i64 k, SV.int .i64 r, SV.int .i64 hx, SV.int .i64 hy, SV.int .i64 hz, SV.ros v0 kP l]]) ([]) Q = M.check k r hx hy hz l (fun (x1 : Int) => Q (SV.int .i64 x1) ([])) := by kernel_rfl
def check_sp : List AS := [.st [.leaf (.int .i64 0), .leaf (.int .i64 0), .leaf (.int .i64 0), .leaf (.int .i64 0), .leaf (.int .i64 0), .ro (.st (.i .i64) [.i .i64, .i .i64])]]
theorem check_v {α : Type} (k r hx hy hz : Int) (l : List P3) (k0 : Int → Option α) : M.check k r hx hy hz l k0 = k0 (V.chk k r hx hy hz l) := by
  unfold M.check V.chk
  rw [hid_eq]
  unfold chkP
  have hb := beyond_eq (hx, hy, hz) 65536 (by omega)
  have hbr := brick_eq hx hy hz
  simp only at hb
  simp only [cEq_eq, beq_iff_eq, within_eq, cLt_eq, hb]
  by_cases k1 : k = 1
  · subst k1
    simp only [if_true, Int.reduceEq, if_false]
    cases inZ r 1 16384 <;> simp
  simp only [if_neg k1]
  by_cases k2 : k = 2
  · subst k2
    simp only [if_true, Int.reduceEq, if_false]
    cases inZ hx 1 65536 <;> cases inZ r 1 16384 <;> simp
  simp only [if_neg k2]
  by_cases k3 : k = 3
  · subst k3
    simp only [if_true, Int.reduceEq, if_false]
    rw [← hbr]
    cases decide (0 < (if hz < if hy < hx then hy else hx then hz else if hy < hx then hy else hx)) <;> cases bigP (hx, hy, hz) 65536 <;> cases inZ r 0 16384 <;> simp
  simp only [if_neg k3]
  by_cases k4 : k = 4
  · subst k4
    simp only [if_true]
    cases h1 : inZ (l.length : Int) 4 12 with
    | false => simp
    | true =>
      have hl : 4 ≤ l.length ∧ l.length ≤ 12 := by simp [inZ] at h1; omega
      rw [if_pos (lenB_of (by omega))]
      cases h2 : V.apartP l with
      | false => simp
      | true =>
        cases inZ r 0 16384 with
        | false => simp
        | true =>
          rw [if_pos (ptsB_of h2 (by omega) (by omega))]
          cases V.flatP l <;> simp
  simp [k4]
noncomputable def check_h {α : Type} (ds : List D) (Q : SV → Hp → Option α) : Option α :=
  dI ds fun k ds => dI ds fun r ds => dI ds fun hx ds => dI ds fun hy ds => dI ds fun hz ds => dL kP ds fun l ds => dE ds (Q (.int .i64 (V.chk k r hx hy hz l)) ([]))
theorem check_h_ok {α : Type} : FnOk E.P 11 (fEnt (α := α) check_sp check_h) :=
  fEntR_ok E (look_flat_ok) (exec_sound E E_ok (look_flat_ok) (noLps_ok _) 400) fun ds Q r h => by
    unfold check_h at h
    obtain ⟨k, ds, rfl, h1⟩ := dI_inv h
    obtain ⟨r, ds, rfl, h2⟩ := dI_inv h1
    obtain ⟨hx, ds, rfl, h3⟩ := dI_inv h2
    obtain ⟨hy, ds, rfl, h4⟩ := dI_inv h3
    obtain ⟨hz, ds, rfl, h5⟩ := dI_inv h4
    obtain ⟨l, ds, rfl, h6⟩ := dL_inv h5
    obtain ⟨rfl, hE⟩ := dE_inv h6
    exact ⟨_, _, hE, fun vs => ⟨_, _, by kernel_rfl, (check_eq k r hx hy hz l ((cellsV (vs.headD undef)).tail.tail.tail.tail.tail.headD undef) _).trans (check_v k r hx hy hz l _)⟩⟩
noncomputable def look_check {α : Type} : LookF α := addFn 11 (fEnt check_sp check_h) look_flat
theorem look_check_ok {α : Type} : LookOk E.P (look_check (α := α)) := addFn_ok check_h_ok (look_flat_ok)
end Go.Proofs.Ytkjellhkamfciaa.Sx
