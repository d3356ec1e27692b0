/- ShapeShort: its run tells true. -/
import Derived.Test.YtkjellhkamfciaaSrB
import Derived.Test.YtkjellhkamfciaaSxLaw
namespace Go.Proofs.Ytkjellhkamfciaa.Sx
open Go
set_option maxRecDepth 20000
set_option linter.unusedVariables false
set_option linter.unusedSimpArgs false
noncomputable def look_SrS_awake {α : Type} : LookF α := addFn 10 (fEnt awake_sp awake_h) look_dshort
theorem look_SrS_awake_ok {α : Type} : LookOk E.P (look_SrS_awake (α := α)) := addFn_ok awake_h_ok (look_dshort_ok)
noncomputable def look_SrS_short {α : Type} : LookF α := addFn 21 (fEnt short_sp short_h) look_SrS_awake
theorem look_SrS_short_ok {α : Type} : LookOk E.P (look_SrS_short (α := α)) := addFn_ok short_h_ok (look_SrS_awake_ok)
noncomputable def _root_.Go.Proofs.Ytkjellhkamfciaa.M.lshort {α : Type} (ax : Int) (ay : Int) (az : Int) (k0 : Bool → Option α) : Option α :=
  if (!(cEq (Prod.fst (V.pShort (ax, ay, az))) (Prod.fst (V.pShort (ax, ay, az))) && (cEq (Prod.fst (Prod.snd (V.pShort (ax, ay, az)))) (Prod.fst (Prod.snd (V.pShort (ax, ay, az)))) && (cEq (Prod.snd (Prod.snd (V.pShort (ax, ay, az)))) (Prod.snd (Prod.snd (V.pShort (ax, ay, az)))) && true)))) = true then k0 false
else
  if (!(cEq (Prod.fst (V.pShort (V.pShort (ax, ay, az)))) (Prod.fst (V.pShort (V.pShort (ax, ay, az)))) && (cEq (Prod.fst (Prod.snd (V.pShort (V.pShort (ax, ay, az))))) (Prod.fst (Prod.snd (V.pShort (V.pShort (ax, ay, az))))) && (cEq (Prod.snd (Prod.snd (V.pShort (V.pShort (ax, ay, az))))) (Prod.snd (Prod.snd (V.pShort (V.pShort (ax, ay, az))))) && true)))) = true then k0 false
  else
    if cEq ax (-9223372036854775808 : Int) = true then k0 true
    else
      if cEq ay (-9223372036854775808 : Int) = true then k0 true
      else
        if cEq az (-9223372036854775808 : Int) = true then k0 true
        else
          if (cEq (Prod.fst (V.pShort (V.pShort (ax, ay, az)))) (Prod.fst (V.pShort (ax, ay, az))) && (cEq (Prod.fst (Prod.snd (V.pShort (V.pShort (ax, ay, az))))) (Prod.fst (Prod.snd (V.pShort (ax, ay, az)))) && (cEq (Prod.snd (Prod.snd (V.pShort (V.pShort (ax, ay, az))))) (Prod.snd (Prod.snd (V.pShort (ax, ay, az)))) && true))) = true then
            k0
              (cEq (Prod.fst (V.pShort (IntKind.wrap .i64 ((0 : Int) - ax), IntKind.wrap .i64 ((0 : Int) - ay), IntKind.wrap .i64 ((0 : Int) - az)))) (IntKind.wrap .i64 ((0 : Int) - Prod.fst (V.pShort (ax, ay, az)))) &&
                (cEq (Prod.fst (Prod.snd (V.pShort (IntKind.wrap .i64 ((0 : Int) - ax), IntKind.wrap .i64 ((0 : Int) - ay), IntKind.wrap .i64 ((0 : Int) - az))))) (IntKind.wrap .i64 ((0 : Int) - Prod.fst (Prod.snd (V.pShort (ax, ay, az))))) &&
                  (cEq (Prod.snd (Prod.snd (V.pShort (IntKind.wrap .i64 ((0 : Int) - ax), IntKind.wrap .i64 ((0 : Int) - ay), IntKind.wrap .i64 ((0 : Int) - az))))) (IntKind.wrap .i64 ((0 : Int) - Prod.snd (Prod.snd (V.pShort (ax, ay, az))))) && true)))
          else k0 false
theorem lshort_eq {α : Type} (ax : Int) (ay : Int) (az : Int) (Q : SV → Hp → Option α) : callI E look_SrS_short (exec E look_SrS_short noLps 400) 5 ([SV.agg [SV.int .i64 ax, SV.int .i64 ay, SV.int .i64 az]]) ([]) Q = M.lshort ax ay az (fun (x0 : Bool) => Q (SV.bool x0) ([])) := by kernel_rfl
def lshort_sp : List AS := [.val (.agg [.int .i64 0, .int .i64 0, .int .i64 0])]
noncomputable def lshort_go {α : Type} (ds : List D) (Q : SV → Hp → Option α) : Option α :=
  dI ds fun ax ds => dI ds fun ay ds => dI ds fun az ds => dE ds (M.lshort ax ay az (fun (x0 : Bool) => Q (SV.bool x0) ([])))
theorem lshort_ok {α : Type} : FnOk E.P 5 (fEnt (α := α) lshort_sp lshort_go) :=
  fEnt_ok E (look_SrS_short_ok) (exec_sound E E_ok (look_SrS_short_ok) (noLps_ok _) 400) fun ds Q r h => by
    unfold lshort_go at h
    obtain ⟨ax, ds, rfl, h1⟩ := dI_inv h
    obtain ⟨ay, ds, rfl, h2⟩ := dI_inv h1
    obtain ⟨az, ds, rfl, h3⟩ := dI_inv h2
    obtain ⟨rfl, hE⟩ := dE_inv h3
    exact ⟨[SV.agg [SV.int .i64 ax, SV.int .i64 ay, SV.int .i64 az]], [], fun vs => by kernel_rfl, (lshort_eq ax ay az Q).trans hE⟩
def negT (p : P3) : P3 := (-p.1, -p.2.1, -p.2.2)
theorem gcd3_neg (p : P3) : gcd3 (negT p) = gcd3 p := by simp [gcd3, negT]
theorem divP_neg (p : P3) (n : Int) : divP (negT p) n = negT (divP p n) := by simp [divP, negT, Int.neg_tdiv]
theorem bareP_neg (p : P3) : bareP (negT p) = negT (bareP p) := by unfold bareP; rw [gcd3_neg, divP_neg]
theorem bigP_neg (p : P3) (n : Int) : bigP (negT p) n = bigP p n := by
  obtain ⟨x, y, z⟩ := p
  show (decide (n < -x) || decide (-x < -n) || decide (n < -y) || decide (-y < -n) || decide (n < -z) || decide (-z < -n)) = (decide (n < x) || decide (x < -n) || decide (n < y) || decide (y < -n) || decide (n < z) || decide (z < -n))
  rw [Bool.eq_iff_iff]; simp only [Bool.or_eq_true, decide_eq_true_eq]; omega
theorem shrinkP_neg : ∀ (n : Nat) (p : P3), shrinkP n (negT p) = negT (shrinkP n p)
  | 0, p => rfl
  | n + 1, p => by
    simp only [shrinkP, bigP_neg]
    split
    · rw [divP_neg, shrinkP_neg n]
    · rfl
theorem shortP_neg (p : P3) : shortP (negT p) = negT (shortP p) := by
  unfold shortP
  rw [bigP_neg]
  split
  · rfl
  · rw [bareP_neg, shrinkP_neg, bareP_neg]
theorem gcd3_bare {p : P3} (h : p ≠ (0, 0, 0)) : gcd3 (bareP p) = 1 := by
  have hp := gcd3_pos h
  have d1 : gcd3 p ∣ p.1.natAbs := Nat.dvd_trans (Nat.gcd_dvd_left _ _) (Nat.gcd_dvd_left _ _)
  have d2 : gcd3 p ∣ p.2.1.natAbs := Nat.dvd_trans (Nat.gcd_dvd_left _ _) (Nat.gcd_dvd_right _ _)
  have d3 : gcd3 p ∣ p.2.2.natAbs := Nat.gcd_dvd_right _ _
  have e : ∀ x : Int, (x.tdiv (gcd3 p : Int)).natAbs = x.natAbs / gcd3 p := fun x => by rw [Int.natAbs_tdiv]; rfl
  have h1 : gcd3 (bareP p) = Nat.gcd (Nat.gcd (p.1.natAbs / gcd3 p) (p.2.1.natAbs / gcd3 p)) (p.2.2.natAbs / gcd3 p) := by
    show Nat.gcd (Nat.gcd (p.1.tdiv (gcd3 p : Int)).natAbs (p.2.1.tdiv (gcd3 p : Int)).natAbs) (p.2.2.tdiv (gcd3 p : Int)).natAbs = _
    rw [e, e, e]
  rw [h1, Nat.gcd_div d1 d2, Nat.gcd_div (Nat.dvd_gcd d1 d2) d3]
  exact Nat.div_self hp
theorem bareP_one {p : P3} (h : gcd3 p = 1) : bareP p = p := by
  unfold bareP divP
  rw [h]
  simp
theorem bareP_zero : bareP (0, 0, 0) = (0, 0, 0) := by decide
theorem shortP_zero : shortP (0, 0, 0) = (0, 0, 0) := by decide +kernel
/-- What is short is bare and not great, or noughts. -/
theorem shortP_form (p : P3) : shortP p = (0, 0, 0) ∨ (gcd3 (shortP p) = 1 ∧ bigP (shortP p) 1048576 = false ∧ p ≠ (0, 0, 0) ∧ bigP p 4398046511104 = false) := by
  unfold shortP
  split
  · exact .inl rfl
  · rename_i h
    have h' : bigP p 4398046511104 = false := by simpa using h
    by_cases h0 : p = (0, 0, 0)
    · subst h0
      exact .inl shortP_zero
    · have h1 := divP_ne h0
      have h2 := shrink_ne 64 _ h1
      refine .inr ⟨gcd3_bare h2, bigP_div _ ?_, h0, h'⟩
      refine shrink_small 64 64 _ ?_ (Nat.le_refl _)
      have h3 := bigP_false (bigP_div (gcd3 p) h')
      apply bigP_eq_false
      have e := lim_64
      unfold bareP
      omega
theorem big_mono {p : P3} {m n : Int} (h : bigP p m = false) (hmn : m ≤ n) : bigP p n = false := by
  have := bigP_false h
  apply bigP_eq_false; omega
theorem shortP_stay {p : P3} (h1 : gcd3 p = 1) (h2 : bigP p 1048576 = false) : shortP p = p := by
  unfold shortP
  rw [if_neg (by rw [big_mono h2 (by omega)]; decide), bareP_one h1, shrink_stop 64 h2, bareP_one h1]
theorem shortP_idem (p : P3) : shortP (shortP p) = shortP p := by
  rcases shortP_form p with h | ⟨h1, h2, _⟩
  · rw [h, shortP_zero]
  · exact shortP_stay h1 h2
theorem shortP_small (p : P3) : bigP (shortP p) 1048576 = false := by
  rcases shortP_form p with h | ⟨_, h2, _⟩
  · rw [h]; decide
  · exact h2
theorem cEq_self (a : Int) : cEq a a = true := by rw [cEq_eq]; simp
theorem lshort_v {α : Type} (ax ay az : Int) (hg : (-9223372036854775808 ≤ ax ∧ ax < 9223372036854775808) ∧ (-9223372036854775808 ≤ ay ∧ ay < 9223372036854775808) ∧ (-9223372036854775808 ≤ az ∧ az < 9223372036854775808)) (k0 : Bool → Option α) : M.lshort ax ay az k0 = k0 true := by
  unfold M.lshort
  simp only [short_eq', shortP_idem, cEq_self, Bool.and_true, Bool.not_true, Bool.false_eq_true, if_false, if_true]
  simp only [cEq_eq, beq_iff_eq]
  by_cases h1 : ax = -9223372036854775808
  · rw [if_pos h1]
  by_cases h2 : ay = -9223372036854775808
  · rw [if_neg h1, if_pos h2]
  by_cases h3 : az = -9223372036854775808
  · rw [if_neg h1, if_neg h2, if_pos h3]
  rw [if_neg h1, if_neg h2, if_neg h3, IntWalk.i64_in (0 - ax) (by omega), IntWalk.i64_in (0 - ay) (by omega), IntWalk.i64_in (0 - az) (by omega)]
  have e : ((0 - ax, 0 - ay, 0 - az) : P3) = negT (ax, ay, az) := by simp [negT]
  rw [e, shortP_neg]
  have hs := bigP_false (shortP_small (ax, ay, az))
  rw [IntWalk.i64_in (0 - (shortP (ax, ay, az)).1) (by omega), IntWalk.i64_in (0 - (shortP (ax, ay, az)).2.1) (by omega), IntWalk.i64_in (0 - (shortP (ax, ay, az)).2.2) (by omega)]
  simp [negT]
noncomputable def lshort_h {α : Type} (ds : List D) (Q : SV → Hp → Option α) : Option α :=
  dI ds fun ax ds => dI ds fun ay ds => dI ds fun az ds => dE ds (if V.gB ((-9223372036854775808 ≤ ax ∧ ax < 9223372036854775808) ∧ (-9223372036854775808 ≤ ay ∧ ay < 9223372036854775808) ∧ (-9223372036854775808 ≤ az ∧ az < 9223372036854775808)) = true then Q (.bool true) ([]) else none)
theorem lshort_h_ok {α : Type} : FnOk E.P 5 (fEnt (α := α) lshort_sp lshort_h) :=
  fEnt_ok E (look_SrS_short_ok) (exec_sound E E_ok (look_SrS_short_ok) (noLps_ok _) 400) fun ds Q r h => by
    unfold lshort_h at h
    obtain ⟨ax, ds, rfl, h1⟩ := dI_inv h
    obtain ⟨ay, ds, rfl, h2⟩ := dI_inv h1
    obtain ⟨az, ds, rfl, h3⟩ := dI_inv h2
    obtain ⟨rfl, hE⟩ := dE_inv h3
    split at hE
    · rename_i hg
      exact ⟨[SV.agg [SV.int .i64 ax, SV.int .i64 ay, SV.int .i64 az]], [], fun vs => by kernel_rfl, (lshort_eq ax ay az Q).trans ((lshort_v ax ay az (gB_iff hg) _).trans hE)⟩
    · cases hE
end Go.Proofs.Ytkjellhkamfciaa.Sx
