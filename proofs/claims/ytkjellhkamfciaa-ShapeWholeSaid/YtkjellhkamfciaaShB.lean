/- shape: short directions. -/
import Derived.Test.YtkjellhkamfciaaShA
namespace Go.Proofs.Ytkjellhkamfciaa.Sx
open Go
set_option maxRecDepth 20000
set_option linter.unusedVariables false
set_option linter.unusedSimpArgs false
noncomputable def _root_.Go.Proofs.Ytkjellhkamfciaa.M.shbare {α : Type} (ax : Int) (ay : Int) (az : Int) (k0 : Int → Int → Int → Option α) : Option α :=
  if ((-9223372036854775808 : Int) < ax ∧ ax < (9223372036854775808 : Int)) ∧ (-562949953421312 : Int) < ay ∧ ay < (562949953421312 : Int) then
  if ((-9223372036854775808 : Int) < V.gcdI ax ay ∧ V.gcdI ax ay < (9223372036854775808 : Int)) ∧ (-562949953421312 : Int) < az ∧ az < (562949953421312 : Int) then if V.shof_g (V.gcdI (V.gcdI ax ay) az) ax ay az = true then k0 (V.shof_r0 (V.gcdI (V.gcdI ax ay) az) ax ay az) (V.shof_r1 (V.gcdI (V.gcdI ax ay) az) ax ay az) (V.shof_r2 (V.gcdI (V.gcdI ax ay) az) ax ay az) else none else none
else none
theorem shbare_eq {α : Type} (ax : Int) (ay : Int) (az : Int) (Q : SV → Hp → Option α) : callI E look_shgcd (exec E look_shgcd noLps 400) 45 ([SV.agg [SV.int .i64 ax, SV.int .i64 ay, SV.int .i64 az]]) ([]) Q = M.shbare ax ay az (fun (x0 : Int) (x1 : Int) (x2 : Int) => Q (SV.agg [SV.int .i64 x0, SV.int .i64 x1, SV.int .i64 x2]) ([])) := by kernel_rfl
def shbare_sp : List AS := [.val (.agg [.int .i64 0, .int .i64 0, .int .i64 0])]
noncomputable def _root_.Go.Proofs.Ytkjellhkamfciaa.V.shbare_g (ax : Int) (ay : Int) (az : Int) : Bool :=
  if ((-9223372036854775808 : Int) < ax ∧ ax < (9223372036854775808 : Int)) ∧ (-562949953421312 : Int) < ay ∧ ay < (562949953421312 : Int) then if ((-9223372036854775808 : Int) < V.gcdI ax ay ∧ V.gcdI ax ay < (9223372036854775808 : Int)) ∧ (-562949953421312 : Int) < az ∧ az < (562949953421312 : Int) then if V.shof_g (V.gcdI (V.gcdI ax ay) az) ax ay az = true then true else false else false else false
noncomputable def _root_.Go.Proofs.Ytkjellhkamfciaa.V.shbare_r0 (ax : Int) (ay : Int) (az : Int) : Int :=
  if ((-9223372036854775808 : Int) < ax ∧ ax < (9223372036854775808 : Int)) ∧ (-562949953421312 : Int) < ay ∧ ay < (562949953421312 : Int) then if ((-9223372036854775808 : Int) < V.gcdI ax ay ∧ V.gcdI ax ay < (9223372036854775808 : Int)) ∧ (-562949953421312 : Int) < az ∧ az < (562949953421312 : Int) then if V.shof_g (V.gcdI (V.gcdI ax ay) az) ax ay az = true then V.shof_r0 (V.gcdI (V.gcdI ax ay) az) ax ay az else (0 : Int) else (0 : Int) else (0 : Int)
noncomputable def _root_.Go.Proofs.Ytkjellhkamfciaa.V.shbare_r1 (ax : Int) (ay : Int) (az : Int) : Int :=
  if ((-9223372036854775808 : Int) < ax ∧ ax < (9223372036854775808 : Int)) ∧ (-562949953421312 : Int) < ay ∧ ay < (562949953421312 : Int) then if ((-9223372036854775808 : Int) < V.gcdI ax ay ∧ V.gcdI ax ay < (9223372036854775808 : Int)) ∧ (-562949953421312 : Int) < az ∧ az < (562949953421312 : Int) then if V.shof_g (V.gcdI (V.gcdI ax ay) az) ax ay az = true then V.shof_r1 (V.gcdI (V.gcdI ax ay) az) ax ay az else (0 : Int) else (0 : Int) else (0 : Int)
noncomputable def _root_.Go.Proofs.Ytkjellhkamfciaa.V.shbare_r2 (ax : Int) (ay : Int) (az : Int) : Int :=
  if ((-9223372036854775808 : Int) < ax ∧ ax < (9223372036854775808 : Int)) ∧ (-562949953421312 : Int) < ay ∧ ay < (562949953421312 : Int) then if ((-9223372036854775808 : Int) < V.gcdI ax ay ∧ V.gcdI ax ay < (9223372036854775808 : Int)) ∧ (-562949953421312 : Int) < az ∧ az < (562949953421312 : Int) then if V.shof_g (V.gcdI (V.gcdI ax ay) az) ax ay az = true then V.shof_r2 (V.gcdI (V.gcdI ax ay) az) ax ay az else (0 : Int) else (0 : Int) else (0 : Int)
theorem shbare_val {α : Type} (ax : Int) (ay : Int) (az : Int) (k0 : Int → Int → Int → Option α) : M.shbare ax ay az k0 = if V.shbare_g ax ay az = true then k0 (V.shbare_r0 ax ay az) (V.shbare_r1 ax ay az) (V.shbare_r2 ax ay az) else none := by
  unfold M.shbare V.shbare_g V.shbare_r0 V.shbare_r1 V.shbare_r2
  repeat' first | rfl | (split <;> rename_i h <;> first | simp only [if_pos h] | simp only [if_neg h] | skip)
noncomputable def shbare_c {α : Type} (ds : List D) (Q : SV → Hp → Option α) : Option α :=
  dI ds fun ax ds => dI ds fun ay ds => dI ds fun az ds => dE ds (if V.shbare_g ax ay az = true then Q (SV.agg [SV.int .i64 (V.shbare_r0 ax ay az), SV.int .i64 (V.shbare_r1 ax ay az), SV.int .i64 (V.shbare_r2 ax ay az)]) ([]) else none)
theorem shbare_c_ok {α : Type} : FnOk E.P 45 (fEnt (α := α) shbare_sp shbare_c) :=
  fEnt_ok E (look_shgcd_ok) (exec_sound E E_ok (look_shgcd_ok) (noLps_ok _) 400) fun ds Q r h => by
    unfold shbare_c at h
    obtain ⟨ax, ds, rfl, h1⟩ := dI_inv h
    obtain ⟨ay, ds, rfl, h2⟩ := dI_inv h1
    obtain ⟨az, ds, rfl, h3⟩ := dI_inv h2
    obtain ⟨rfl, hE⟩ := dE_inv h3
    exact ⟨[SV.agg [SV.int .i64 ax, SV.int .i64 ay, SV.int .i64 az]], [], fun vs => by kernel_rfl, (shbare_eq ax ay az Q).trans ((shbare_val ax ay az (fun (x0 : Int) (x1 : Int) (x2 : Int) => Q (SV.agg [SV.int .i64 x0, SV.int .i64 x1, SV.int .i64 x2]) ([]))).trans hE)⟩
noncomputable def shbare_go {α : Type} (ds : List D) (Q : SV → Hp → Option α) : Option α :=
  dI ds fun ax ds => dI ds fun ay ds => dI ds fun az ds => dE ds (M.shbare ax ay az (fun (x0 : Int) (x1 : Int) (x2 : Int) => Q (SV.agg [SV.int .i64 x0, SV.int .i64 x1, SV.int .i64 x2]) ([])))
theorem shbare_ok {α : Type} : FnOk E.P 45 (fEnt (α := α) shbare_sp shbare_go) :=
  fEnt_ok E (look_shgcd_ok) (exec_sound E E_ok (look_shgcd_ok) (noLps_ok _) 400) fun ds Q r h => by
    unfold shbare_go at h
    obtain ⟨ax, ds, rfl, h1⟩ := dI_inv h
    obtain ⟨ay, ds, rfl, h2⟩ := dI_inv h1
    obtain ⟨az, ds, rfl, h3⟩ := dI_inv h2
    obtain ⟨rfl, hE⟩ := dE_inv h3
    exact ⟨[SV.agg [SV.int .i64 ax, SV.int .i64 ay, SV.int .i64 az]], [], fun vs => by kernel_rfl, (shbare_eq ax ay az Q).trans hE⟩
noncomputable def look_shbare {α : Type} : LookF α := addFn 45 (fEnt shbare_sp shbare_c) look_shgcd
theorem look_shbare_ok {α : Type} : LookOk E.P (look_shbare (α := α)) := addFn_ok shbare_c_ok (look_shgcd_ok)
noncomputable def _root_.Go.Proofs.Ytkjellhkamfciaa.M.short_l0_step {α : Type} (kn : Int → Int → Int → Option α) (k1 : Int → Int → Int → Option α) (x9 : Int) (x10 : Int) (x11 : Int) : Option α :=
  if V.shbeyond_r0 x9 x10 x11 (1048576 : Int) = true then if V.shof_g (2 : Int) x9 x10 x11 = true then kn (V.shof_r0 (2 : Int) x9 x10 x11) (V.shof_r1 (2 : Int) x9 x10 x11) (V.shof_r2 (2 : Int) x9 x10 x11) else none else k1 x9 x10 x11
noncomputable def _root_.Go.Proofs.Ytkjellhkamfciaa.M.short_l0 {α : Type} (k1 : Int → Int → Int → Option α) : Nat → Int → Int → Int → Option α
  | 0, _, _, _ => none
  | n + 1, x9, x10, x11 => M.short_l0_step (M.short_l0 k1 n) k1 x9 x10 x11
theorem short_l0_step_eq {α : Type} (x9 : Int) (x10 : Int) (x11 : Int) (x12 : Int) (x13 : Int) (x14 : Int) (Q : Ex → St → Option α) : (loopStep E (exec E look_shbare noLps 400) 21 [false, false, true, true, true] 0 (codeAt E.P 21 [false, false, true, true, true])) (St.mk (none :: some (SV.ptr (nat_lit 0) (nat_lit 0)) :: some (SV.ptr (nat_lit 1) (nat_lit 0)) :: nn 16 ([])) [.cells [SV.int .i64 x9, SV.int .i64 x10, SV.int .i64 x11] (nat_lit 23), .cells [SV.int .i64 x12, SV.int .i64 x13, SV.int .i64 x14] (nat_lit 23)]) Q = M.short_l0_step (fun (x18 : Int) (x19 : Int) (x20 : Int) => Q .normal (St.mk (none :: some (SV.ptr (nat_lit 0) (nat_lit 0)) :: some (SV.ptr (nat_lit 1) (nat_lit 0)) :: nn 16 ([])) [.cells [SV.int .i64 x18, SV.int .i64 x19, SV.int .i64 x20] (nat_lit 23), .cells [SV.int .i64 x12, SV.int .i64 x13, SV.int .i64 x14] (nat_lit 23)])) (fun (x15 : Int) (x16 : Int) (x17 : Int) => Q (.exit 0) (St.mk (none :: some (SV.ptr (nat_lit 0) (nat_lit 0)) :: some (SV.ptr (nat_lit 1) (nat_lit 0)) :: nn 16 ([])) [.cells [SV.int .i64 x15, SV.int .i64 x16, SV.int .i64 x17] (nat_lit 23), .cells [SV.int .i64 x12, SV.int .i64 x13, SV.int .i64 x14] (nat_lit 23)])) x9 x10 x11 := by kernel_rfl
theorem short_l0_iter {α : Type} (x12 : Int) (x13 : Int) (x14 : Int) (Q : Ex → St → Option α) : ∀ (n : Nat) (x9 : Int) (x10 : Int) (x11 : Int), iter (loopStep E (exec E look_shbare noLps 400) 21 [false, false, true, true, true] 0 (codeAt E.P 21 [false, false, true, true, true])) n (St.mk (none :: some (SV.ptr (nat_lit 0) (nat_lit 0)) :: some (SV.ptr (nat_lit 1) (nat_lit 0)) :: nn 16 ([])) [.cells [SV.int .i64 x9, SV.int .i64 x10, SV.int .i64 x11] (nat_lit 23), .cells [SV.int .i64 x12, SV.int .i64 x13, SV.int .i64 x14] (nat_lit 23)]) Q = M.short_l0 (fun (x15 : Int) (x16 : Int) (x17 : Int) => Q (.exit 0) (St.mk (none :: some (SV.ptr (nat_lit 0) (nat_lit 0)) :: some (SV.ptr (nat_lit 1) (nat_lit 0)) :: nn 16 ([])) [.cells [SV.int .i64 x15, SV.int .i64 x16, SV.int .i64 x17] (nat_lit 23), .cells [SV.int .i64 x12, SV.int .i64 x13, SV.int .i64 x14] (nat_lit 23)])) n x9 x10 x11
  | 0, _, _, _ => rfl
  | n + 1, x9, x10, x11 => (short_l0_step_eq x9 x10 x11 x12 x13 x14 (iterK (loopStep E (exec E look_shbare noLps 400) 21 [false, false, true, true, true] 0 (codeAt E.P 21 [false, false, true, true, true])) n Q)).trans (congrArg (fun kn => M.short_l0_step kn (fun (x15 : Int) (x16 : Int) (x17 : Int) => Q (.exit 0) (St.mk (none :: some (SV.ptr (nat_lit 0) (nat_lit 0)) :: some (SV.ptr (nat_lit 1) (nat_lit 0)) :: nn 16 ([])) [.cells [SV.int .i64 x15, SV.int .i64 x16, SV.int .i64 x17] (nat_lit 23), .cells [SV.int .i64 x12, SV.int .i64 x13, SV.int .i64 x14] (nat_lit 23)])) x9 x10 x11) (funext fun x9 => funext fun x10 => funext fun x11 => short_l0_iter x12 x13 x14 Q n x9 x10 x11))
noncomputable def short_l0_go {α : Type} (ds : List D) (Q : Ex → St → Option α) : Option α :=
  dI ds fun x9 ds => dI ds fun x10 ds => dI ds fun x11 ds => dI ds fun x12 ds => dI ds fun x13 ds => dI ds fun x14 ds => dE ds (M.short_l0 (fun (x15 : Int) (x16 : Int) (x17 : Int) => Q (.exit 0) (St.mk (none :: some (SV.ptr (nat_lit 0) (nat_lit 0)) :: some (SV.ptr (nat_lit 1) (nat_lit 0)) :: nn 16 ([])) [.cells [SV.int .i64 x15, SV.int .i64 x16, SV.int .i64 x17] (nat_lit 23), .cells [SV.int .i64 x12, SV.int .i64 x13, SV.int .i64 x14] (nat_lit 23)])) (100) x9 x10 x11)
theorem short_l0_ok {α : Type} : LoopOk E.P 21 [false, false, true, true, true] 0 (lEnt (α := α) (St.mk (none :: some (SV.ptr (nat_lit 0) (nat_lit 0)) :: some (SV.ptr (nat_lit 1) (nat_lit 0)) :: nn 16 ([])) [.cells [SV.int .i64 (0 : Int), SV.int .i64 (0 : Int), SV.int .i64 (0 : Int)] (nat_lit 23), .cells [SV.int .i64 (0 : Int), SV.int .i64 (0 : Int), SV.int .i64 (0 : Int)] (nat_lit 23)]) short_l0_go) :=
  lEnt_ok E (exec_sound E E_ok (look_shbare_ok) (noLps_ok _) 400) fun ds Q r h S hS => by
    unfold short_l0_go at h
    obtain ⟨x9, ds, rfl, h1⟩ := dI_inv h
    obtain ⟨x10, ds, rfl, h2⟩ := dI_inv h1
    obtain ⟨x11, ds, rfl, h3⟩ := dI_inv h2
    obtain ⟨x12, ds, rfl, h4⟩ := dI_inv h3
    obtain ⟨x13, ds, rfl, h5⟩ := dI_inv h4
    obtain ⟨x14, ds, rfl, h6⟩ := dI_inv h5
    obtain ⟨rfl, hE⟩ := dE_inv h6
    have e : fillS (St.mk (none :: some (SV.ptr (nat_lit 0) (nat_lit 0)) :: some (SV.ptr (nat_lit 1) (nat_lit 0)) :: nn 16 ([])) [.cells [SV.int .i64 (0 : Int), SV.int .i64 (0 : Int), SV.int .i64 (0 : Int)] (nat_lit 23), .cells [SV.int .i64 (0 : Int), SV.int .i64 (0 : Int), SV.int .i64 (0 : Int)] (nat_lit 23)]) [.i x9, .i x10, .i x11, .i x12, .i x13, .i x14] = some (St.mk (none :: some (SV.ptr (nat_lit 0) (nat_lit 0)) :: some (SV.ptr (nat_lit 1) (nat_lit 0)) :: nn 16 ([])) [.cells [SV.int .i64 x9, SV.int .i64 x10, SV.int .i64 x11] (nat_lit 23), .cells [SV.int .i64 x12, SV.int .i64 x13, SV.int .i64 x14] (nat_lit 23)]) := by kernel_rfl
    rw [e] at hS
    cases hS
    exact ⟨_, (short_l0_iter x12 x13 x14 Q _ x9 x10 x11).trans hE⟩
noncomputable def short_l0_lps {α : Type} : LookL α := addLp 21 [false, false, true, true, true] 0 (lEnt (St.mk (none :: some (SV.ptr (nat_lit 0) (nat_lit 0)) :: some (SV.ptr (nat_lit 1) (nat_lit 0)) :: nn 16 ([])) [.cells [SV.int .i64 (0 : Int), SV.int .i64 (0 : Int), SV.int .i64 (0 : Int)] (nat_lit 23), .cells [SV.int .i64 (0 : Int), SV.int .i64 (0 : Int), SV.int .i64 (0 : Int)] (nat_lit 23)]) short_l0_go) noLps
theorem short_l0_lps_ok {α : Type} : LoopsOk E.P (short_l0_lps (α := α)) := addLp_ok short_l0_ok (noLps_ok _)

noncomputable def _root_.Go.Proofs.Ytkjellhkamfciaa.M.short {α : Type} (ax : Int) (ay : Int) (az : Int) (k0 : Int → Int → Int → Option α) : Option α :=
  if V.shbeyond_r0 ax ay az (4398046511104 : Int) = true then k0 (0 : Int) (0 : Int) (0 : Int)
else if (cEq ax (0 : Int) && (cEq ay (0 : Int) && (cEq az (0 : Int) && true))) = true then k0 (0 : Int) (0 : Int) (0 : Int) else if V.shbare_g ax ay az = true then M.short_l0 (fun (x21 x22 x23 : Int) ↦ if V.shbare_g x21 x22 x23 = true then k0 (V.shbare_r0 x21 x22 x23) (V.shbare_r1 x21 x22 x23) (V.shbare_r2 x21 x22 x23) else none) (100 : Nat) (V.shbare_r0 ax ay az) (V.shbare_r1 ax ay az) (V.shbare_r2 ax ay az) else none
theorem short_eq {α : Type} (ax : Int) (ay : Int) (az : Int) (Q : SV → Hp → Option α) : callI E look_shbare (exec E look_shbare short_l0_lps 400) 21 ([SV.agg [SV.int .i64 ax, SV.int .i64 ay, SV.int .i64 az]]) ([]) Q = M.short ax ay az (fun (x24 : Int) (x25 : Int) (x26 : Int) => Q (SV.agg [SV.int .i64 x24, SV.int .i64 x25, SV.int .i64 x26]) ([])) := by kernel_rfl
def short_sp : List AS := [.val (.agg [.int .i64 0, .int .i64 0, .int .i64 0])]
noncomputable def short_go {α : Type} (ds : List D) (Q : SV → Hp → Option α) : Option α :=
  dI ds fun ax ds => dI ds fun ay ds => dI ds fun az ds => dE ds (M.short ax ay az (fun (x24 : Int) (x25 : Int) (x26 : Int) => Q (SV.agg [SV.int .i64 x24, SV.int .i64 x25, SV.int .i64 x26]) ([])))
theorem short_ok {α : Type} : FnOk E.P 21 (fEnt (α := α) short_sp short_go) :=
  fEnt_ok E (look_shbare_ok) (exec_sound E E_ok (look_shbare_ok) (short_l0_lps_ok) 400) fun ds Q r h => by
    unfold short_go at h
    obtain ⟨ax, ds, rfl, h1⟩ := dI_inv h
    obtain ⟨ay, ds, rfl, h2⟩ := dI_inv h1
    obtain ⟨az, ds, rfl, h3⟩ := dI_inv h2
    obtain ⟨rfl, hE⟩ := dE_inv h3
    exact ⟨[SV.agg [SV.int .i64 ax, SV.int .i64 ay, SV.int .i64 az]], [], fun vs => by kernel_rfl, (short_eq ax ay az Q).trans hE⟩
/-! Plain words. -/
def gcd3 (p : P3) : Nat := Nat.gcd (Nat.gcd p.1.natAbs p.2.1.natAbs) p.2.2.natAbs
def divP (p : P3) (n : Int) : P3 := (p.1.tdiv n, p.2.1.tdiv n, p.2.2.tdiv n)
def bareP (p : P3) : P3 := divP p (gcd3 p)
/-- Is a part's size above n? -/
def bigP (p : P3) (n : Int) : Bool := decide (n < p.1) || decide (p.1 < -n) || decide (n < p.2.1) || decide (p.2.1 < -n) || decide (n < p.2.2) || decide (p.2.2 < -n)
def shrinkP : Nat → P3 → P3
  | 0, p => p
  | n + 1, p => if bigP p 1048576 then shrinkP n (divP p 2) else p
def shortP (p : P3) : P3 := if bigP p 4398046511104 then (0, 0, 0) else bareP (shrinkP 64 (bareP p))
noncomputable def _root_.Go.Proofs.Ytkjellhkamfciaa.V.pShort (p : P3) : P3 := hid (shortP p)
theorem max_spec (x y : Int) : ∃ m, (if y > x then y else x) = m ∧ x ≤ m ∧ y ≤ m ∧ (m = x ∨ m = y) := by
  refine ⟨_, rfl, ?_⟩
  split <;> omega
theorem min_spec (x y : Int) : ∃ m, (if y < x then y else x) = m ∧ m ≤ x ∧ m ≤ y ∧ (m = x ∨ m = y) := by
  refine ⟨_, rfl, ?_⟩
  split <;> omega
theorem beyond_eq (p : P3) (n : Int) (hn : 0 ≤ n ∧ n < 9223372036854775808) : V.shbeyond_r0 p.1 p.2.1 p.2.2 n = bigP p n := by
  obtain ⟨x, y, z⟩ := p
  unfold V.shbeyond_r0 bigP
  rw [IntWalk.i64_in (0 - n) (by omega)]
  simp only [cLt_eq]
  obtain ⟨a, e1, h1⟩ := max_spec x y
  obtain ⟨b, e2, h2⟩ := min_spec x y
  rw [e1, e2]
  obtain ⟨c, e3, h3⟩ := max_spec a z
  obtain ⟨d, e4, h4⟩ := min_spec b z
  rw [e3, e4, Bool.eq_iff_iff]
  by_cases hc : n < c
  · simp only [hc, decide_true, if_true, true_iff, Bool.or_eq_true, decide_eq_true_eq]; omega
  · simp only [hc, decide_false, Bool.false_eq_true, if_false, Bool.or_eq_true, decide_eq_true_eq]; omega
theorem bigP_false {p : P3} {n : Int} (h : bigP p n = false) : (-n ≤ p.1 ∧ p.1 ≤ n) ∧ (-n ≤ p.2.1 ∧ p.2.1 ≤ n) ∧ (-n ≤ p.2.2 ∧ p.2.2 ≤ n) := by
  simp [bigP] at h; omega
theorem bigP_eq_false {p : P3} {n : Int} (h : (-n ≤ p.1 ∧ p.1 ≤ n) ∧ (-n ≤ p.2.1 ∧ p.2.1 ≤ n) ∧ (-n ≤ p.2.2 ∧ p.2.2 ≤ n)) : bigP p n = false := by
  simp [bigP]; omega
theorem tdiv_size (x n : Int) : (x.tdiv n).natAbs ≤ x.natAbs := by
  rw [Int.natAbs_tdiv]; exact Nat.div_le_self _ _
theorem bigP_div {p : P3} {m : Int} (n : Int) (h : bigP p m = false) : bigP (divP p n) m = false := by
  have h := bigP_false h
  have h1 := tdiv_size p.1 n
  have h2 := tdiv_size p.2.1 n
  have h3 := tdiv_size p.2.2 n
  apply bigP_eq_false
  simp only [divP]
  omega
theorem of_val (p : P3) (d : Int) (hd : d ≠ 0) (hp : bigP p 4398046511104 = false) : V.shof_g d p.1 p.2.1 p.2.2 = true ∧ (V.shof_r0 d p.1 p.2.1 p.2.2, V.shof_r1 d p.1 p.2.1 p.2.2, V.shof_r2 d p.1 p.2.1 p.2.2) = divP p d := by
  have h := bigP_false (bigP_div d hp)
  unfold V.shof_g V.shof_r0 V.shof_r1 V.shof_r2
  simp only [if_neg hd, true_and]
  simp only [divP] at h ⊢
  rw [IntWalk.i64_in _ (by omega), IntWalk.i64_in _ (by omega), IntWalk.i64_in _ (by omega)]
theorem gcd3_pos {p : P3} (h : p ≠ (0, 0, 0)) : 0 < gcd3 p := by
  obtain ⟨x, y, z⟩ := p
  unfold gcd3
  simp only
  apply Nat.pos_of_ne_zero
  intro h0
  rw [Nat.gcd_eq_zero_iff, Nat.gcd_eq_zero_iff] at h0
  apply h
  simp only [Int.natAbs_eq_zero] at h0
  rw [h0.1.1, h0.1.2, h0.2]
theorem bare_val (p : P3) (h0 : p ≠ (0, 0, 0)) (hp : bigP p 4398046511104 = false) : V.shbare_g p.1 p.2.1 p.2.2 = true ∧ (V.shbare_r0 p.1 p.2.1 p.2.2, V.shbare_r1 p.1 p.2.1 p.2.2, V.shbare_r2 p.1 p.2.1 p.2.2) = bareP p := by
  have h := bigP_false hp
  have hg1 : V.gcdI p.1 p.2.1 = ((Nat.gcd p.1.natAbs p.2.1.natAbs : Nat) : Int) := gcdI_eq _ _
  have hgl : Nat.gcd p.1.natAbs p.2.1.natAbs ≤ 4398046511104 := by
    by_cases hx : p.1.natAbs = 0
    · rw [hx, Nat.gcd_zero_left]; omega
    · have := Nat.gcd_le_left p.2.1.natAbs (Nat.pos_of_ne_zero hx); omega
  have hg : V.gcdI (V.gcdI p.1 p.2.1) p.2.2 = (gcd3 p : Int) := by rw [gcdI_eq, hg1, Int.natAbs_natCast]; rfl
  have hpos := gcd3_pos h0
  obtain ⟨o1, o2⟩ := of_val p (gcd3 p) (by omega) hp
  unfold V.shbare_g V.shbare_r0 V.shbare_r1 V.shbare_r2
  rw [hg]
  have c1 : ((-9223372036854775808 : Int) < p.1 ∧ p.1 < (9223372036854775808 : Int)) ∧ (-562949953421312 : Int) < p.2.1 ∧ p.2.1 < (562949953421312 : Int) := by omega
  have c2 : ((-9223372036854775808 : Int) < V.gcdI p.1 p.2.1 ∧ V.gcdI p.1 p.2.1 < (9223372036854775808 : Int)) ∧ (-562949953421312 : Int) < p.2.2 ∧ p.2.2 < (562949953421312 : Int) := by rw [hg1]; omega
  simp only [if_pos c1, if_pos c2, if_pos o1, true_and]
  exact o2
theorem half_abs (x : Int) : (x.tdiv 2).natAbs = x.natAbs / 2 := Int.natAbs_tdiv x 2
theorem divP2_ne {p : P3} (h : bigP p 1048576 = true) : divP p 2 ≠ (0, 0, 0) := by
  intro h0
  simp only [divP, Prod.mk.injEq] at h0
  simp [bigP] at h
  have h1 := half_abs p.1
  have h2 := half_abs p.2.1
  have h3 := half_abs p.2.2
  rw [h0.1] at h1; rw [h0.2.1] at h2; rw [h0.2.2] at h3
  omega
/-- 2^20, doubled so often. -/
def lim (k : Nat) : Int := 1048576 * ((2 ^ k : Nat) : Int)
theorem lim_zero : lim 0 = 1048576 := by simp [lim]
theorem lim_succ (k : Nat) : lim (k + 1) = 2 * lim k := by
  unfold lim
  rw [Nat.pow_succ, Int.natCast_mul]
  omega
theorem lim_64 : 4398046511104 ≤ lim 64 := by
  unfold lim
  decide
theorem halved {p : P3} {k : Nat} (h : bigP p (lim (k + 1)) = false) : bigP (divP p 2) (lim k) = false := by
  have h := bigP_false h
  apply bigP_eq_false
  simp only [divP]
  rw [lim_succ] at h
  generalize lim k = q at *
  have h1 := half_abs p.1
  have h2 := half_abs p.2.1
  have h3 := half_abs p.2.2
  omega
theorem shrink_stop (n : Nat) {p : P3} (h : bigP p 1048576 = false) : shrinkP n p = p := by
  cases n with
  | zero => rfl
  | succ n => simp [shrinkP, h]
theorem shrink_less : ∀ (k n m : Nat) (p : P3), bigP p (lim k) = false → k ≤ n → k ≤ m → shrinkP n p = shrinkP m p
  | 0, n, m, p, h, _, _ => by
    have h' : bigP p 1048576 = false := by rw [← lim_zero]; exact h
    rw [shrink_stop n h', shrink_stop m h']
  | k + 1, n, m, p, h, h1, h2 => by
    obtain ⟨n, rfl⟩ : ∃ q, n = q + 1 := ⟨n - 1, by omega⟩
    obtain ⟨m, rfl⟩ : ∃ q, m = q + 1 := ⟨m - 1, by omega⟩
    simp only [shrinkP]
    split
    · exact shrink_less k n m _ (halved h) (by omega) (by omega)
    · rfl
theorem shrink_small : ∀ (k n : Nat) (p : P3), bigP p (lim k) = false → k ≤ n → bigP (shrinkP n p) 1048576 = false
  | 0, n, p, h, _ => by
    have h' : bigP p 1048576 = false := by rw [← lim_zero]; exact h
    rw [shrink_stop n h']; exact h'
  | k + 1, n, p, h, h1 => by
    obtain ⟨n, rfl⟩ : ∃ q, n = q + 1 := ⟨n - 1, by omega⟩
    simp only [shrinkP]
    split
    · exact shrink_small k n _ (halved h) (by omega)
    · rename_i hb; simpa using hb
theorem shrink_ne : ∀ (n : Nat) (p : P3), p ≠ (0, 0, 0) → shrinkP n p ≠ (0, 0, 0)
  | 0, p, h => h
  | n + 1, p, h => by
    simp only [shrinkP]
    split
    · rename_i hb; exact shrink_ne n _ (divP2_ne hb)
    · exact h
theorem shrink_big : ∀ (n : Nat) (p : P3) (m : Int), bigP p m = false → bigP (shrinkP n p) m = false
  | 0, p, m, h => h
  | n + 1, p, m, h => by
    simp only [shrinkP]
    split
    · exact shrink_big n _ m (bigP_div 2 h)
    · exact h
theorem short_l0_val {α : Type} (k1 : Int → Int → Int → Option α) : ∀ (k fuel : Nat) (p : P3), bigP p (lim k) = false → bigP p 4398046511104 = false → k < fuel →
    M.short_l0 k1 fuel p.1 p.2.1 p.2.2 = k1 (shrinkP k p).1 (shrinkP k p).2.1 (shrinkP k p).2.2
  | k, 0, p, h, h2, h3 => by omega
  | k, f + 1, p, h, h2, h3 => by
    unfold M.short_l0 M.short_l0_step
    rw [beyond_eq p 1048576 (by omega)]
    by_cases hb : bigP p 1048576 = true
    · obtain ⟨o1, o2⟩ := of_val p 2 (by decide) h2
      rw [if_pos hb, if_pos o1]
      cases k with
      | zero => exact absurd hb (by rw [← lim_zero, h]; decide)
      | succ k =>
        have ih := short_l0_val k1 k f (divP p 2) (halved h) (bigP_div 2 h2) (by omega)
        have e : shrinkP (k + 1) p = shrinkP k (divP p 2) := by simp [shrinkP, hb]
        rw [e, ← ih, ← o2]
    · rw [if_neg hb, shrink_stop k (by simpa using hb)]
theorem divP_ne {p : P3} (h0 : p ≠ (0, 0, 0)) : bareP p ≠ (0, 0, 0) := by
  intro h
  apply h0
  have d1 : (gcd3 p : Int) ∣ p.1 := Int.ofNat_dvd_left.2 (Nat.dvd_trans (Nat.gcd_dvd_left _ _) (Nat.gcd_dvd_left _ _))
  have d2 : (gcd3 p : Int) ∣ p.2.1 := Int.ofNat_dvd_left.2 (Nat.dvd_trans (Nat.gcd_dvd_left _ _) (Nat.gcd_dvd_right _ _))
  have d3 : (gcd3 p : Int) ∣ p.2.2 := Int.ofNat_dvd_left.2 (Nat.gcd_dvd_right _ _)
  simp only [bareP, divP, Prod.mk.injEq] at h
  have e1 := Int.mul_tdiv_cancel' d1
  have e2 := Int.mul_tdiv_cancel' d2
  have e3 := Int.mul_tdiv_cancel' d3
  rw [h.1] at e1; rw [h.2.1] at e2; rw [h.2.2] at e3
  obtain ⟨x, y, z⟩ := p
  simp only [Int.mul_zero] at e1 e2 e3
  rw [← e1, ← e2, ← e3]
theorem short_v {α : Type} (ax ay az : Int) (k0 : Int → Int → Int → Option α) : M.short ax ay az k0 = k0 (V.pShort (ax, ay, az)).1 (V.pShort (ax, ay, az)).2.1 (V.pShort (ax, ay, az)).2.2 := by
  unfold M.short V.pShort
  rw [hid_eq]
  have hb := beyond_eq (ax, ay, az) 4398046511104 (by omega)
  simp only at hb
  rw [hb]
  unfold shortP
  by_cases h1 : bigP (ax, ay, az) 4398046511104 = true
  · simp only [h1, if_true]
  · have h1' : bigP (ax, ay, az) 4398046511104 = false := by simpa using h1
    simp only [h1', Bool.false_eq_true, if_false]
    by_cases h0 : (ax, ay, az) = ((0, 0, 0) : P3)
    · cases h0
      rw [if_pos (by simp [cEq_eq])]
      rfl
    · rw [if_neg (by simp only [cEq_eq, Bool.and_true, Bool.and_eq_true, beq_iff_eq]; rintro ⟨rfl, rfl, rfl⟩; exact h0 rfl)]
      obtain ⟨b1, b2⟩ := bare_val (ax, ay, az) h0 h1'
      simp only at b1 b2
      rw [if_pos b1]
      have hs : bigP (bareP (ax, ay, az)) 4398046511104 = false := bigP_div _ h1'
      have hl := short_l0_val (fun (x21 x22 x23 : Int) => if V.shbare_g x21 x22 x23 = true then k0 (V.shbare_r0 x21 x22 x23) (V.shbare_r1 x21 x22 x23) (V.shbare_r2 x21 x22 x23) else none) 64 100 (bareP (ax, ay, az)) (by
        have := bigP_false hs
        apply bigP_eq_false
        have e := lim_64
        omega) hs (by omega)
      rw [← b2] at hl
      simp only at hl
      rw [hl, b2]
      obtain ⟨c1, c2⟩ := bare_val (shrinkP 64 (bareP (ax, ay, az))) (shrink_ne _ _ (divP_ne h0)) (shrink_big _ _ _ hs)
      rw [if_pos c1, ← c2]
noncomputable def short_h {α : Type} (ds : List D) (Q : SV → Hp → Option α) : Option α :=
  dI ds fun ax ds => dI ds fun ay ds => dI ds fun az ds => dE ds (Q (.agg [.int .i64 (V.pShort (ax, ay, az)).1, .int .i64 (V.pShort (ax, ay, az)).2.1, .int .i64 (V.pShort (ax, ay, az)).2.2]) ([]))
theorem short_h_ok {α : Type} : FnOk E.P 21 (fEnt (α := α) short_sp short_h) :=
  fEnt_ok E (look_shbare_ok) (exec_sound E E_ok (look_shbare_ok) (short_l0_lps_ok) 400) fun ds Q r h => by
    unfold short_h at h
    obtain ⟨ax, ds, rfl, h1⟩ := dI_inv h
    obtain ⟨ay, ds, rfl, h2⟩ := dI_inv h1
    obtain ⟨az, ds, rfl, h3⟩ := dI_inv h2
    obtain ⟨rfl, hE⟩ := dE_inv h3
    exact ⟨[SV.agg [SV.int .i64 ax, SV.int .i64 ay, SV.int .i64 az]], [], fun vs => by kernel_rfl, (short_eq ax ay az Q).trans ((short_v ax ay az _).trans hE)⟩
noncomputable def look_short {α : Type} : LookF α := addFn 21 (fEnt short_sp short_h) look_shbare
theorem look_short_ok {α : Type} : LookOk E.P (look_short (α := α)) := addFn_ok short_h_ok (look_shbare_ok)
end Go.Proofs.Ytkjellhkamfciaa.Sx
