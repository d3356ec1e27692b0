/- shape: the laws' small words, and their first calls. -/
import Derived.Test.YtkjellhkamfciaaShG
namespace Go.Proofs.Ytkjellhkamfciaa.Sx
open Go
set_option maxRecDepth 20000
set_option linter.unusedVariables false
set_option linter.unusedSimpArgs false
noncomputable def _root_.Go.Proofs.Ytkjellhkamfciaa.M.lpick {α : Type} (c : Int) (n : Int) (k0 : Int → Option α) : Option α :=
  if cLt c (0 : Int) = true then if n = (0 : Int) then none else k0 (Int.tmod (IntKind.wrap .i64 ((0 : Int) - IntKind.wrap .i64 (c + (1 : Int)))) n) else if n = (0 : Int) then none else k0 (Int.tmod c n)
theorem lpick_eq {α : Type} (c : Int) (n : Int) (Q : SV → Hp → Option α) : callI E look_mass (exec E look_mass noLps 400) 20 ([SV.int .i64 c, SV.int .i64 n]) ([]) Q = M.lpick c n (fun (x0 : Int) => Q (SV.int .i64 x0) ([])) := by kernel_rfl
def lpick_sp : List AS := [.val (.int .i64 0), .val (.int .i64 0)]
noncomputable def _root_.Go.Proofs.Ytkjellhkamfciaa.V.lpick_g (c : Int) (n : Int) : Bool :=
  if cLt c (0 : Int) = true then if n = (0 : Int) then false else true else if n = (0 : Int) then false else true
noncomputable def _root_.Go.Proofs.Ytkjellhkamfciaa.V.lpick_r0 (c : Int) (n : Int) : Int :=
  if cLt c (0 : Int) = true then if n = (0 : Int) then (0 : Int) else Int.tmod (IntKind.wrap .i64 ((0 : Int) - IntKind.wrap .i64 (c + (1 : Int)))) n else if n = (0 : Int) then (0 : Int) else Int.tmod c n
theorem lpick_val {α : Type} (c : Int) (n : Int) (k0 : Int → Option α) : M.lpick c n k0 = if V.lpick_g c n = true then k0 (V.lpick_r0 c n) else none := by
  unfold M.lpick V.lpick_g V.lpick_r0
  repeat' first | rfl | (split <;> rename_i h <;> first | simp only [if_pos h] | simp only [if_neg h] | skip)
noncomputable def lpick_c {α : Type} (ds : List D) (Q : SV → Hp → Option α) : Option α :=
  dI ds fun c ds => dI ds fun n ds => dE ds (if V.lpick_g c n = true then Q (SV.int .i64 (V.lpick_r0 c n)) ([]) else none)
theorem lpick_c_ok {α : Type} : FnOk E.P 20 (fEnt (α := α) lpick_sp lpick_c) :=
  fEnt_ok E (look_mass_ok) (exec_sound E E_ok (look_mass_ok) (noLps_ok _) 400) fun ds Q r h => by
    unfold lpick_c at h
    obtain ⟨c, ds, rfl, h1⟩ := dI_inv h
    obtain ⟨n, ds, rfl, h2⟩ := dI_inv h1
    obtain ⟨rfl, hE⟩ := dE_inv h2
    exact ⟨[SV.int .i64 c, SV.int .i64 n], [], fun vs => by kernel_rfl, (lpick_eq c n Q).trans ((lpick_val c n (fun (x0 : Int) => Q (SV.int .i64 x0) ([]))).trans hE)⟩
noncomputable def lpick_go {α : Type} (ds : List D) (Q : SV → Hp → Option α) : Option α :=
  dI ds fun c ds => dI ds fun n ds => dE ds (M.lpick c n (fun (x0 : Int) => Q (SV.int .i64 x0) ([])))
theorem lpick_ok {α : Type} : FnOk E.P 20 (fEnt (α := α) lpick_sp lpick_go) :=
  fEnt_ok E (look_mass_ok) (exec_sound E E_ok (look_mass_ok) (noLps_ok _) 400) fun ds Q r h => by
    unfold lpick_go at h
    obtain ⟨c, ds, rfl, h1⟩ := dI_inv h
    obtain ⟨n, ds, rfl, h2⟩ := dI_inv h1
    obtain ⟨rfl, hE⟩ := dE_inv h2
    exact ⟨[SV.int .i64 c, SV.int .i64 n], [], fun vs => by kernel_rfl, (lpick_eq c n Q).trans hE⟩
noncomputable def look_lpick {α : Type} : LookF α := addFn 20 (fEnt lpick_sp lpick_c) look_mass
theorem look_lpick_ok {α : Type} : LookOk E.P (look_lpick (α := α)) := addFn_ok lpick_c_ok (look_mass_ok)
noncomputable def _root_.Go.Proofs.Ytkjellhkamfciaa.M.lpart {α : Type} (n : Int) (most : Int) (k0 : Int → Option α) : Option α :=
  if V.lpick_g n (IntKind.wrap .i64 (IntKind.wrap .i64 ((2 : Int) * most) + (1 : Int))) = true then k0 (IntKind.wrap .i64 (V.lpick_r0 n (IntKind.wrap .i64 (IntKind.wrap .i64 ((2 : Int) * most) + (1 : Int))) - most)) else none
theorem lpart_eq {α : Type} (n : Int) (most : Int) (Q : SV → Hp → Option α) : callI E look_lpick (exec E look_lpick noLps 400) 44 ([SV.int .i64 n, SV.int .i64 most]) ([]) Q = M.lpart n most (fun (x1 : Int) => Q (SV.int .i64 x1) ([])) := by kernel_rfl
def lpart_sp : List AS := [.val (.int .i64 0), .val (.int .i64 0)]
noncomputable def _root_.Go.Proofs.Ytkjellhkamfciaa.V.lpart_g (n : Int) (most : Int) : Bool :=
  if V.lpick_g n (IntKind.wrap .i64 (IntKind.wrap .i64 ((2 : Int) * most) + (1 : Int))) = true then true else false
noncomputable def _root_.Go.Proofs.Ytkjellhkamfciaa.V.lpart_r0 (n : Int) (most : Int) : Int :=
  if V.lpick_g n (IntKind.wrap .i64 (IntKind.wrap .i64 ((2 : Int) * most) + (1 : Int))) = true then IntKind.wrap .i64 (V.lpick_r0 n (IntKind.wrap .i64 (IntKind.wrap .i64 ((2 : Int) * most) + (1 : Int))) - most) else (0 : Int)
theorem lpart_val {α : Type} (n : Int) (most : Int) (k0 : Int → Option α) : M.lpart n most k0 = if V.lpart_g n most = true then k0 (V.lpart_r0 n most) else none := by
  unfold M.lpart V.lpart_g V.lpart_r0
  repeat' first | rfl | (split <;> rename_i h <;> first | simp only [if_pos h] | simp only [if_neg h] | skip)
noncomputable def lpart_c {α : Type} (ds : List D) (Q : SV → Hp → Option α) : Option α :=
  dI ds fun n ds => dI ds fun most ds => dE ds (if V.lpart_g n most = true then Q (SV.int .i64 (V.lpart_r0 n most)) ([]) else none)
theorem lpart_c_ok {α : Type} : FnOk E.P 44 (fEnt (α := α) lpart_sp lpart_c) :=
  fEnt_ok E (look_lpick_ok) (exec_sound E E_ok (look_lpick_ok) (noLps_ok _) 400) fun ds Q r h => by
    unfold lpart_c at h
    obtain ⟨n, ds, rfl, h1⟩ := dI_inv h
    obtain ⟨most, ds, rfl, h2⟩ := dI_inv h1
    obtain ⟨rfl, hE⟩ := dE_inv h2
    exact ⟨[SV.int .i64 n, SV.int .i64 most], [], fun vs => by kernel_rfl, (lpart_eq n most Q).trans ((lpart_val n most (fun (x1 : Int) => Q (SV.int .i64 x1) ([]))).trans hE)⟩
noncomputable def lpart_go {α : Type} (ds : List D) (Q : SV → Hp → Option α) : Option α :=
  dI ds fun n ds => dI ds fun most ds => dE ds (M.lpart n most (fun (x1 : Int) => Q (SV.int .i64 x1) ([])))
theorem lpart_ok {α : Type} : FnOk E.P 44 (fEnt (α := α) lpart_sp lpart_go) :=
  fEnt_ok E (look_lpick_ok) (exec_sound E E_ok (look_lpick_ok) (noLps_ok _) 400) fun ds Q r h => by
    unfold lpart_go at h
    obtain ⟨n, ds, rfl, h1⟩ := dI_inv h
    obtain ⟨most, ds, rfl, h2⟩ := dI_inv h1
    obtain ⟨rfl, hE⟩ := dE_inv h2
    exact ⟨[SV.int .i64 n, SV.int .i64 most], [], fun vs => by kernel_rfl, (lpart_eq n most Q).trans hE⟩
noncomputable def look_lpart {α : Type} : LookF α := addFn 44 (fEnt lpart_sp lpart_c) look_lpick
theorem look_lpart_ok {α : Type} : LookOk E.P (look_lpart (α := α)) := addFn_ok lpart_c_ok (look_lpick_ok)
noncomputable def _root_.Go.Proofs.Ytkjellhkamfciaa.M.lpoints_l0_step {α : Type} (x10 : L3) (x12 : L3) (kn : Int → Option α) (k0 : Option α) (k2 : Option α) (x13 : Int) : Option α :=
  if cLt x13 (↑(List.length x10) : Int) = true then
  if (0 : Int) ≤ x13 ∧ x13 < (↑(List.length x10) : Int) then
    if (0 : Int) ≤ x13 ∧ x13 < (↑(List.length x12) : Int) then
      if
          (!(cEq (Prod.fst (List.getD x10 (Int.toNat x13) ((0 : Int), (0 : Int), (0 : Int)))) (Prod.fst (List.getD x12 (Int.toNat x13) ((0 : Int), (0 : Int), (0 : Int)))) &&
                (cEq (Prod.fst (Prod.snd (List.getD x10 (Int.toNat x13) ((0 : Int), (0 : Int), (0 : Int))))) (Prod.fst (Prod.snd (List.getD x12 (Int.toNat x13) ((0 : Int), (0 : Int), (0 : Int))))) && (cEq (Prod.snd (Prod.snd (List.getD x10 (Int.toNat x13) ((0 : Int), (0 : Int), (0 : Int))))) (Prod.snd (Prod.snd (List.getD x12 (Int.toNat x13) ((0 : Int), (0 : Int), (0 : Int))))) && true)))) =
            true then
        k0
      else kn (IntKind.wrap .i64 (x13 + (1 : Int)))
    else none
  else none
else k2
noncomputable def _root_.Go.Proofs.Ytkjellhkamfciaa.M.lpoints_l0 {α : Type} (x10 : L3) (x12 : L3) (k0 : Option α) (k2 : Option α) : Nat → Int → Option α
  | 0, _ => none
  | n + 1, x13 => M.lpoints_l0_step x10 x12 (M.lpoints_l0 x10 x12 k0 k2 n) k0 k2 x13
theorem lpoints_l0_step_eq {α : Type} (x9 : Value) (x10 : L3) (x11 : Value) (x12 : L3) (x13 : Int) (Q : Ex → St → Option α) : (loopStep E (exec E look_lpart noLps 400) 18 [false, true, false, true, true] 0 (codeAt E.P 18 [false, true, false, true, true])) (St.mk (some (SV.ros x9 kP x10) :: some (SV.ros x11 kP x12) :: nn 3 (some (SV.int .i64 x13) :: nn 20 ([]))) []) Q = M.lpoints_l0_step x10 x12 (fun (x14 : Int) => Q .normal (St.mk (some (SV.ros x9 kP x10) :: some (SV.ros x11 kP x12) :: nn 3 (some (SV.int .i64 x14) :: nn 20 ([]))) [])) (Q .ret (St.mk (nn 4 (some (SV.bool false) :: nn 21 ([]))) [])) (Q (.exit 0) (St.mk (nn 26 ([])) [])) x13 := by kernel_rfl
theorem lpoints_l0_iter {α : Type} (x9 : Value) (x10 : L3) (x11 : Value) (x12 : L3) (Q : Ex → St → Option α) : ∀ (n : Nat) (x13 : Int), iter (loopStep E (exec E look_lpart noLps 400) 18 [false, true, false, true, true] 0 (codeAt E.P 18 [false, true, false, true, true])) n (St.mk (some (SV.ros x9 kP x10) :: some (SV.ros x11 kP x12) :: nn 3 (some (SV.int .i64 x13) :: nn 20 ([]))) []) Q = M.lpoints_l0 x10 x12 (Q .ret (St.mk (nn 4 (some (SV.bool false) :: nn 21 ([]))) [])) (Q (.exit 0) (St.mk (nn 26 ([])) [])) n x13
  | 0, _ => rfl
  | n + 1, x13 => (lpoints_l0_step_eq x9 x10 x11 x12 x13 (iterK (loopStep E (exec E look_lpart noLps 400) 18 [false, true, false, true, true] 0 (codeAt E.P 18 [false, true, false, true, true])) n Q)).trans (congrArg (fun kn => M.lpoints_l0_step x10 x12 kn (Q .ret (St.mk (nn 4 (some (SV.bool false) :: nn 21 ([]))) [])) (Q (.exit 0) (St.mk (nn 26 ([])) [])) x13) (funext fun x13 => lpoints_l0_iter x9 x10 x11 x12 Q n x13))
noncomputable def lpoints_l0_go {α : Type} (ds : List D) (Q : Ex → St → Option α) : Option α :=
  dV ds fun x9 ds => dL kP ds fun x10 ds => dV ds fun x11 ds => dL kP ds fun x12 ds => dI ds fun x13 ds => dE ds (M.lpoints_l0 x10 x12 (Q .ret (St.mk (nn 4 (some (SV.bool false) :: nn 21 ([]))) [])) (Q (.exit 0) (St.mk (nn 26 ([])) [])) (100 + x10.length + x12.length) x13)
theorem lpoints_l0_ok {α : Type} : LoopOk E.P 18 [false, true, false, true, true] 0 (lEnt (α := α) (St.mk (some (SV.ros undef kP []) :: some (SV.ros undef kP []) :: nn 3 (some (SV.int .i64 (0 : Int)) :: nn 20 ([]))) []) lpoints_l0_go) :=
  lEnt_ok E (exec_sound E E_ok (look_lpart_ok) (noLps_ok _) 400) fun ds Q r h S hS => by
    unfold lpoints_l0_go at h
    obtain ⟨x9, ds, rfl, h1⟩ := dV_inv h
    obtain ⟨x10, ds, rfl, h2⟩ := dL_inv h1
    obtain ⟨x11, ds, rfl, h3⟩ := dV_inv h2
    obtain ⟨x12, ds, rfl, h4⟩ := dL_inv h3
    obtain ⟨x13, ds, rfl, h5⟩ := dI_inv h4
    obtain ⟨rfl, hE⟩ := dE_inv h5
    have e : fillS (St.mk (some (SV.ros undef kP []) :: some (SV.ros undef kP []) :: nn 3 (some (SV.int .i64 (0 : Int)) :: nn 20 ([]))) []) [.v x9, .l kP x10, .v x11, .l kP x12, .i x13] = some (St.mk (some (SV.ros x9 kP x10) :: some (SV.ros x11 kP x12) :: nn 3 (some (SV.int .i64 x13) :: nn 20 ([]))) []) := by kernel_rfl
    rw [e] at hS
    cases hS
    exact ⟨_, (lpoints_l0_iter x9 x10 x11 x12 Q _ x13).trans hE⟩
noncomputable def lpoints_l0_lps {α : Type} : LookL α := addLp 18 [false, true, false, true, true] 0 (lEnt (St.mk (some (SV.ros undef kP []) :: some (SV.ros undef kP []) :: nn 3 (some (SV.int .i64 (0 : Int)) :: nn 20 ([]))) []) lpoints_l0_go) noLps
theorem lpoints_l0_lps_ok {α : Type} : LoopsOk E.P (lpoints_l0_lps (α := α)) := addLp_ok lpoints_l0_ok (noLps_ok _)

noncomputable def _root_.Go.Proofs.Ytkjellhkamfciaa.M.lpoints {α : Type} (a : L3) (b : L3) (k0 : Bool → Option α) : Option α :=
  if (!cEq (↑(List.length a) : Int) (↑(List.length b) : Int)) = true then k0 false else M.lpoints_l0 a b (k0 false) (k0 true) ((100 : Nat) + List.length a + List.length b) (0 : Int)
theorem lpoints_eq {α : Type} (a : L3) (b : L3) (v15 : Value) (v16 : Value) (Q : SV → Hp → Option α) : callI E look_lpart (exec E look_lpart lpoints_l0_lps 400) 18 ([SV.ros v15 kP a, SV.ros v16 kP b]) ([]) Q = M.lpoints a b (fun (x17 : Bool) => Q (SV.bool x17) ([])) := by kernel_rfl
def lpoints_sp : List AS := [.ro (.st (.i .i64) [.i .i64, .i .i64]), .ro (.st (.i .i64) [.i .i64, .i .i64])]
/-- Are two lists the same? -/
def _root_.Go.Proofs.Ytkjellhkamfciaa.V.ptsEq (a b : List P3) : Bool := decide (a = b)
theorem drop_eq_iff {a b : List P3} (h : a.length = b.length) : ∀ (k i : Nat), a.length = i + k → ((a.drop i = b.drop i) ↔ ∀ j, i ≤ j → j < a.length → pt a j = pt b j)
  | 0, i, hk => by
    rw [List.drop_eq_nil_of_le (by omega), List.drop_eq_nil_of_le (by omega)]
    simp; intro j h1 h2; omega
  | k + 1, i, hk => by
    rw [drop_pt a i (by omega), drop_pt b i (by omega), List.cons.injEq, drop_eq_iff h k (i + 1) (by omega)]
    constructor
    · rintro ⟨h1, h2⟩ j h3 h4
      by_cases e : j = i
      · subst e; exact h1
      · exact h2 j (by omega) h4
    · intro h1
      exact ⟨h1 i (Nat.le_refl _) (by omega), fun j h2 h3 => h1 j (by omega) h3⟩
theorem lpoints_l0_val {α : Type} (a b : List P3) (hl : a.length < 1099511627776) (he : a.length = b.length) (k0 k2 : Option α) : ∀ (fuel i : Nat), i ≤ a.length → a.length - i < fuel →
    M.lpoints_l0 a b k0 k2 fuel (i : Int) = if a.drop i = b.drop i then k2 else k0
  | 0, i, h1, h2 => by omega
  | f + 1, i, h1, h2 => by
    unfold M.lpoints_l0 M.lpoints_l0_step
    rw [cLt_nat]
    by_cases hx : i < a.length
    · rw [w_next (by omega), lpoints_l0_val a b hl he k0 k2 f (i + 1) (by omega) (by omega)]
      have hb : ((0 : Int) ≤ (i : Int) ∧ (i : Int) < (b.length : Int)) = True := eq_true (by omega)
      simp only [hx, decide_true, if_true, inB hx, hb, toNat_nat, eq3]
      rw [drop_pt a i hx, drop_pt b i (by omega)]
      show (if (!decide (pt a i = pt b i)) = true then _ else _) = _
      by_cases hp : pt a i = pt b i
      · simp [hp]
      · simp [hp]
    · have : i = a.length := by omega
      subst this
      rw [if_neg (by simp), List.drop_eq_nil_of_le (Nat.le_refl _), List.drop_eq_nil_of_le (by omega), if_pos rfl]
theorem lpoints_v {α : Type} (a b : List P3) (hg : V.lenB a.length = true) (k0 : Bool → Option α) : M.lpoints a b k0 = k0 (V.ptsEq a b) := by
  unfold M.lpoints V.ptsEq
  rw [cEq_nat]
  by_cases h : a.length = b.length
  · simp only [h, decide_true, Bool.not_true, Bool.false_eq_true, if_false]
    refine (lpoints_l0_val a b (lenB_lt hg) h (k0 false) (k0 true) _ 0 (by omega) (by omega)).trans ?_
    rw [List.drop_zero, List.drop_zero]
    by_cases e : a = b <;> simp [e]
  · have : a ≠ b := fun e => h (by rw [e])
    simp [h, this]
noncomputable def lpoints_h {α : Type} (ds : List D) (Q : SV → Hp → Option α) : Option α :=
  dL kP ds fun a ds => dL kP ds fun b ds => dE ds (if V.lenB a.length = true then Q (.bool (V.ptsEq a b)) ([]) else none)
theorem lpoints_h_ok {α : Type} : FnOk E.P 18 (fEnt (α := α) lpoints_sp lpoints_h) :=
  fEntR_ok E (look_lpart_ok) (exec_sound E E_ok (look_lpart_ok) (lpoints_l0_lps_ok) 400) fun ds Q r h => by
    unfold lpoints_h at h
    obtain ⟨a, ds, rfl, h1⟩ := dL_inv h
    obtain ⟨b, ds, rfl, h2⟩ := dL_inv h1
    obtain ⟨rfl, hE⟩ := dE_inv h2
    split at hE
    · rename_i hg
      exact ⟨_, _, hE, fun vs => ⟨_, _, by kernel_rfl, (lpoints_eq a b (vs.headD undef) (vs.tail.headD undef) _).trans (lpoints_v a b hg _)⟩⟩
    · cases hE
noncomputable def look_lpoints {α : Type} : LookF α := addFn 18 (fEnt lpoints_sp lpoints_h) look_lpart
theorem look_lpoints_ok {α : Type} : LookOk E.P (look_lpoints (α := α)) := addFn_ok lpoints_h_ok (look_lpart_ok)
noncomputable def _root_.Go.Proofs.Ytkjellhkamfciaa.M.awake {α : Type} (k0 : Bool → Option α) : Option α :=
  if cEq (V.chk (4 : Int) (0 : Int) (0 : Int) (0 : Int) (0 : Int) [((0 : Int), (0 : Int), (0 : Int)), ((4 : Int), (0 : Int), (0 : Int)), ((0 : Int), (4 : Int), (0 : Int)), ((0 : Int), (0 : Int), (4 : Int))]) (0 : Int) = true then
  if V.lenB (List.length (V.corA (4 : Int) (0 : Int) (0 : Int) (0 : Int) (0 : Int) [((0 : Int), (0 : Int), (0 : Int)), ((4 : Int), (0 : Int), (0 : Int)), ((0 : Int), (4 : Int), (0 : Int)), ((0 : Int), (0 : Int), (4 : Int))])) = true then
    if V.ptsEq (V.corA (4 : Int) (0 : Int) (0 : Int) (0 : Int) (0 : Int) [((0 : Int), (0 : Int), (0 : Int)), ((4 : Int), (0 : Int), (0 : Int)), ((0 : Int), (4 : Int), (0 : Int)), ((0 : Int), (0 : Int), (4 : Int))]) [((0 : Int), (0 : Int), (-1 : Int)), ((0 : Int), (-1 : Int), (0 : Int)), ((-1 : Int), (0 : Int), (0 : Int)), ((1 : Int), (1 : Int), (1 : Int))] = true then
      if cEq (V.masE (1 : Int) (4096 : Int) (0 : Int) (0 : Int) (0 : Int) [] (4294967296 : Int)) (0 : Int) = true then
        if cEq (Prod.fst (V.masI (1 : Int) (4096 : Int) (0 : Int) (0 : Int) (0 : Int) [] (4294967296 : Int))) (1717986918 : Int) = true then
          if cEq (V.chk (4 : Int) (0 : Int) (0 : Int) (0 : Int) (0 : Int) [((0 : Int), (0 : Int), (0 : Int)), ((1 : Int), (0 : Int), (0 : Int)), ((0 : Int), (1 : Int), (0 : Int)), ((1 : Int), (1 : Int), (0 : Int))]) (51 : Int) = true then k0 (cEq (Prod.fst (V.pShort ((6 : Int), (-4 : Int), (0 : Int)))) (3 : Int) && (cEq (Prod.fst (Prod.snd (V.pShort ((6 : Int), (-4 : Int), (0 : Int))))) (-2 : Int) && (cEq (Prod.snd (Prod.snd (V.pShort ((6 : Int), (-4 : Int), (0 : Int))))) (0 : Int) && true)))
          else k0 false
        else k0 false
      else k0 false
    else k0 false
  else none
else k0 false
theorem awake_eq {α : Type} (Q : SV → Hp → Option α) : callI E look_lpoints (exec E look_lpoints noLps 400) 10 ([]) ([]) Q = M.awake (fun (x18 : Bool) => Q (SV.bool x18) ([])) := by kernel_rfl
def awake_sp : List AS := []
noncomputable def awake_go {α : Type} (ds : List D) (Q : SV → Hp → Option α) : Option α :=
  dE ds (M.awake (fun (x18 : Bool) => Q (SV.bool x18) ([])))
theorem awake_ok {α : Type} : FnOk E.P 10 (fEnt (α := α) awake_sp awake_go) :=
  fEnt_ok E (look_lpoints_ok) (exec_sound E E_ok (look_lpoints_ok) (noLps_ok _) 400) fun ds Q r h => by
    unfold awake_go at h
    obtain ⟨rfl, hE⟩ := dE_inv h
    exact ⟨[], [], fun vs => by kernel_rfl, (awake_eq Q).trans hE⟩
theorem short_eq' (p : P3) : V.pShort p = shortP p := hid_eq _
def tetra : List P3 := [(0, 0, 0), (4, 0, 0), (0, 4, 0), (0, 0, 4)]
theorem tetra_faces : (facesP tetra).1 = [(0, 0, -1), (0, -1, 0), (-1, 0, 0), (1, 1, 1)] := by
  have h : V.pShort = shortP := funext short_eq'
  have l4 : tetra.length = 4 := rfl
  unfold facesP
  rw [l4]
  simp only [iF, jF, kF, l4, Nat.reduceAdd, Nat.reduceSub, trip, addE, triA, h]
  decide +kernel
theorem tetra_chk : chkP 4 0 0 0 0 tetra = 0 := by
  have h : V.flatP tetra = false := by
    rw [Bool.eq_false_iff]
    intro h
    have := (flatP_iff tetra).1 h (0, 0, 0) (by decide) (4, 0, 0) (by decide) (0, 4, 0) (by decide) (0, 0, 4) (by decide)
    exact absurd this (by decide)
  unfold chkP
  rw [if_neg (by decide), if_neg (by decide), if_neg (by decide), if_pos rfl, if_pos (by decide), h]
  rfl
theorem square_chk : chkP 4 0 0 0 0 [(0, 0, 0), (1, 0, 0), (0, 1, 0), (1, 1, 0)] = 51 := by
  have h : V.flatP [(0, 0, 0), (1, 0, 0), (0, 1, 0), (1, 1, 0)] = true := by
    rw [flatP_iff]
    unfold Copl
    decide
  unfold chkP
  rw [if_neg (by decide), if_neg (by decide), if_neg (by decide), if_pos rfl, if_pos (by decide), h]
  rfl
theorem awake_v {α : Type} (k0 : Bool → Option α) : M.awake k0 = k0 true := by
  unfold M.awake
  have c1 : V.chk 4 0 0 0 0 tetra = 0 := (hid_eq _).trans tetra_chk
  have c2 : V.corA 4 0 0 0 0 tetra = [(0, 0, -1), (0, -1, 0), (-1, 0, 0), (1, 1, 1)] := by
    unfold V.corA
    rw [hid_eq, if_pos tetra_chk]
    unfold corAP
    rw [if_neg (by decide), if_pos rfl]
    exact tetra_faces
  have c3 : V.chk 4 0 0 0 0 [(0, 0, 0), (1, 0, 0), (0, 1, 0), (1, 1, 0)] = 51 := (hid_eq _).trans square_chk
  have m1 : masEP 1 4096 0 0 0 [] 4294967296 = 0 := by
    have : chkP 1 4096 0 0 0 [] = 0 := by unfold chkP; rw [if_pos rfl, if_pos (by decide)]
    unfold masEP
    rw [if_pos this, if_pos (by decide)]
  have c4 : V.masE 1 4096 0 0 0 [] 4294967296 = 0 := (hid_eq _).trans m1
  have c5 : (V.masI 1 4096 0 0 0 [] 4294967296).1 = 1717986918 := by
    unfold V.masI
    rw [hid_eq, if_pos m1]
    unfold massP
    rw [if_pos rfl]
    decide
  have c6 : V.pShort (6, -4, 0) = (3, -2, 0) := by rw [short_eq']; decide +kernel
  have lb : V.lenB (List.length ([(0, 0, -1), (0, -1, 0), (-1, 0, 0), (1, 1, 1)] : List P3)) = true := lenB_of (by decide)
  show (if cEq (V.chk 4 0 0 0 0 tetra) 0 = true then if V.lenB (List.length (V.corA 4 0 0 0 0 tetra)) = true then if V.ptsEq (V.corA 4 0 0 0 0 tetra) [(0, 0, -1), (0, -1, 0), (-1, 0, 0), (1, 1, 1)] = true then _ else _ else _ else _) = _
  rw [c1, c2, c3, c4, c5, c6, if_pos (by rw [cEq_eq]; decide), if_pos lb, if_pos (by decide), if_pos (by rw [cEq_eq]; decide), if_pos (by rw [cEq_eq]; decide), if_pos (by rw [cEq_eq]; decide)]
  simp [cEq_eq]
noncomputable def awake_h {α : Type} (ds : List D) (Q : SV → Hp → Option α) : Option α :=
  dE ds (Q (.bool true) ([]))
theorem awake_h_ok {α : Type} : FnOk E.P 10 (fEnt (α := α) awake_sp awake_h) :=
  fEnt_ok E (look_lpoints_ok) (exec_sound E E_ok (look_lpoints_ok) (noLps_ok _) 400) fun ds Q r h => by
    unfold awake_h at h
    obtain ⟨rfl, hE⟩ := dE_inv h
    exact ⟨[], [], fun vs => by kernel_rfl, (awake_eq Q).trans ((awake_v _).trans hE)⟩
noncomputable def look_awake {α : Type} : LookF α := addFn 10 (fEnt awake_sp awake_h) look_lpoints
theorem look_awake_ok {α : Type} : LookOk E.P (look_awake (α := α)) := addFn_ok awake_h_ok (look_lpoints_ok)
end Go.Proofs.Ytkjellhkamfciaa.Sx
