/- The document's own numbers: what digits are worth; Of, size, Times. -/
import Derived.Test.YtkjellhkamfciaaFxM
namespace Go.Proofs.Ytkjellhkamfciaa.Sx
open Go
set_option maxRecDepth 20000
set_option linter.unusedVariables false
set_option linter.unusedSimpArgs false
def val : List Int → Int
  | [] => 0
  | d :: ds => d + 16777216 * val ds
def okD : List Int → Bool
  | [] => true
  | d :: ds => (decide (0 ≤ d) && decide (d < 16777216)) && okD ds
def _root_.Go.Proofs.Ytkjellhkamfciaa.V.ok8 (D : List Int) : Bool := D.length == 8 && okD D
theorem okD_cons {d : Int} {ds : List Int} : okD (d :: ds) = true ↔ (0 ≤ d ∧ d < 16777216) ∧ okD ds = true := by simp [okD]
theorem okD_append {l m : List Int} : okD (l ++ m) = true ↔ okD l = true ∧ okD m = true := by
  induction l with
  | nil => simp [okD]
  | cons d l ih => rw [List.cons_append, okD_cons, okD_cons, ih]; exact ⟨fun ⟨a, b, c⟩ => ⟨⟨a, b⟩, c⟩, fun ⟨⟨a, b⟩, c⟩ => ⟨a, b, c⟩⟩
theorem pB (n : Nat) : (0 : Int) < 16777216 ^ n := Int.pow_pos (by decide)
theorem pB1 (n : Nat) : (16777216 : Int) ^ (n + 1) = 16777216 * 16777216 ^ n := by rw [Int.pow_succ, Int.mul_comm]
theorem val_bound : ∀ {D : List Int}, okD D = true → 0 ≤ val D ∧ val D < 16777216 ^ D.length
  | [], _ => by simp [val]
  | d :: ds, h => by
    rw [okD_cons] at h
    have := val_bound h.2
    rw [List.length_cons, pB1]
    unfold val
    omega
theorem val_append : ∀ (l m : List Int), val (l ++ m) = val l + 16777216 ^ l.length * val m
  | [], m => by simp [val]
  | d :: l, m => by
    rw [List.cons_append, val, val, val_append l m, List.length_cons, pB1]; grind
theorem okD_take {D : List Int} (h : okD D = true) (n : Nat) : okD (D.take n) = true := by
  rw [← List.take_append_drop n D, okD_append] at h; exact h.1
theorem okD_drop {D : List Int} (h : okD D = true) (n : Nat) : okD (D.drop n) = true := by
  rw [← List.take_append_drop n D, okD_append] at h; exact h.2
theorem okD_get : ∀ {D : List Int}, okD D = true → ∀ i, 0 ≤ D.getD i 0 ∧ D.getD i 0 < 16777216
  | [], _, i => by simp
  | d :: ds, h, 0 => by rw [okD_cons] at h; simpa using h.1
  | d :: ds, h, i + 1 => by rw [okD_cons] at h; simpa using okD_get h.2 i
/-- A sum's lowest digit and the rest. -/
theorem mod_split (a b M : Int) (hM : 0 < M) : (a + 16777216 * b) % (16777216 * M) = a % 16777216 + 16777216 * ((b + a / 16777216) % M) := by
  have e1 : a + 16777216 * b = (a % 16777216 + 16777216 * ((b + a / 16777216) % M)) + 16777216 * M * ((b + a / 16777216) / M) := by
    have h1 : 16777216 * (a / 16777216) + a % 16777216 = a := Int.mul_ediv_add_emod a 16777216
    have h2 : M * ((b + a / 16777216) / M) + (b + a / 16777216) % M = b + a / 16777216 := Int.mul_ediv_add_emod _ M
    grind
  rw [e1, Int.add_mul_emod_self_left]
  apply Int.emod_eq_of_lt
  · have := Int.emod_nonneg (b + a / 16777216) (show M ≠ 0 by omega)
    omega
  · have := Int.emod_lt_of_pos (b + a / 16777216) hM
    have h3 : 16777216 * ((b + a / 16777216) % M + 1) ≤ 16777216 * M := by omega
    omega
theorem take_set_succ {o : List Int} {i : Nat} (x : Int) (h : i < o.length) : (o.set i x).take (i + 1) = o.take i ++ [x] := by
  rw [List.take_add_one]
  simp [h, List.take_set_of_le]
theorem drop_set_succ {o : List Int} {i : Nat} (x : Int) : (o.set i x).drop (i + 1) = o.drop (i + 1) := by
  rw [List.drop_set_of_lt (by omega)]
/-! Of. -/
noncomputable def _root_.Go.Proofs.Ytkjellhkamfciaa.M.of_l0_step {α : Type} (kn : Int → Int → List Int → Option α) (k1 : List Int → Option α) (x6 : Int) (x7 : Int) (x11 : List Int) : Option α :=
  if cLt x7 (8 : Int) = true then if (0 : Int) ≤ x7 ∧ x7 < (8 : Int) then kn (IntKind.wrap IntKind.u64 (Int.tdiv x6 (16777216 : Int))) (IntKind.wrap .i64 (x7 + (1 : Int))) (List.set x11 (Int.toNat x7) (IntKind.wrap .i64 (Int.tmod x6 (16777216 : Int)))) else none else k1 x11
noncomputable def _root_.Go.Proofs.Ytkjellhkamfciaa.M.of_l0 {α : Type} (k1 : List Int → Option α) : Nat → Int → Int → List Int → Option α
  | 0, _, _, _ => none
  | n + 1, x6, x7, x11 => M.of_l0_step (M.of_l0 k1 n) k1 x6 x7 x11
theorem of_l0_step_eq {α : Type} (x6 : Int) (x7 : Int) (x8 : Bool) (x9 : List Int) (x10 : Bool) (x11 : List Int) (Q : Ex → St → Option α) : (loopStep E (exec E look_div64 noLps 400) 75 [false, true, false, true, true, true, true, true] 0 (codeAt E.P 75 [false, true, false, true, true, true, true, true])) (St.mk (none :: none :: some (SV.ptr (nat_lit 0) (nat_lit 0)) :: some (SV.ptr (nat_lit 1) (nat_lit 0)) :: some (SV.int IntKind.u64 x6) :: some (SV.int .i64 x7) :: nn 22 ([])) [.cells [SV.bool x8, SV.arr (K.int IntKind.i64) x9 (nat_lit 8)] (nat_lit 96), .cells [SV.bool x10, SV.arr (K.int IntKind.i64) x11 (nat_lit 8)] (nat_lit 96)]) Q = M.of_l0_step (fun (x13 : Int) (x14 : Int) (x15 : List Int) => Q .normal (St.mk (none :: none :: some (SV.ptr (nat_lit 0) (nat_lit 0)) :: some (SV.ptr (nat_lit 1) (nat_lit 0)) :: some (SV.int IntKind.u64 x13) :: some (SV.int .i64 x14) :: nn 22 ([])) [.cells [SV.bool x8, SV.arr (K.int IntKind.i64) x9 (nat_lit 8)] (nat_lit 96), .cells [SV.bool x10, SV.arr (K.int IntKind.i64) x15 (nat_lit 8)] (nat_lit 96)])) (fun (x12 : List Int) => Q (.exit 0) (St.mk (none :: none :: some (SV.ptr (nat_lit 0) (nat_lit 0)) :: some (SV.ptr (nat_lit 1) (nat_lit 0)) :: nn 24 ([])) [.cells [SV.bool x8, SV.arr (K.int IntKind.i64) x9 (nat_lit 8)] (nat_lit 96), .cells [SV.bool x10, SV.arr (K.int IntKind.i64) x12 (nat_lit 8)] (nat_lit 96)])) x6 x7 x11 := by kernel_rfl
theorem of_l0_iter {α : Type} (x8 : Bool) (x9 : List Int) (x10 : Bool) (Q : Ex → St → Option α) : ∀ (n : Nat) (x6 : Int) (x7 : Int) (x11 : List Int), iter (loopStep E (exec E look_div64 noLps 400) 75 [false, true, false, true, true, true, true, true] 0 (codeAt E.P 75 [false, true, false, true, true, true, true, true])) n (St.mk (none :: none :: some (SV.ptr (nat_lit 0) (nat_lit 0)) :: some (SV.ptr (nat_lit 1) (nat_lit 0)) :: some (SV.int IntKind.u64 x6) :: some (SV.int .i64 x7) :: nn 22 ([])) [.cells [SV.bool x8, SV.arr (K.int IntKind.i64) x9 (nat_lit 8)] (nat_lit 96), .cells [SV.bool x10, SV.arr (K.int IntKind.i64) x11 (nat_lit 8)] (nat_lit 96)]) Q = M.of_l0 (fun (x12 : List Int) => Q (.exit 0) (St.mk (none :: none :: some (SV.ptr (nat_lit 0) (nat_lit 0)) :: some (SV.ptr (nat_lit 1) (nat_lit 0)) :: nn 24 ([])) [.cells [SV.bool x8, SV.arr (K.int IntKind.i64) x9 (nat_lit 8)] (nat_lit 96), .cells [SV.bool x10, SV.arr (K.int IntKind.i64) x12 (nat_lit 8)] (nat_lit 96)])) n x6 x7 x11
  | 0, _, _, _ => rfl
  | n + 1, x6, x7, x11 => (of_l0_step_eq x6 x7 x8 x9 x10 x11 (iterK (loopStep E (exec E look_div64 noLps 400) 75 [false, true, false, true, true, true, true, true] 0 (codeAt E.P 75 [false, true, false, true, true, true, true, true])) n Q)).trans (congrArg (fun kn => M.of_l0_step kn (fun (x12 : List Int) => Q (.exit 0) (St.mk (none :: none :: some (SV.ptr (nat_lit 0) (nat_lit 0)) :: some (SV.ptr (nat_lit 1) (nat_lit 0)) :: nn 24 ([])) [.cells [SV.bool x8, SV.arr (K.int IntKind.i64) x9 (nat_lit 8)] (nat_lit 96), .cells [SV.bool x10, SV.arr (K.int IntKind.i64) x12 (nat_lit 8)] (nat_lit 96)])) x6 x7 x11) (funext fun x6 => funext fun x7 => funext fun x11 => of_l0_iter x8 x9 x10 Q n x6 x7 x11))
noncomputable def of_l0_go {α : Type} (ds : List D) (Q : Ex → St → Option α) : Option α :=
  dI ds fun x6 ds => dI ds fun x7 ds => dB ds fun x8 ds => dL (K.int IntKind.i64) ds fun x9 ds => dB ds fun x10 ds => dL (K.int IntKind.i64) ds fun x11 ds => dE ds (M.of_l0 (fun (x12 : List Int) => Q (.exit 0) (St.mk (none :: none :: some (SV.ptr (nat_lit 0) (nat_lit 0)) :: some (SV.ptr (nat_lit 1) (nat_lit 0)) :: nn 24 ([])) [.cells [SV.bool x8, SV.arr (K.int IntKind.i64) x9 (nat_lit 8)] (nat_lit 96), .cells [SV.bool x10, SV.arr (K.int IntKind.i64) x12 (nat_lit 8)] (nat_lit 96)])) (100 + x9.length + x11.length) x6 x7 x11)
theorem of_l0_ok {α : Type} : LoopOk E.P 75 [false, true, false, true, true, true, true, true] 0 (lEnt (α := α) (St.mk (none :: none :: some (SV.ptr (nat_lit 0) (nat_lit 0)) :: some (SV.ptr (nat_lit 1) (nat_lit 0)) :: some (SV.int IntKind.u64 (0 : Int)) :: some (SV.int .i64 (0 : Int)) :: nn 22 ([])) [.cells [SV.bool false, SV.arr (K.int IntKind.i64) [] (nat_lit 8)] (nat_lit 96), .cells [SV.bool false, SV.arr (K.int IntKind.i64) [] (nat_lit 8)] (nat_lit 96)]) of_l0_go) :=
  lEnt_ok E (exec_sound E E_ok (look_div64_ok) (noLps_ok _) 400) fun ds Q r h S hS => by
    unfold of_l0_go at h
    obtain ⟨x6, ds, rfl, h1⟩ := dI_inv h
    obtain ⟨x7, ds, rfl, h2⟩ := dI_inv h1
    obtain ⟨x8, ds, rfl, h3⟩ := dB_inv h2
    obtain ⟨x9, ds, rfl, h4⟩ := dL_inv h3
    obtain ⟨x10, ds, rfl, h5⟩ := dB_inv h4
    obtain ⟨x11, ds, rfl, h6⟩ := dL_inv h5
    obtain ⟨rfl, hE⟩ := dE_inv h6
    have e : fillS (St.mk (none :: none :: some (SV.ptr (nat_lit 0) (nat_lit 0)) :: some (SV.ptr (nat_lit 1) (nat_lit 0)) :: some (SV.int IntKind.u64 (0 : Int)) :: some (SV.int .i64 (0 : Int)) :: nn 22 ([])) [.cells [SV.bool false, SV.arr (K.int IntKind.i64) [] (nat_lit 8)] (nat_lit 96), .cells [SV.bool false, SV.arr (K.int IntKind.i64) [] (nat_lit 8)] (nat_lit 96)]) [.i x6, .i x7, .b x8, .l (K.int IntKind.i64) x9, .b x10, .l (K.int IntKind.i64) x11] = some (St.mk (none :: none :: some (SV.ptr (nat_lit 0) (nat_lit 0)) :: some (SV.ptr (nat_lit 1) (nat_lit 0)) :: some (SV.int IntKind.u64 x6) :: some (SV.int .i64 x7) :: nn 22 ([])) [.cells [SV.bool x8, SV.arr (K.int IntKind.i64) x9 (nat_lit 8)] (nat_lit 96), .cells [SV.bool x10, SV.arr (K.int IntKind.i64) x11 (nat_lit 8)] (nat_lit 96)]) := by kernel_rfl
    rw [e] at hS
    cases hS
    exact ⟨_, (of_l0_iter x8 x9 x10 Q _ x6 x7 x11).trans hE⟩
noncomputable def of_l0_lps {α : Type} : LookL α := addLp 75 [false, true, false, true, true, true, true, true] 0 (lEnt (St.mk (none :: none :: some (SV.ptr (nat_lit 0) (nat_lit 0)) :: some (SV.ptr (nat_lit 1) (nat_lit 0)) :: some (SV.int IntKind.u64 (0 : Int)) :: some (SV.int .i64 (0 : Int)) :: nn 22 ([])) [.cells [SV.bool false, SV.arr (K.int IntKind.i64) [] (nat_lit 8)] (nat_lit 96), .cells [SV.bool false, SV.arr (K.int IntKind.i64) [] (nat_lit 8)] (nat_lit 96)]) of_l0_go) noLps
theorem of_l0_lps_ok {α : Type} : LoopsOk E.P (of_l0_lps (α := α)) := addLp_ok of_l0_ok (noLps_ok _)

noncomputable def _root_.Go.Proofs.Ytkjellhkamfciaa.M.of {α : Type} (n : Int) (k0 : Bool → List Int → Option α) : Option α :=
  if cLt n (0 : Int) = true then M.of_l0 (fun (x16 : List Int) ↦ k0 (cLt n (0 : Int)) x16) (116 : Nat) (IntKind.wrap IntKind.u64 ((0 : Int) - IntKind.wrap IntKind.u64 n)) (0 : Int) (List.replicate (8 : Nat) (0 : Int)) else M.of_l0 (fun (x17 : List Int) ↦ k0 (cLt n (0 : Int)) x17) (116 : Nat) (IntKind.wrap IntKind.u64 n) (0 : Int) (List.replicate (8 : Nat) (0 : Int))
theorem of_eq {α : Type} (n : Int) (Q : SV → Hp → Option α) : callI E look_div64 (exec E look_div64 of_l0_lps 400) 75 ([SV.int .i64 n]) ([]) Q = M.of n (fun (x18 : Bool) (x19 : List Int) => Q (SV.agg [SV.bool x18, SV.arr (K.int IntKind.i64) x19 (nat_lit 8)]) ([])) := by kernel_rfl
def of_sp : List AS := [.val (.int .i64 0)]
noncomputable def of_go {α : Type} (ds : List D) (Q : SV → Hp → Option α) : Option α :=
  dI ds fun n ds => dE ds (M.of n (fun (x18 : Bool) (x19 : List Int) => Q (SV.agg [SV.bool x18, SV.arr (K.int IntKind.i64) x19 (nat_lit 8)]) ([])))
theorem of_ok {α : Type} : FnOk E.P 75 (fEnt (α := α) of_sp of_go) :=
  fEnt_ok E (look_div64_ok) (exec_sound E E_ok (look_div64_ok) (of_l0_lps_ok) 400) fun ds Q r h => by
    unfold of_go at h
    obtain ⟨n, ds, rfl, h1⟩ := dI_inv h
    obtain ⟨rfl, hE⟩ := dE_inv h1
    exact ⟨[SV.int .i64 n], [], fun vs => by kernel_rfl, (of_eq n Q).trans hE⟩
def ofD : Nat → Int → List Int
  | 0, _ => []
  | k + 1, u => u % 16777216 :: ofD k (u / 16777216)
theorem ofD_len : ∀ (k : Nat) (u : Int), (ofD k u).length = k
  | 0, _ => rfl
  | k + 1, u => by simp [ofD, ofD_len k]
theorem ofD_ok : ∀ (k : Nat) (u : Int), okD (ofD k u) = true
  | 0, _ => rfl
  | k + 1, u => by rw [ofD, okD_cons]; exact ⟨by omega, ofD_ok k _⟩
theorem ofD_val : ∀ (k : Nat) (u : Int), val (ofD k u) = u % 16777216 ^ k
  | 0, u => by simp [ofD, val]
  | k + 1, u => by
    rw [ofD, val, ofD_val k, pB1]
    have := mod_split u 0 (16777216 ^ k) (pB k)
    simp only [Int.mul_zero, Int.add_zero, Int.zero_add] at this
    rw [this]
theorem of_l0_val {α : Type} (k1 : List Int → Option α) : ∀ (fuel i : Nat) (u : Int) (o : List Int), i ≤ 8 → 8 - i < fuel → o.length = 8 → 0 ≤ u → u < 18446744073709551616 →
    M.of_l0 k1 fuel u (i : Int) o = k1 (o.take i ++ ofD (8 - i) u)
  | 0, i, u, o, h1, h2, _, _, _ => by omega
  | n + 1, i, u, o, h1, h2, ho, hu0, hu1 => by
    unfold M.of_l0 M.of_l0_step
    rw [cLt_eq]
    by_cases hi : i < 8
    · have c1 : (i : Int) < 8 := by omega
      have c2 : (0 : Int) ≤ (i : Int) := by omega
      simp only [c1, c2, decide_true, if_true, and_self]
      rw [Int.tdiv_eq_ediv_of_nonneg hu0, Int.tmod_eq_emod_of_nonneg hu0, u64_in' (by omega) (by omega), IntWalk.i64_in ((i : Int) + 1) (by omega), IntWalk.i64_in (u % 16777216) (by omega)]
      have := of_l0_val k1 n (i + 1) (u / 16777216) (o.set i (u % 16777216)) (by omega) (by omega) (by simpa using ho) (by omega) (by omega)
      push_cast at this
      rw [Int.toNat_natCast, this, take_set_succ _ (by omega)]
      rw [show 8 - i = (7 - i) + 1 by omega, ofD, List.append_assoc, List.singleton_append]
    · have : i = 8 := by omega
      subst this
      have e : ¬ ((8 : Nat) : Int) < 8 := by omega
      simp only [e, decide_false, Bool.false_eq_true, if_false, Nat.sub_self, ofD, List.append_nil]
      rw [List.take_of_length_le (by omega)]
/-- The digits of a number's size. -/
def _root_.Go.Proofs.Ytkjellhkamfciaa.V.ofN (n : Int) : List Int := ofD 8 (if n < 0 then -n else n)
theorem of_v {α : Type} (n : Int) (h : -9223372036854775808 ≤ n ∧ n < 9223372036854775808) (k0 : Bool → List Int → Option α) : M.of n k0 = k0 (decide (n < 0)) (V.ofN n) := by
  unfold M.of V.ofN
  rw [cLt_eq]
  have len : (List.replicate 8 (0 : Int)).length = 8 := rfl
  by_cases hn : n < 0
  · have e : IntKind.wrap .u64 (0 - IntKind.wrap .u64 n) = -n := by simp only [IntKind.wrap_u64]; omega
    simp only [hn, decide_true, if_true]
    have := of_l0_val (fun x => k0 true x) 116 0 (-n) (List.replicate 8 0) (by omega) (by omega) len (by omega) (by omega)
    rw [Int.natCast_zero] at this
    rw [e, this]; rfl
  · have e : IntKind.wrap .u64 n = n := u64_in' (by omega) (by omega)
    simp only [hn, decide_false, Bool.false_eq_true, if_false]
    have := of_l0_val (fun x => k0 false x) 116 0 n (List.replicate 8 0) (by omega) (by omega) len (by omega) (by omega)
    rw [Int.natCast_zero] at this
    rw [e, this]; rfl
theorem ofN_ok (n : Int) : V.ok8 (V.ofN n) = true := by unfold V.ok8 V.ofN; rw [ofD_len, ofD_ok]; rfl
theorem ofN_val {n : Int} (h : -9223372036854775808 ≤ n ∧ n < 9223372036854775808) : val (V.ofN n) = if n < 0 then -n else n := by
  unfold V.ofN
  rw [ofD_val]
  have e : (16777216 : Int) ^ 8 = 6277101735386680763835789423207666416102355444464034512896 := by kernel_rfl
  rw [e]
  split <;> omega
noncomputable def of_h {α : Type} (ds : List D) (Q : SV → Hp → Option α) : Option α :=
  dI ds fun n ds => dE ds (if -9223372036854775808 ≤ n ∧ n < 9223372036854775808 then Q (.agg [.bool (decide (n < 0)), .arr (.int .i64) (V.ofN n) 8]) ([]) else none)
theorem of_h_ok {α : Type} : FnOk E.P 75 (fEnt (α := α) of_sp of_h) :=
  fEnt_ok E (look_div64_ok) (exec_sound E E_ok (look_div64_ok) (of_l0_lps_ok) 400) fun ds Q r h => by
    unfold of_h at h
    obtain ⟨n, ds, rfl, h1⟩ := dI_inv h
    obtain ⟨rfl, hE⟩ := dE_inv h1
    split at hE
    · rename_i hg
      exact ⟨[SV.int .i64 n], [], fun vs => by kernel_rfl, (of_eq n Q).trans ((of_v n hg _).trans hE)⟩
    · cases hE
noncomputable def look_of {α : Type} : LookF α := addFn 75 (fEnt of_sp of_h) look_div64
theorem look_of_ok {α : Type} : LookOk E.P (look_of (α := α)) := addFn_ok of_h_ok (look_div64_ok)
/-! size. -/
theorem val_take_succ {D : List Int} {m : Nat} (h : m < D.length) : val (D.take (m + 1)) = val (D.take m) + 16777216 ^ m * D.getD m 0 := by
  rw [List.take_add_one, val_append]
  simp [h, val, List.length_take, Nat.min_eq_left (Nat.le_of_lt h), List.getD_eq_getElem?_getD]
def _root_.Go.Proofs.Ytkjellhkamfciaa.V.cmp (x y : Int) : Int := if x < y then -1 else if y < x then 1 else 0
noncomputable def _root_.Go.Proofs.Ytkjellhkamfciaa.V.szD (a b : List Int) : Int := V.cmp (val a) (val b)
theorem ok8_iff {D : List Int} : V.ok8 D = true ↔ D.length = 8 ∧ okD D = true := by simp [V.ok8]
end Go.Proofs.Ytkjellhkamfciaa.Sx
