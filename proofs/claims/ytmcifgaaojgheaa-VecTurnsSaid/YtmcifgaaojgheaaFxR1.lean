/- The document's own numbers: what digits are worth; Of, size, Times. -/
import Derived.Test.YtmcifgaaojgheaaFxM
namespace Go.Proofs.Ytmcifgaaojgheaa.Sx
open Go
set_option maxRecDepth 20000
set_option linter.unusedVariables false
set_option linter.unusedSimpArgs false
def val : List Int → Int
  | [] => 0
  | d :: ds => d + 16777216 * val ds
def okD : List Int → Bool
  | [] => true
  | d :: ds => (decide (0 ≤ d) && decide (d < 16777216)) && okD ds
def _root_.Go.Proofs.Ytmcifgaaojgheaa.V.ok8 (D : List Int) : Bool := D.length == 8 && okD D
theorem okD_cons {d : Int} {ds : List Int} : okD (d :: ds) = true ↔ (0 ≤ d ∧ d < 16777216) ∧ okD ds = true := by simp [okD]
theorem okD_append {l m : List Int} : okD (l ++ m) = true ↔ okD l = true ∧ okD m = true := by
  induction l with
  | nil => simp [okD]
  | cons d l ih => rw [List.cons_append, okD_cons, okD_cons, ih]; exact ⟨fun ⟨a, b, c⟩ => ⟨⟨a, b⟩, c⟩, fun ⟨⟨a, b⟩, c⟩ => ⟨a, b, c⟩⟩
theorem pB (n : Nat) : (0 : Int) < 16777216 ^ n := Int.pow_pos (by decide)
theorem pB1 (n : Nat) : (16777216 : Int) ^ (n + 1) = 16777216 * 16777216 ^ n := by rw [Int.pow_succ, Int.mul_comm]
theorem val_bound : ∀ {D : List Int}, okD D = true → 0 ≤ val D ∧ val D < 16777216 ^ D.length
  | [], _ => by simp [val]
  | d :: ds, h => by
    rw [okD_cons] at h
    have := val_bound h.2
    rw [List.length_cons, pB1]
    unfold val
    omega
theorem val_append : ∀ (l m : List Int), val (l ++ m) = val l + 16777216 ^ l.length * val m
  | [], m => by simp [val]
  | d :: l, m => by
    rw [List.cons_append, val, val, val_append l m, List.length_cons, pB1]; grind
theorem okD_take {D : List Int} (h : okD D = true) (n : Nat) : okD (D.take n) = true := by
  rw [← List.take_append_drop n D, okD_append] at h; exact h.1
theorem okD_drop {D : List Int} (h : okD D = true) (n : Nat) : okD (D.drop n) = true := by
  rw [← List.take_append_drop n D, okD_append] at h; exact h.2
theorem okD_get : ∀ {D : List Int}, okD D = true → ∀ i, 0 ≤ D.getD i 0 ∧ D.getD i 0 < 16777216
  | [], _, i => by simp
  | d :: ds, h, 0 => by rw [okD_cons] at h; simpa using h.1
  | d :: ds, h, i + 1 => by rw [okD_cons] at h; simpa using okD_get h.2 i
/-- A sum's lowest digit and the rest. -/
theorem mod_split (a b M : Int) (hM : 0 < M) : (a + 16777216 * b) % (16777216 * M) = a % 16777216 + 16777216 * ((b + a / 16777216) % M) := by
  have e1 : a + 16777216 * b = (a % 16777216 + 16777216 * ((b + a / 16777216) % M)) + 16777216 * M * ((b + a / 16777216) / M) := by
    have h1 : 16777216 * (a / 16777216) + a % 16777216 = a := Int.mul_ediv_add_emod a 16777216
    have h2 : M * ((b + a / 16777216) / M) + (b + a / 16777216) % M = b + a / 16777216 := Int.mul_ediv_add_emod _ M
    grind
  rw [e1, Int.add_mul_emod_self_left]
  apply Int.emod_eq_of_lt
  · have := Int.emod_nonneg (b + a / 16777216) (show M ≠ 0 by omega)
    omega
  · have := Int.emod_lt_of_pos (b + a / 16777216) hM
    have h3 : 16777216 * ((b + a / 16777216) % M + 1) ≤ 16777216 * M := by omega
    omega
theorem take_set_succ {o : List Int} {i : Nat} (x : Int) (h : i < o.length) : (o.set i x).take (i + 1) = o.take i ++ [x] := by
  rw [List.take_add_one]
  simp [h, List.take_set_of_le]
theorem drop_set_succ {o : List Int} {i : Nat} (x : Int) : (o.set i x).drop (i + 1) = o.drop (i + 1) := by
  rw [List.drop_set_of_lt (by omega)]
/-! Of. -/
noncomputable def _root_.Go.Proofs.Ytmcifgaaojgheaa.M.of_l0_step {α : Type} (kn : Int → Int → List Int → Option α) (k1 : List Int → Option α) (x6 : Int) (x7 : Int) (x11 : List Int) : Option α :=
  if cLt x7 (8 : Int) = true then if (0 : Int) ≤ x7 ∧ x7 < (8 : Int) then kn (IntKind.wrap IntKind.u64 (Int.tdiv x6 (16777216 : Int))) (IntKind.wrap IntKind.i64 (x7 + (1 : Int))) (List.set x11 (Int.toNat x7) (IntKind.wrap IntKind.i64 (Int.tmod x6 (16777216 : Int)))) else none else k1 x11
noncomputable def _root_.Go.Proofs.Ytmcifgaaojgheaa.M.of_l0 {α : Type} (k1 : List Int → Option α) : Nat → Int → Int → List Int → Option α
  | 0, _, _, _ => none
  | n + 1, x6, x7, x11 => Go.Proofs.Ytmcifgaaojgheaa.M.of_l0_step (Go.Proofs.Ytmcifgaaojgheaa.M.of_l0 k1 n) k1 x6 x7 x11
theorem of_l0_step_eq {α : Type} (x6 : Int) (x7 : Int) (x8 : Bool) (x9 : List Int) (x10 : Bool) (x11 : List Int) (Q : Ex → St → Option α) : (loopStep E (exec E look_div64 noLps 400) 93 [false, true, false, true, true, true, true, true] 0 (codeAt E.P 93 [false, true, false, true, true, true, true, true])) (St.mk [none, none, some (SV.ptr (nat_lit 0) (nat_lit 0)), some (SV.ptr (nat_lit 1) (nat_lit 0)), some (SV.int IntKind.u64 x6), some (SV.int IntKind.i64 x7), none, none, none, none, none, none, none, none, none, none, none, none, none, none, none, none, none, none, none, none, none, none] [SObj.cells [SV.bool x8, SV.arr (K.int IntKind.i64) x9 (nat_lit 8)] (nat_lit 101), SObj.cells [SV.bool x10, SV.arr (K.int IntKind.i64) x11 (nat_lit 8)] (nat_lit 101)]) Q = Go.Proofs.Ytmcifgaaojgheaa.M.of_l0_step (fun (x13 : Int) (x14 : Int) (x15 : List Int) => Q .normal (St.mk [none, none, some (SV.ptr (nat_lit 0) (nat_lit 0)), some (SV.ptr (nat_lit 1) (nat_lit 0)), some (SV.int IntKind.u64 x13), some (SV.int IntKind.i64 x14), none, none, none, none, none, none, none, none, none, none, none, none, none, none, none, none, none, none, none, none, none, none] [SObj.cells [SV.bool x8, SV.arr (K.int IntKind.i64) x9 (nat_lit 8)] (nat_lit 101), SObj.cells [SV.bool x10, SV.arr (K.int IntKind.i64) x15 (nat_lit 8)] (nat_lit 101)])) (fun (x12 : List Int) => Q (.exit 0) (St.mk [none, none, some (SV.ptr (nat_lit 0) (nat_lit 0)), some (SV.ptr (nat_lit 1) (nat_lit 0)), none, none, none, none, none, none, none, none, none, none, none, none, none, none, none, none, none, none, none, none, none, none, none, none] [SObj.cells [SV.bool x8, SV.arr (K.int IntKind.i64) x9 (nat_lit 8)] (nat_lit 101), SObj.cells [SV.bool x10, SV.arr (K.int IntKind.i64) x12 (nat_lit 8)] (nat_lit 101)])) x6 x7 x11 := by kernel_rfl
theorem of_l0_iter {α : Type} (x8 : Bool) (x9 : List Int) (x10 : Bool) (Q : Ex → St → Option α) : ∀ (n : Nat) (x6 : Int) (x7 : Int) (x11 : List Int), iter (loopStep E (exec E look_div64 noLps 400) 93 [false, true, false, true, true, true, true, true] 0 (codeAt E.P 93 [false, true, false, true, true, true, true, true])) n (St.mk [none, none, some (SV.ptr (nat_lit 0) (nat_lit 0)), some (SV.ptr (nat_lit 1) (nat_lit 0)), some (SV.int IntKind.u64 x6), some (SV.int IntKind.i64 x7), none, none, none, none, none, none, none, none, none, none, none, none, none, none, none, none, none, none, none, none, none, none] [SObj.cells [SV.bool x8, SV.arr (K.int IntKind.i64) x9 (nat_lit 8)] (nat_lit 101), SObj.cells [SV.bool x10, SV.arr (K.int IntKind.i64) x11 (nat_lit 8)] (nat_lit 101)]) Q = Go.Proofs.Ytmcifgaaojgheaa.M.of_l0 (fun (x12 : List Int) => Q (.exit 0) (St.mk [none, none, some (SV.ptr (nat_lit 0) (nat_lit 0)), some (SV.ptr (nat_lit 1) (nat_lit 0)), none, none, none, none, none, none, none, none, none, none, none, none, none, none, none, none, none, none, none, none, none, none, none, none] [SObj.cells [SV.bool x8, SV.arr (K.int IntKind.i64) x9 (nat_lit 8)] (nat_lit 101), SObj.cells [SV.bool x10, SV.arr (K.int IntKind.i64) x12 (nat_lit 8)] (nat_lit 101)])) n x6 x7 x11
  | 0, _, _, _ => rfl
  | n + 1, x6, x7, x11 => (of_l0_step_eq x6 x7 x8 x9 x10 x11 (iterK (loopStep E (exec E look_div64 noLps 400) 93 [false, true, false, true, true, true, true, true] 0 (codeAt E.P 93 [false, true, false, true, true, true, true, true])) n Q)).trans (congrArg (fun kn => Go.Proofs.Ytmcifgaaojgheaa.M.of_l0_step kn (fun (x12 : List Int) => Q (.exit 0) (St.mk [none, none, some (SV.ptr (nat_lit 0) (nat_lit 0)), some (SV.ptr (nat_lit 1) (nat_lit 0)), none, none, none, none, none, none, none, none, none, none, none, none, none, none, none, none, none, none, none, none, none, none, none, none] [SObj.cells [SV.bool x8, SV.arr (K.int IntKind.i64) x9 (nat_lit 8)] (nat_lit 101), SObj.cells [SV.bool x10, SV.arr (K.int IntKind.i64) x12 (nat_lit 8)] (nat_lit 101)])) x6 x7 x11) (funext fun x6 => funext fun x7 => funext fun x11 => of_l0_iter x8 x9 x10 Q n x6 x7 x11))
noncomputable def of_l0_go {α : Type} (ds : List D) (Q : Ex → St → Option α) : Option α :=
  dI ds fun x6 ds => dI ds fun x7 ds => dB ds fun x8 ds => dL (K.int IntKind.i64) ds fun x9 ds => dB ds fun x10 ds => dL (K.int IntKind.i64) ds fun x11 ds => dE ds (Go.Proofs.Ytmcifgaaojgheaa.M.of_l0 (fun (x12 : List Int) => Q (.exit 0) (St.mk [none, none, some (SV.ptr (nat_lit 0) (nat_lit 0)), some (SV.ptr (nat_lit 1) (nat_lit 0)), none, none, none, none, none, none, none, none, none, none, none, none, none, none, none, none, none, none, none, none, none, none, none, none] [SObj.cells [SV.bool x8, SV.arr (K.int IntKind.i64) x9 (nat_lit 8)] (nat_lit 101), SObj.cells [SV.bool x10, SV.arr (K.int IntKind.i64) x12 (nat_lit 8)] (nat_lit 101)])) (100 + x9.length + x11.length) x6 x7 x11)
theorem of_l0_ok {α : Type} : LoopOk E.P 93 [false, true, false, true, true, true, true, true] 0 (lEnt (α := α) (St.mk [none, none, some (SV.ptr (nat_lit 0) (nat_lit 0)), some (SV.ptr (nat_lit 1) (nat_lit 0)), some (SV.int IntKind.u64 (0 : Int)), some (SV.int IntKind.i64 (0 : Int)), none, none, none, none, none, none, none, none, none, none, none, none, none, none, none, none, none, none, none, none, none, none] [SObj.cells [SV.bool false, SV.arr (K.int IntKind.i64) [] (nat_lit 8)] (nat_lit 101), SObj.cells [SV.bool false, SV.arr (K.int IntKind.i64) [] (nat_lit 8)] (nat_lit 101)]) of_l0_go) :=
  lEnt_ok E (exec_sound E E_ok (look_div64_ok) (noLps_ok _) 400) fun ds Q r h S hS => by
    unfold of_l0_go at h
    obtain ⟨x6, ds, rfl, h1⟩ := dI_inv h
    obtain ⟨x7, ds, rfl, h2⟩ := dI_inv h1
    obtain ⟨x8, ds, rfl, h3⟩ := dB_inv h2
    obtain ⟨x9, ds, rfl, h4⟩ := dL_inv h3
    obtain ⟨x10, ds, rfl, h5⟩ := dB_inv h4
    obtain ⟨x11, ds, rfl, h6⟩ := dL_inv h5
    obtain ⟨rfl, hE⟩ := dE_inv h6
    have e : fillS (St.mk [none, none, some (SV.ptr (nat_lit 0) (nat_lit 0)), some (SV.ptr (nat_lit 1) (nat_lit 0)), some (SV.int IntKind.u64 (0 : Int)), some (SV.int IntKind.i64 (0 : Int)), none, none, none, none, none, none, none, none, none, none, none, none, none, none, none, none, none, none, none, none, none, none] [SObj.cells [SV.bool false, SV.arr (K.int IntKind.i64) [] (nat_lit 8)] (nat_lit 101), SObj.cells [SV.bool false, SV.arr (K.int IntKind.i64) [] (nat_lit 8)] (nat_lit 101)]) [.i x6, .i x7, .b x8, .l (K.int IntKind.i64) x9, .b x10, .l (K.int IntKind.i64) x11] = some (St.mk [none, none, some (SV.ptr (nat_lit 0) (nat_lit 0)), some (SV.ptr (nat_lit 1) (nat_lit 0)), some (SV.int IntKind.u64 x6), some (SV.int IntKind.i64 x7), none, none, none, none, none, none, none, none, none, none, none, none, none, none, none, none, none, none, none, none, none, none] [SObj.cells [SV.bool x8, SV.arr (K.int IntKind.i64) x9 (nat_lit 8)] (nat_lit 101), SObj.cells [SV.bool x10, SV.arr (K.int IntKind.i64) x11 (nat_lit 8)] (nat_lit 101)]) := by kernel_rfl
    rw [e] at hS
    cases hS
    exact ⟨_, (of_l0_iter x8 x9 x10 Q _ x6 x7 x11).trans hE⟩
noncomputable def of_l0_lps {α : Type} : LookL α := addLp 93 [false, true, false, true, true, true, true, true] 0 (lEnt (St.mk [none, none, some (SV.ptr (nat_lit 0) (nat_lit 0)), some (SV.ptr (nat_lit 1) (nat_lit 0)), some (SV.int IntKind.u64 (0 : Int)), some (SV.int IntKind.i64 (0 : Int)), none, none, none, none, none, none, none, none, none, none, none, none, none, none, none, none, none, none, none, none, none, none] [SObj.cells [SV.bool false, SV.arr (K.int IntKind.i64) [] (nat_lit 8)] (nat_lit 101), SObj.cells [SV.bool false, SV.arr (K.int IntKind.i64) [] (nat_lit 8)] (nat_lit 101)]) of_l0_go) noLps
theorem of_l0_lps_ok {α : Type} : LoopsOk E.P (of_l0_lps (α := α)) := addLp_ok of_l0_ok (noLps_ok _)

noncomputable def _root_.Go.Proofs.Ytmcifgaaojgheaa.M.of {α : Type} (n : Int) (k0 : Bool → List Int → Option α) : Option α :=
  if cLt n (0 : Int) = true then M.of_l0 (fun (x16 : List Int) ↦ k0 (cLt n (0 : Int)) x16) (116 : Nat) (IntKind.wrap IntKind.u64 ((0 : Int) - IntKind.wrap IntKind.u64 n)) (0 : Int) (List.replicate (8 : Nat) (0 : Int)) else M.of_l0 (fun (x17 : List Int) ↦ k0 (cLt n (0 : Int)) x17) (116 : Nat) (IntKind.wrap IntKind.u64 n) (0 : Int) (List.replicate (8 : Nat) (0 : Int))
theorem of_eq {α : Type} (n : Int) (Q : SV → Hp → Option α) : callI E look_div64 (exec E look_div64 of_l0_lps 400) 93 ([SV.int IntKind.i64 n]) ([]) Q = Go.Proofs.Ytmcifgaaojgheaa.M.of n (fun (x18 : Bool) (x19 : List Int) => Q (SV.agg [SV.bool x18, SV.arr (K.int IntKind.i64) x19 (nat_lit 8)]) ([])) := by kernel_rfl
def of_sp : List AS := [.val (.int .i64 0)]
noncomputable def of_go {α : Type} (ds : List D) (Q : SV → Hp → Option α) : Option α :=
  dI ds fun n ds => dE ds (Go.Proofs.Ytmcifgaaojgheaa.M.of n (fun (x18 : Bool) (x19 : List Int) => Q (SV.agg [SV.bool x18, SV.arr (K.int IntKind.i64) x19 (nat_lit 8)]) ([])))
theorem of_ok {α : Type} : FnOk E.P 93 (fEnt (α := α) of_sp of_go) :=
  fEnt_ok E (look_div64_ok) (exec_sound E E_ok (look_div64_ok) (of_l0_lps_ok) 400) fun ds Q r h => by
    unfold of_go at h
    obtain ⟨n, ds, rfl, h1⟩ := dI_inv h
    obtain ⟨rfl, hE⟩ := dE_inv h1
    exact ⟨[SV.int IntKind.i64 n], [], fun vs => by kernel_rfl, (of_eq n Q).trans hE⟩
def ofD : Nat → Int → List Int
  | 0, _ => []
  | k + 1, u => u % 16777216 :: ofD k (u / 16777216)
theorem ofD_len : ∀ (k : Nat) (u : Int), (ofD k u).length = k
  | 0, _ => rfl
  | k + 1, u => by simp [ofD, ofD_len k]
theorem ofD_ok : ∀ (k : Nat) (u : Int), okD (ofD k u) = true
  | 0, _ => rfl
  | k + 1, u => by rw [ofD, okD_cons]; exact ⟨by omega, ofD_ok k _⟩
theorem ofD_val : ∀ (k : Nat) (u : Int), val (ofD k u) = u % 16777216 ^ k
  | 0, u => by simp [ofD, val]
  | k + 1, u => by
    rw [ofD, val, ofD_val k, pB1]
    have := mod_split u 0 (16777216 ^ k) (pB k)
    simp only [Int.mul_zero, Int.add_zero, Int.zero_add] at this
    rw [this]
theorem of_l0_val {α : Type} (k1 : List Int → Option α) : ∀ (fuel i : Nat) (u : Int) (o : List Int), i ≤ 8 → 8 - i < fuel → o.length = 8 → 0 ≤ u → u < 18446744073709551616 →
    M.of_l0 k1 fuel u (i : Int) o = k1 (o.take i ++ ofD (8 - i) u)
  | 0, i, u, o, h1, h2, _, _, _ => by omega
  | n + 1, i, u, o, h1, h2, ho, hu0, hu1 => by
    unfold M.of_l0 M.of_l0_step
    rw [cLt_eq]
    by_cases hi : i < 8
    · have c1 : (i : Int) < 8 := by omega
      have c2 : (0 : Int) ≤ (i : Int) := by omega
      simp only [c1, c2, decide_true, if_true, and_self]
      rw [Int.tdiv_eq_ediv_of_nonneg hu0, Int.tmod_eq_emod_of_nonneg hu0, u64_in' (by omega) (by omega), IntWalk.i64_in ((i : Int) + 1) (by omega), IntWalk.i64_in (u % 16777216) (by omega)]
      have := of_l0_val k1 n (i + 1) (u / 16777216) (o.set i (u % 16777216)) (by omega) (by omega) (by simpa using ho) (by omega) (by omega)
      push_cast at this
      rw [Int.toNat_natCast, this, take_set_succ _ (by omega)]
      rw [show 8 - i = (7 - i) + 1 by omega, ofD, List.append_assoc, List.singleton_append]
    · have : i = 8 := by omega
      subst this
      have e : ¬ ((8 : Nat) : Int) < 8 := by omega
      simp only [e, decide_false, Bool.false_eq_true, if_false, Nat.sub_self, ofD, List.append_nil]
      rw [List.take_of_length_le (by omega)]
/-- The digits of a number's size. -/
def _root_.Go.Proofs.Ytmcifgaaojgheaa.V.ofN (n : Int) : List Int := ofD 8 (if n < 0 then -n else n)
theorem of_v {α : Type} (n : Int) (h : -9223372036854775808 ≤ n ∧ n < 9223372036854775808) (k0 : Bool → List Int → Option α) : M.of n k0 = k0 (decide (n < 0)) (V.ofN n) := by
  unfold M.of V.ofN
  rw [cLt_eq]
  have len : (List.replicate 8 (0 : Int)).length = 8 := rfl
  by_cases hn : n < 0
  · have e : IntKind.wrap .u64 (0 - IntKind.wrap .u64 n) = -n := by simp only [IntKind.wrap_u64]; omega
    simp only [hn, decide_true, if_true]
    have := of_l0_val (fun x => k0 true x) 116 0 (-n) (List.replicate 8 0) (by omega) (by omega) len (by omega) (by omega)
    rw [Int.natCast_zero] at this
    rw [e, this]; rfl
  · have e : IntKind.wrap .u64 n = n := u64_in' (by omega) (by omega)
    simp only [hn, decide_false, Bool.false_eq_true, if_false]
    have := of_l0_val (fun x => k0 false x) 116 0 n (List.replicate 8 0) (by omega) (by omega) len (by omega) (by omega)
    rw [Int.natCast_zero] at this
    rw [e, this]; rfl
theorem ofN_ok (n : Int) : V.ok8 (V.ofN n) = true := by unfold V.ok8 V.ofN; rw [ofD_len, ofD_ok]; rfl
theorem ofN_val {n : Int} (h : -9223372036854775808 ≤ n ∧ n < 9223372036854775808) : val (V.ofN n) = if n < 0 then -n else n := by
  unfold V.ofN
  rw [ofD_val]
  have e : (16777216 : Int) ^ 8 = 6277101735386680763835789423207666416102355444464034512896 := by kernel_rfl
  rw [e]
  split <;> omega
noncomputable def of_h {α : Type} (ds : List D) (Q : SV → Hp → Option α) : Option α :=
  dI ds fun n ds => dE ds (if -9223372036854775808 ≤ n ∧ n < 9223372036854775808 then Q (.agg [.bool (decide (n < 0)), .arr (.int .i64) (V.ofN n) 8]) ([]) else none)
theorem of_h_ok {α : Type} : FnOk E.P 93 (fEnt (α := α) of_sp of_h) :=
  fEnt_ok E (look_div64_ok) (exec_sound E E_ok (look_div64_ok) (of_l0_lps_ok) 400) fun ds Q r h => by
    unfold of_h at h
    obtain ⟨n, ds, rfl, h1⟩ := dI_inv h
    obtain ⟨rfl, hE⟩ := dE_inv h1
    split at hE
    · rename_i hg
      exact ⟨[SV.int IntKind.i64 n], [], fun vs => by kernel_rfl, (of_eq n Q).trans ((of_v n hg _).trans hE)⟩
    · cases hE
noncomputable def look_of {α : Type} : LookF α := addFn 93 (fEnt of_sp of_h) look_div64
theorem look_of_ok {α : Type} : LookOk E.P (look_of (α := α)) := addFn_ok of_h_ok (look_div64_ok)
/-! size. -/
noncomputable def _root_.Go.Proofs.Ytmcifgaaojgheaa.M.rsize_l0_step {α : Type} (x27 : List Int) (x29 : List Int) (kn : Int → Option α) (k0 : Int → Option α) (k2 : Option α) (x25 : Int) : Option α :=
  if cLe (0 : Int) x25 = true then
  if (0 : Int) ≤ x25 ∧ x25 < (8 : Int) then if (0 : Int) ≤ x25 ∧ x25 < (8 : Int) then if cLt (List.getD x27 (Int.toNat x25) (0 : Int)) (List.getD x29 (Int.toNat x25) (0 : Int)) = true then k0 (-1 : Int) else if (0 : Int) ≤ x25 ∧ x25 < (8 : Int) then if (0 : Int) ≤ x25 ∧ x25 < (8 : Int) then if cLt (List.getD x29 (Int.toNat x25) (0 : Int)) (List.getD x27 (Int.toNat x25) (0 : Int)) = true then k0 (1 : Int) else kn (IntKind.wrap IntKind.i64 (x25 - (1 : Int))) else none else none else none else none
else k2
noncomputable def _root_.Go.Proofs.Ytmcifgaaojgheaa.M.rsize_l0 {α : Type} (x27 : List Int) (x29 : List Int) (k0 : Int → Option α) (k2 : Option α) : Nat → Int → Option α
  | 0, _ => none
  | n + 1, x25 => Go.Proofs.Ytmcifgaaojgheaa.M.rsize_l0_step x27 x29 (Go.Proofs.Ytmcifgaaojgheaa.M.rsize_l0 x27 x29 k0 k2 n) k0 k2 x25
theorem rsize_l0_step_eq {α : Type} (x25 : Int) (x26 : Bool) (x27 : List Int) (x28 : Bool) (x29 : List Int) (Q : Ex → St → Option α) : (loopStep E (exec E look_of noLps 400) 98 [false, true, false, true] 0 (codeAt E.P 98 [false, true, false, true])) (St.mk [none, none, some (SV.ptr (nat_lit 0) (nat_lit 0)), some (SV.ptr (nat_lit 1) (nat_lit 0)), none, some (SV.int IntKind.i64 x25), none, none, none, none, none, none, none, none, none, none, none, none, none, none, none, none, none, none, none, none, none, none] [SObj.cells [SV.bool x26, SV.arr (K.int IntKind.i64) x27 (nat_lit 8)] (nat_lit 101), SObj.cells [SV.bool x28, SV.arr (K.int IntKind.i64) x29 (nat_lit 8)] (nat_lit 101)]) Q = Go.Proofs.Ytmcifgaaojgheaa.M.rsize_l0_step x27 x29 (fun (x31 : Int) => Q .normal (St.mk [none, none, some (SV.ptr (nat_lit 0) (nat_lit 0)), some (SV.ptr (nat_lit 1) (nat_lit 0)), none, some (SV.int IntKind.i64 x31), none, none, none, none, none, none, none, none, none, none, none, none, none, none, none, none, none, none, none, none, none, none] [SObj.cells [SV.bool x26, SV.arr (K.int IntKind.i64) x27 (nat_lit 8)] (nat_lit 101), SObj.cells [SV.bool x28, SV.arr (K.int IntKind.i64) x29 (nat_lit 8)] (nat_lit 101)])) (fun (x30 : Int) => Q .ret (St.mk [none, none, none, none, some (SV.int IntKind.i64 x30), none, none, none, none, none, none, none, none, none, none, none, none, none, none, none, none, none, none, none, none, none, none, none] [])) (Q (.exit 0) (St.mk [none, none, none, none, none, none, none, none, none, none, none, none, none, none, none, none, none, none, none, none, none, none, none, none, none, none, none, none] [])) x25 := by kernel_rfl
theorem rsize_l0_iter {α : Type} (x26 : Bool) (x27 : List Int) (x28 : Bool) (x29 : List Int) (Q : Ex → St → Option α) : ∀ (n : Nat) (x25 : Int), iter (loopStep E (exec E look_of noLps 400) 98 [false, true, false, true] 0 (codeAt E.P 98 [false, true, false, true])) n (St.mk [none, none, some (SV.ptr (nat_lit 0) (nat_lit 0)), some (SV.ptr (nat_lit 1) (nat_lit 0)), none, some (SV.int IntKind.i64 x25), none, none, none, none, none, none, none, none, none, none, none, none, none, none, none, none, none, none, none, none, none, none] [SObj.cells [SV.bool x26, SV.arr (K.int IntKind.i64) x27 (nat_lit 8)] (nat_lit 101), SObj.cells [SV.bool x28, SV.arr (K.int IntKind.i64) x29 (nat_lit 8)] (nat_lit 101)]) Q = Go.Proofs.Ytmcifgaaojgheaa.M.rsize_l0 x27 x29 (fun (x30 : Int) => Q .ret (St.mk [none, none, none, none, some (SV.int IntKind.i64 x30), none, none, none, none, none, none, none, none, none, none, none, none, none, none, none, none, none, none, none, none, none, none, none] [])) (Q (.exit 0) (St.mk [none, none, none, none, none, none, none, none, none, none, none, none, none, none, none, none, none, none, none, none, none, none, none, none, none, none, none, none] [])) n x25
  | 0, _ => rfl
  | n + 1, x25 => (rsize_l0_step_eq x25 x26 x27 x28 x29 (iterK (loopStep E (exec E look_of noLps 400) 98 [false, true, false, true] 0 (codeAt E.P 98 [false, true, false, true])) n Q)).trans (congrArg (fun kn => Go.Proofs.Ytmcifgaaojgheaa.M.rsize_l0_step x27 x29 kn (fun (x30 : Int) => Q .ret (St.mk [none, none, none, none, some (SV.int IntKind.i64 x30), none, none, none, none, none, none, none, none, none, none, none, none, none, none, none, none, none, none, none, none, none, none, none] [])) (Q (.exit 0) (St.mk [none, none, none, none, none, none, none, none, none, none, none, none, none, none, none, none, none, none, none, none, none, none, none, none, none, none, none, none] [])) x25) (funext fun x25 => rsize_l0_iter x26 x27 x28 x29 Q n x25))
noncomputable def rsize_l0_go {α : Type} (ds : List D) (Q : Ex → St → Option α) : Option α :=
  dI ds fun x25 ds => dB ds fun x26 ds => dL (K.int IntKind.i64) ds fun x27 ds => dB ds fun x28 ds => dL (K.int IntKind.i64) ds fun x29 ds => dE ds (Go.Proofs.Ytmcifgaaojgheaa.M.rsize_l0 x27 x29 (fun (x30 : Int) => Q .ret (St.mk [none, none, none, none, some (SV.int IntKind.i64 x30), none, none, none, none, none, none, none, none, none, none, none, none, none, none, none, none, none, none, none, none, none, none, none] [])) (Q (.exit 0) (St.mk [none, none, none, none, none, none, none, none, none, none, none, none, none, none, none, none, none, none, none, none, none, none, none, none, none, none, none, none] [])) (100 + x27.length + x29.length) x25)
theorem rsize_l0_ok {α : Type} : LoopOk E.P 98 [false, true, false, true] 0 (lEnt (α := α) (St.mk [none, none, some (SV.ptr (nat_lit 0) (nat_lit 0)), some (SV.ptr (nat_lit 1) (nat_lit 0)), none, some (SV.int IntKind.i64 (0 : Int)), none, none, none, none, none, none, none, none, none, none, none, none, none, none, none, none, none, none, none, none, none, none] [SObj.cells [SV.bool false, SV.arr (K.int IntKind.i64) [] (nat_lit 8)] (nat_lit 101), SObj.cells [SV.bool false, SV.arr (K.int IntKind.i64) [] (nat_lit 8)] (nat_lit 101)]) rsize_l0_go) :=
  lEnt_ok E (exec_sound E E_ok (look_of_ok) (noLps_ok _) 400) fun ds Q r h S hS => by
    unfold rsize_l0_go at h
    obtain ⟨x25, ds, rfl, h1⟩ := dI_inv h
    obtain ⟨x26, ds, rfl, h2⟩ := dB_inv h1
    obtain ⟨x27, ds, rfl, h3⟩ := dL_inv h2
    obtain ⟨x28, ds, rfl, h4⟩ := dB_inv h3
    obtain ⟨x29, ds, rfl, h5⟩ := dL_inv h4
    obtain ⟨rfl, hE⟩ := dE_inv h5
    have e : fillS (St.mk [none, none, some (SV.ptr (nat_lit 0) (nat_lit 0)), some (SV.ptr (nat_lit 1) (nat_lit 0)), none, some (SV.int IntKind.i64 (0 : Int)), none, none, none, none, none, none, none, none, none, none, none, none, none, none, none, none, none, none, none, none, none, none] [SObj.cells [SV.bool false, SV.arr (K.int IntKind.i64) [] (nat_lit 8)] (nat_lit 101), SObj.cells [SV.bool false, SV.arr (K.int IntKind.i64) [] (nat_lit 8)] (nat_lit 101)]) [.i x25, .b x26, .l (K.int IntKind.i64) x27, .b x28, .l (K.int IntKind.i64) x29] = some (St.mk [none, none, some (SV.ptr (nat_lit 0) (nat_lit 0)), some (SV.ptr (nat_lit 1) (nat_lit 0)), none, some (SV.int IntKind.i64 x25), none, none, none, none, none, none, none, none, none, none, none, none, none, none, none, none, none, none, none, none, none, none] [SObj.cells [SV.bool x26, SV.arr (K.int IntKind.i64) x27 (nat_lit 8)] (nat_lit 101), SObj.cells [SV.bool x28, SV.arr (K.int IntKind.i64) x29 (nat_lit 8)] (nat_lit 101)]) := by kernel_rfl
    rw [e] at hS
    cases hS
    exact ⟨_, (rsize_l0_iter x26 x27 x28 x29 Q _ x25).trans hE⟩
noncomputable def rsize_l0_lps {α : Type} : LookL α := addLp 98 [false, true, false, true] 0 (lEnt (St.mk [none, none, some (SV.ptr (nat_lit 0) (nat_lit 0)), some (SV.ptr (nat_lit 1) (nat_lit 0)), none, some (SV.int IntKind.i64 (0 : Int)), none, none, none, none, none, none, none, none, none, none, none, none, none, none, none, none, none, none, none, none, none, none] [SObj.cells [SV.bool false, SV.arr (K.int IntKind.i64) [] (nat_lit 8)] (nat_lit 101), SObj.cells [SV.bool false, SV.arr (K.int IntKind.i64) [] (nat_lit 8)] (nat_lit 101)]) rsize_l0_go) noLps
theorem rsize_l0_lps_ok {α : Type} : LoopsOk E.P (rsize_l0_lps (α := α)) := addLp_ok rsize_l0_ok (noLps_ok _)

noncomputable def _root_.Go.Proofs.Ytmcifgaaojgheaa.M.rsize {α : Type} (an : Bool) (ad : List Int) (bn : Bool) (bd : List Int) (k0 : Int → Option α) : Option α :=
  M.rsize_l0 ad bd (fun (x32 : Int) ↦ k0 x32) (k0 (0 : Int)) ((100 : Nat) + List.length ad + List.length bd) (7 : Int)
theorem rsize_eq {α : Type} (an : Bool) (ad : List Int) (bn : Bool) (bd : List Int) (Q : SV → Hp → Option α) : callI E look_of (exec E look_of rsize_l0_lps 400) 98 ([SV.agg [SV.bool an, SV.arr (K.int IntKind.i64) ad (nat_lit 8)], SV.agg [SV.bool bn, SV.arr (K.int IntKind.i64) bd (nat_lit 8)]]) ([]) Q = Go.Proofs.Ytmcifgaaojgheaa.M.rsize an ad bn bd (fun (x33 : Int) => Q (SV.int IntKind.i64 x33) ([])) := by kernel_rfl
def rsize_sp : List AS := [.val (.agg [.bool false, .arr (.int .i64) [] 8]), .val (.agg [.bool false, .arr (.int .i64) [] 8])]
noncomputable def rsize_go {α : Type} (ds : List D) (Q : SV → Hp → Option α) : Option α :=
  dB ds fun an ds => dL (K.int IntKind.i64) ds fun ad ds => dB ds fun bn ds => dL (K.int IntKind.i64) ds fun bd ds => dE ds (Go.Proofs.Ytmcifgaaojgheaa.M.rsize an ad bn bd (fun (x33 : Int) => Q (SV.int IntKind.i64 x33) ([])))
theorem rsize_ok {α : Type} : FnOk E.P 98 (fEnt (α := α) rsize_sp rsize_go) :=
  fEnt_ok E (look_of_ok) (exec_sound E E_ok (look_of_ok) (rsize_l0_lps_ok) 400) fun ds Q r h => by
    unfold rsize_go at h
    obtain ⟨an, ds, rfl, h1⟩ := dB_inv h
    obtain ⟨ad, ds, rfl, h2⟩ := dL_inv h1
    obtain ⟨bn, ds, rfl, h3⟩ := dB_inv h2
    obtain ⟨bd, ds, rfl, h4⟩ := dL_inv h3
    obtain ⟨rfl, hE⟩ := dE_inv h4
    exact ⟨[SV.agg [SV.bool an, SV.arr (K.int IntKind.i64) ad (nat_lit 8)], SV.agg [SV.bool bn, SV.arr (K.int IntKind.i64) bd (nat_lit 8)]], [], fun vs => by kernel_rfl, (rsize_eq an ad bn bd Q).trans hE⟩
theorem val_take_succ {D : List Int} {m : Nat} (h : m < D.length) : val (D.take (m + 1)) = val (D.take m) + 16777216 ^ m * D.getD m 0 := by
  rw [List.take_add_one, val_append]
  simp [h, val, List.length_take, Nat.min_eq_left (Nat.le_of_lt h), List.getD_eq_getElem?_getD]
theorem rsize_l0_val {α : Type} (a b : List Int) (ha : okD a = true) (hb : okD b = true) (la : a.length = 8) (lb : b.length = 8) (k0 : Int → Option α) (k2 : Option α) : ∀ (fuel m : Nat), m ≤ 8 → m < fuel →
    M.rsize_l0 a b k0 k2 fuel ((m : Int) - 1) = if val (a.take m) < val (b.take m) then k0 (-1) else if val (b.take m) < val (a.take m) then k0 1 else k2
  | 0, m, h1, h2 => by omega
  | n + 1, 0, h1, h2 => by
    unfold M.rsize_l0 M.rsize_l0_step
    have e : ¬ (0 : Int) ≤ ((0 : Nat) : Int) - 1 := by omega
    rw [cLe_eq]
    simp only [e, decide_false, Bool.false_eq_true, if_false, List.take_zero, Int.lt_irrefl]
  | n + 1, m + 1, h1, h2 => by
    unfold M.rsize_l0 M.rsize_l0_step
    have e0 : (((m + 1 : Nat) : Int) - 1) = (m : Int) := by omega
    rw [e0]
    have c1 : (0 : Int) ≤ (m : Int) := by omega
    have c2 : (m : Int) < 8 := by omega
    simp only [cLe_eq, cLt_eq, c1, c2, decide_true, if_true, and_self, Int.toNat_natCast]
    rw [IntWalk.i64_in _ (by omega), rsize_l0_val a b ha hb la lb k0 k2 n m (by omega) (by omega)]
    rw [val_take_succ (by omega : m < a.length), val_take_succ (by omega : m < b.length)]
    have ba := val_bound (okD_take ha m)
    have bb := val_bound (okD_take hb m)
    rw [List.length_take, Nat.min_eq_left (by omega)] at ba bb
    have P := pB m
    have cmp : ∀ x y u v : Int, x < y → 0 ≤ v → u < 16777216 ^ m → u + 16777216 ^ m * x < v + 16777216 ^ m * y := by
      intro x y u v hxy hv hu
      have : 16777216 ^ m * (x + 1) ≤ 16777216 ^ m * y := Int.mul_le_mul_of_nonneg_left (by omega) (by omega)
      rw [Int.mul_add, Int.mul_one] at this
      omega
    generalize a.getD m 0 = p at *
    generalize b.getD m 0 = q at *
    rcases Int.lt_trichotomy p q with h | h | h
    · have := cmp _ _ (val (a.take m)) (val (b.take m)) h bb.1 ba.2
      simp [h, this]
    · rw [h]
      simp only [Int.lt_irrefl, decide_false, Bool.false_eq_true, if_false, Int.add_lt_add_iff_right]
    · have := cmp _ _ (val (b.take m)) (val (a.take m)) h ba.1 bb.2
      have n1 : ¬ p < q := by omega
      have n2 : ¬ val (a.take m) + 16777216 ^ m * p < val (b.take m) + 16777216 ^ m * q := by omega
      simp [h, this, n1, n2]
def _root_.Go.Proofs.Ytmcifgaaojgheaa.V.cmp (x y : Int) : Int := if x < y then -1 else if y < x then 1 else 0
noncomputable def _root_.Go.Proofs.Ytmcifgaaojgheaa.V.szD (a b : List Int) : Int := V.cmp (val a) (val b)
theorem ok8_iff {D : List Int} : V.ok8 D = true ↔ D.length = 8 ∧ okD D = true := by simp [V.ok8]
theorem rsize_v {α : Type} (an : Bool) (a : List Int) (bn : Bool) (b : List Int) (ha : V.ok8 a = true) (hb : V.ok8 b = true) (k0 : Int → Option α) : M.rsize an a bn b k0 = k0 (V.szD a b) := by
  rw [ok8_iff] at ha hb
  unfold M.rsize V.szD V.cmp
  have := rsize_l0_val a b ha.2 hb.2 ha.1 hb.1 (fun x => k0 x) (k0 0) (100 + a.length + b.length) 8 (by omega) (by omega)
  rw [List.take_of_length_le (by omega), List.take_of_length_le (by omega)] at this
  rw [show (7 : Int) = ((8 : Nat) : Int) - 1 by rfl, this]
  split
  · rfl
  · split <;> rfl
noncomputable def rsize_h {α : Type} (ds : List D) (Q : SV → Hp → Option α) : Option α :=
  dB ds fun an ds => dL (K.int IntKind.i64) ds fun ad ds => dB ds fun bn ds => dL (K.int IntKind.i64) ds fun bd ds => dE ds (if V.ok8 ad = true ∧ V.ok8 bd = true then Q (.int .i64 (V.szD ad bd)) ([]) else none)
theorem rsize_h_ok {α : Type} : FnOk E.P 98 (fEnt (α := α) rsize_sp rsize_h) :=
  fEnt_ok E (look_of_ok) (exec_sound E E_ok (look_of_ok) (rsize_l0_lps_ok) 400) fun ds Q r h => by
    unfold rsize_h at h
    obtain ⟨an, ds, rfl, h1⟩ := dB_inv h
    obtain ⟨ad, ds, rfl, h2⟩ := dL_inv h1
    obtain ⟨bn, ds, rfl, h3⟩ := dB_inv h2
    obtain ⟨bd, ds, rfl, h4⟩ := dL_inv h3
    obtain ⟨rfl, hE⟩ := dE_inv h4
    split at hE
    · rename_i hg
      exact ⟨[SV.agg [SV.bool an, SV.arr (K.int IntKind.i64) ad (nat_lit 8)], SV.agg [SV.bool bn, SV.arr (K.int IntKind.i64) bd (nat_lit 8)]], [], fun vs => by kernel_rfl, (rsize_eq an ad bn bd Q).trans ((rsize_v an ad bn bd hg.1 hg.2 _).trans hE)⟩
    · cases hE
noncomputable def look_rsize {α : Type} : LookF α := addFn 98 (fEnt rsize_sp rsize_h) look_of
theorem look_rsize_ok {α : Type} : LookOk E.P (look_rsize (α := α)) := addFn_ok rsize_h_ok (look_of_ok)
end Go.Proofs.Ytmcifgaaojgheaa.Sx
