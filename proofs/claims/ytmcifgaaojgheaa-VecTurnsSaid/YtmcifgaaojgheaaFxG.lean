/- fx: sums of products, norms. -/
import Derived.Test.YtmcifgaaojgheaaFxF
namespace Go.Proofs.Ytmcifgaaojgheaa.Sx
open Go
set_option maxRecDepth 20000
set_option linter.unusedVariables false
set_option linter.unusedSimpArgs false
noncomputable def _root_.Go.Proofs.Ytmcifgaaojgheaa.M.dot {α : Type} (bad : Bool) (a : List Int) (b : List Int) (k0 : Int → Bool → Option α) : Option α :=
  if (!cEq (↑(List.length a) : Int) (↑(List.length b) : Int)) = true then k0 (0 : Int) true
else
  if cLt (8 : Int) (↑(List.length a) : Int) = true then k0 (0 : Int) true
  else
    if List.length a < (9223372036854775808 : Nat) then
      if V.anyG a = true then k0 (0 : Int) true
      else
        if List.length b < (9223372036854775808 : Nat) then
          if V.anyG b = true then k0 (0 : Int) true
          else
            if (List.length a < (9223372036854775808 : Nat) ∧ List.length a = List.length b) ∧ V.anyG a = false ∧ V.anyG b = false then
              k0 (V.shift_r0 bad (hiW (V.dotZ a b)) (loW (V.dotZ a b))) (V.shift_r1 bad (hiW (V.dotZ a b)) (loW (V.dotZ a b)))
            else none
        else none
    else none
theorem dot_eq {α : Type} (bad : Bool) (a : List Int) (b : List Int) (v0 : Value) (v1 : Value) (Q : SV → Hp → Option α) : callI E look_div (exec E look_div noLps 400) 49 ([SV.ptr (nat_lit 0) (nat_lit 0), SV.ros v0 (K.int IntKind.i64) a, SV.ros v1 (K.int IntKind.i64) b]) ([SObj.cells [SV.bool bad] (nat_lit 27)]) Q = Go.Proofs.Ytmcifgaaojgheaa.M.dot bad a b (fun (x2 : Int) (x3 : Bool) => Q (SV.int IntKind.i64 x2) ([SObj.cells [SV.bool x3] (nat_lit 27)])) := by kernel_rfl
def dot_sp : List AS := [.ptr 27 [.bool false], .ro (.int .i64), .ro (.int .i64)]
noncomputable def _root_.Go.Proofs.Ytmcifgaaojgheaa.V.dot_g (bad : Bool) (a : List Int) (b : List Int) : Bool :=
  if (!cEq (↑(List.length a) : Int) (↑(List.length b) : Int)) = true then true
else
  if cLt (8 : Int) (↑(List.length a) : Int) = true then true
  else
    if List.length a < (9223372036854775808 : Nat) then
      if V.anyG a = true then true
      else
        if List.length b < (9223372036854775808 : Nat) then
          if V.anyG b = true then true
          else if (List.length a < (9223372036854775808 : Nat) ∧ List.length a = List.length b) ∧ V.anyG a = false ∧ V.anyG b = false then true else false
        else false
    else false
noncomputable def _root_.Go.Proofs.Ytmcifgaaojgheaa.V.dot_r0 (bad : Bool) (a : List Int) (b : List Int) : Int :=
  if (!cEq (↑(List.length a) : Int) (↑(List.length b) : Int)) = true then (0 : Int)
else
  if cLt (8 : Int) (↑(List.length a) : Int) = true then (0 : Int)
  else
    if List.length a < (9223372036854775808 : Nat) then
      if V.anyG a = true then (0 : Int)
      else
        if List.length b < (9223372036854775808 : Nat) then
          if V.anyG b = true then (0 : Int)
          else
            if (List.length a < (9223372036854775808 : Nat) ∧ List.length a = List.length b) ∧ V.anyG a = false ∧ V.anyG b = false then
              V.shift_r0 bad (hiW (V.dotZ a b)) (loW (V.dotZ a b))
            else (0 : Int)
        else (0 : Int)
    else (0 : Int)
noncomputable def _root_.Go.Proofs.Ytmcifgaaojgheaa.V.dot_r1 (bad : Bool) (a : List Int) (b : List Int) : Bool :=
  if (!cEq (↑(List.length a) : Int) (↑(List.length b) : Int)) = true then true
else
  if cLt (8 : Int) (↑(List.length a) : Int) = true then true
  else
    if List.length a < (9223372036854775808 : Nat) then
      if V.anyG a = true then true
      else
        if List.length b < (9223372036854775808 : Nat) then
          if V.anyG b = true then true
          else
            if (List.length a < (9223372036854775808 : Nat) ∧ List.length a = List.length b) ∧ V.anyG a = false ∧ V.anyG b = false then
              V.shift_r1 bad (hiW (V.dotZ a b)) (loW (V.dotZ a b))
            else false
        else false
    else false
theorem dot_val {α : Type} (bad : Bool) (a : List Int) (b : List Int) (k0 : Int → Bool → Option α) : Go.Proofs.Ytmcifgaaojgheaa.M.dot bad a b k0 = if Go.Proofs.Ytmcifgaaojgheaa.V.dot_g bad a b = true then k0 (Go.Proofs.Ytmcifgaaojgheaa.V.dot_r0 bad a b) (Go.Proofs.Ytmcifgaaojgheaa.V.dot_r1 bad a b) else none := by
  unfold Go.Proofs.Ytmcifgaaojgheaa.M.dot Go.Proofs.Ytmcifgaaojgheaa.V.dot_g Go.Proofs.Ytmcifgaaojgheaa.V.dot_r0 Go.Proofs.Ytmcifgaaojgheaa.V.dot_r1
  repeat' first | rfl | (split <;> rename_i h <;> first | simp only [if_pos h] | simp only [if_neg h] | skip)
theorem anyG_cons (x : Int) (l : List Int) : V.anyG (x :: l) = (isG x || V.anyG l) := by simp [V.anyG]
theorem dotZ_cons (x y : Int) (a b : List Int) : V.dotZ (x :: a) (y :: b) = x * y + V.dotZ a b := by simp [V.dotZ]
theorem dotZ_bound : ∀ (a b : List Int), V.anyG a = false → V.anyG b = false → -21267647932558653957237540927630737409 * (a.length : Int) ≤ V.dotZ a b ∧ V.dotZ a b ≤ 21267647932558653957237540927630737409 * (a.length : Int)
  | [], b, _, _ => by simp [V.dotZ]
  | x :: a, [], _, _ => by simp [V.dotZ]; omega
  | x :: a, y :: b, ha, hb => by
    rw [anyG_cons, Bool.or_eq_false_iff] at ha hb
    have h1 := prod_G ha.1 hb.1
    have h2 := dotZ_bound a b ha.2 hb.2
    rw [dotZ_cons, List.length_cons]
    push_cast
    omega
theorem dotZ_sq : ∀ (a : List Int), 0 ≤ V.dotZ a a
  | [] => by simp [V.dotZ]
  | x :: a => by
    rw [dotZ_cons]
    have := dotZ_sq a
    have h : 0 ≤ x * x := by
      rcases Int.le_total 0 x with h | h
      · exact Int.mul_nonneg h h
      · have := Int.mul_nonneg (by omega : 0 ≤ -x) (by omega : 0 ≤ -x); rwa [Int.neg_mul_neg] at this
    omega
theorem dot_v {α : Type} (bad : Bool) (a b : List Int) (k0 : Int → Bool → Option α) : M.dot bad a b k0 = k0 (V.gv (V.mDot a b)) (V.gn (V.mDot a b) bad) := by
  unfold M.dot V.mDot
  rw [cEq_eq, cLt_eq]
  by_cases h1 : a.length = b.length
  · have e1 : ((a.length : Int) == (b.length : Int)) = true := by simp [h1]
    have e2 : (a.length != b.length) = false := by simp [h1]
    rw [e1, e2]
    by_cases h2 : 8 < a.length
    · have : (8 : Int) < (a.length : Int) := by omega
      simp [h2, this, V.gv, V.gn]
    · have : ¬ (8 : Int) < (a.length : Int) := by omega
      have l1 : a.length < 9223372036854775808 := by omega
      have l2 : b.length < 9223372036854775808 := by omega
      simp only [this, h2, l1, l2, if_true, decide_false, Bool.not_true, Bool.false_or, Bool.or_false, Bool.false_eq_true, if_false]
      cases ga : V.anyG a with
      | true => simp [V.gv, V.gn]
      | false => cases gb : V.anyG b with
        | true => simp [V.gv, V.gn]
        | false =>
          have hb := dotZ_bound a b ga gb
          obtain ⟨s0, s1⟩ := shift_r (x := V.dotZ a b) bad (by omega) (by omega)
          simp [h1, s0, s1]
  · have e1 : ((a.length : Int) == (b.length : Int)) = false := by
      simp only [beq_eq_false_iff_ne, ne_eq]; omega
    have e2 : (a.length != b.length) = true := by simp [h1]
    rw [e1, e2]
    simp [V.gv, V.gn]
noncomputable def dot_h {α : Type} (ds : List D) (Q : SV → Hp → Option α) : Option α :=
  dB ds fun bad ds => dL (K.int IntKind.i64) ds fun a ds => dL (K.int IntKind.i64) ds fun b ds => dE ds (Q (.int .i64 (V.gv (V.mDot a b))) ([.cells [.bool (V.gn (V.mDot a b) bad)] 27]))
theorem dot_h_ok {α : Type} : FnOk E.P 49 (fEnt (α := α) dot_sp dot_h) :=
  fEntR_ok E (look_div_ok) (exec_sound E E_ok (look_div_ok) (noLps_ok _) 400) fun ds Q r h => by
    unfold dot_h at h
    obtain ⟨bad, ds, rfl, h1⟩ := dB_inv h
    obtain ⟨a, ds, rfl, h2⟩ := dL_inv h1
    obtain ⟨b, ds, rfl, h3⟩ := dL_inv h2
    obtain ⟨rfl, hE⟩ := dE_inv h3
    exact ⟨_, _, hE, fun vs => ⟨_, _, by kernel_rfl, (dot_eq bad a b (vs.tail.headD undef) (vs.tail.tail.headD undef) _).trans (dot_v bad a b _)⟩⟩
noncomputable def look_dot {α : Type} : LookF α := addFn 49 (fEnt dot_sp dot_h) look_div
theorem look_dot_ok {α : Type} : LookOk E.P (look_dot (α := α)) := addFn_ok dot_h_ok (look_div_ok)
noncomputable def _root_.Go.Proofs.Ytmcifgaaojgheaa.M.norm {α : Type} (bad : Bool) (l : List Int) (k0 : Int → Bool → Option α) : Option α :=
  if cLt (8 : Int) (↑(List.length l) : Int) = true then k0 (0 : Int) true
else
  if List.length l < (9223372036854775808 : Nat) then
    if V.anyG l = true then k0 (0 : Int) true
    else
      if (List.length l < (9223372036854775808 : Nat) ∧ List.length l = List.length l) ∧ V.anyG l = false ∧ V.anyG l = false then
        if ((0 : Int) ≤ hiW (V.dotZ l l) ∧ hiW (V.dotZ l l) < (18446744073709551616 : Int)) ∧ (0 : Int) ≤ loW (V.dotZ l l) ∧ loW (V.dotZ l l) < (18446744073709551616 : Int) then
          k0 (V.gv (V.mRt (hiW (V.dotZ l l) * (18446744073709551616 : Int) + loW (V.dotZ l l))))
            (V.gn (V.mRt (hiW (V.dotZ l l) * (18446744073709551616 : Int) + loW (V.dotZ l l))) bad)
        else none
      else none
  else none
theorem norm_eq {α : Type} (bad : Bool) (l : List Int) (v4 : Value) (Q : SV → Hp → Option α) : callI E look_dot (exec E look_dot noLps 400) 18 ([SV.ptr (nat_lit 0) (nat_lit 0), SV.ros v4 (K.int IntKind.i64) l]) ([SObj.cells [SV.bool bad] (nat_lit 27)]) Q = Go.Proofs.Ytmcifgaaojgheaa.M.norm bad l (fun (x5 : Int) (x6 : Bool) => Q (SV.int IntKind.i64 x5) ([SObj.cells [SV.bool x6] (nat_lit 27)])) := by kernel_rfl
def norm_sp : List AS := [.ptr 27 [.bool false], .ro (.int .i64)]
noncomputable def _root_.Go.Proofs.Ytmcifgaaojgheaa.V.norm_g (bad : Bool) (l : List Int) : Bool :=
  if cLt (8 : Int) (↑(List.length l) : Int) = true then true
else
  if List.length l < (9223372036854775808 : Nat) then
    if V.anyG l = true then true
    else
      if (List.length l < (9223372036854775808 : Nat) ∧ List.length l = List.length l) ∧ V.anyG l = false ∧ V.anyG l = false then
        if ((0 : Int) ≤ hiW (V.dotZ l l) ∧ hiW (V.dotZ l l) < (18446744073709551616 : Int)) ∧ (0 : Int) ≤ loW (V.dotZ l l) ∧ loW (V.dotZ l l) < (18446744073709551616 : Int) then
          true
        else false
      else false
  else false
noncomputable def _root_.Go.Proofs.Ytmcifgaaojgheaa.V.norm_r0 (bad : Bool) (l : List Int) : Int :=
  if cLt (8 : Int) (↑(List.length l) : Int) = true then (0 : Int)
else
  if List.length l < (9223372036854775808 : Nat) then
    if V.anyG l = true then (0 : Int)
    else
      if (List.length l < (9223372036854775808 : Nat) ∧ List.length l = List.length l) ∧ V.anyG l = false ∧ V.anyG l = false then
        if ((0 : Int) ≤ hiW (V.dotZ l l) ∧ hiW (V.dotZ l l) < (18446744073709551616 : Int)) ∧ (0 : Int) ≤ loW (V.dotZ l l) ∧ loW (V.dotZ l l) < (18446744073709551616 : Int) then
          V.gv (V.mRt (hiW (V.dotZ l l) * (18446744073709551616 : Int) + loW (V.dotZ l l)))
        else (0 : Int)
      else (0 : Int)
  else (0 : Int)
noncomputable def _root_.Go.Proofs.Ytmcifgaaojgheaa.V.norm_r1 (bad : Bool) (l : List Int) : Bool :=
  if cLt (8 : Int) (↑(List.length l) : Int) = true then true
else
  if List.length l < (9223372036854775808 : Nat) then
    if V.anyG l = true then true
    else
      if (List.length l < (9223372036854775808 : Nat) ∧ List.length l = List.length l) ∧ V.anyG l = false ∧ V.anyG l = false then
        if ((0 : Int) ≤ hiW (V.dotZ l l) ∧ hiW (V.dotZ l l) < (18446744073709551616 : Int)) ∧ (0 : Int) ≤ loW (V.dotZ l l) ∧ loW (V.dotZ l l) < (18446744073709551616 : Int) then
          V.gn (V.mRt (hiW (V.dotZ l l) * (18446744073709551616 : Int) + loW (V.dotZ l l))) bad
        else false
      else false
  else false
theorem norm_val {α : Type} (bad : Bool) (l : List Int) (k0 : Int → Bool → Option α) : Go.Proofs.Ytmcifgaaojgheaa.M.norm bad l k0 = if Go.Proofs.Ytmcifgaaojgheaa.V.norm_g bad l = true then k0 (Go.Proofs.Ytmcifgaaojgheaa.V.norm_r0 bad l) (Go.Proofs.Ytmcifgaaojgheaa.V.norm_r1 bad l) else none := by
  unfold Go.Proofs.Ytmcifgaaojgheaa.M.norm Go.Proofs.Ytmcifgaaojgheaa.V.norm_g Go.Proofs.Ytmcifgaaojgheaa.V.norm_r0 Go.Proofs.Ytmcifgaaojgheaa.V.norm_r1
  repeat' first | rfl | (split <;> rename_i h <;> first | simp only [if_pos h] | simp only [if_neg h] | skip)
theorem norm_v {α : Type} (bad : Bool) (l : List Int) (k0 : Int → Bool → Option α) : M.norm bad l k0 = k0 (V.gv (V.mNorm l)) (V.gn (V.mNorm l) bad) := by
  unfold M.norm V.mNorm
  rw [cLt_eq]
  by_cases h2 : 8 < l.length
  · have : (8 : Int) < (l.length : Int) := by omega
    simp [h2, this, V.gv, V.gn]
  · have : ¬ (8 : Int) < (l.length : Int) := by omega
    have l1 : l.length < 9223372036854775808 := by omega
    simp only [this, h2, l1, if_true, decide_false, Bool.false_or, Bool.false_eq_true, if_false]
    cases ga : V.anyG l with
    | true => simp [V.gv, V.gn]
    | false =>
      have hb := dotZ_bound l l ga ga
      have hs := dotZ_sq l
      have a1 := hiW_lo (V.dotZ l l)
      have a2 := loW_lo (V.dotZ l l)
      simp only [Bool.false_eq_true, if_false, and_self, if_true]
      rw [if_pos ⟨a1, a2⟩, hilo hs (by omega)]
noncomputable def norm_h {α : Type} (ds : List D) (Q : SV → Hp → Option α) : Option α :=
  dB ds fun bad ds => dL (K.int IntKind.i64) ds fun l ds => dE ds (Q (.int .i64 (V.gv (V.mNorm l))) ([.cells [.bool (V.gn (V.mNorm l) bad)] 27]))
theorem norm_h_ok {α : Type} : FnOk E.P 18 (fEnt (α := α) norm_sp norm_h) :=
  fEntR_ok E (look_dot_ok) (exec_sound E E_ok (look_dot_ok) (noLps_ok _) 400) fun ds Q r h => by
    unfold norm_h at h
    obtain ⟨bad, ds, rfl, h1⟩ := dB_inv h
    obtain ⟨l, ds, rfl, h2⟩ := dL_inv h1
    obtain ⟨rfl, hE⟩ := dE_inv h2
    exact ⟨_, _, hE, fun vs => ⟨_, _, by kernel_rfl, (norm_eq bad l (vs.tail.headD undef) _).trans (norm_v bad l _)⟩⟩
noncomputable def look_norm {α : Type} : LookF α := addFn 18 (fEnt norm_sp norm_h) look_dot
theorem look_norm_ok {α : Type} : LookOk E.P (look_norm (α := α)) := addFn_ok norm_h_ok (look_dot_ok)
end Go.Proofs.Ytmcifgaaojgheaa.Sx
