/- fx: its words. -/
import Derived.Test.YtkjellhkamfciaaFxD
namespace Go.Proofs.Ytkjellhkamfciaa.Sx
open Go
set_option maxRecDepth 20000
set_option linter.unusedVariables false
set_option linter.unusedSimpArgs false
theorem anyG2 (a b : Int) : V.anyG [a, b] = (isG a || isG b) := by simp [V.anyG]
theorem anyG1 (a : Int) : V.anyG [a] = isG a := by simp [V.anyG]
theorem anyG3 (a b c : Int) : V.anyG [a, b, c] = (isG a || isG b || isG c) := by simp [V.anyG, Bool.or_assoc]
theorem hilo {x : Int} (h0 : 0 ≤ x) (h1 : x < 340282366920938463463374607431768211456) : hiW x * 18446744073709551616 + loW x = x := by unfold hiW loW; omega
theorem prod_G {a b : Int} (ha : isG a = false) (hb : isG b = false) : -21267647932558653957237540927630737409 ≤ a * b ∧ a * b ≤ 21267647932558653957237540927630737409 := by
  rw [isG_false] at ha hb
  have h1 : ∀ x y : Int, 0 ≤ x → x ≤ 4611686018427387903 → 0 ≤ y → y ≤ 4611686018427387903 → 0 ≤ x * y ∧ x * y ≤ 4611686018427387903 * 4611686018427387903 := fun x y hx hx' hy hy' => ⟨Int.mul_nonneg hx hy, Int.mul_le_mul hx' hy' hy (by omega)⟩
  rcases Int.le_total 0 a with p | p <;> rcases Int.le_total 0 b with q | q
  · have := h1 a b p ha.2 q hb.2; omega
  · have := h1 a (-b) p ha.2 (by omega) (by omega); rw [Int.mul_neg] at this; omega
  · have := h1 (-a) b (by omega) (by omega) q hb.2; rw [Int.neg_mul] at this; omega
  · have := h1 (-a) (-b) (by omega) (by omega) (by omega) (by omega); rw [Int.neg_mul_neg] at this; omega
noncomputable def _root_.Go.Proofs.Ytkjellhkamfciaa.M.add {α : Type} (bad : Bool) (a : Int) (b : Int) (k0 : Int → Bool → Option α) : Option α :=
  if V.anyG [a, b] = true then k0 (0 : Int) true else k0 (V.gv (V.tl (IntKind.wrap .i64 (a + b)))) (V.gn (V.tl (IntKind.wrap .i64 (a + b))) bad)
theorem add_eq {α : Type} (bad : Bool) (a : Int) (b : Int) (Q : SV → Hp → Option α) : callI E look_shift (exec E look_shift noLps 400) 39 ([SV.ptr (nat_lit 0) (nat_lit 0), SV.int .i64 a, SV.int .i64 b]) ([.cells [SV.bool bad] (nat_lit 62)]) Q = M.add bad a b (fun (x0 : Int) (x1 : Bool) => Q (SV.int .i64 x0) ([.cells [SV.bool x1] (nat_lit 62)])) := by kernel_rfl
def add_sp : List AS := [.ptr 62 [.bool false], .val (.int .i64 0), .val (.int .i64 0)]
noncomputable def _root_.Go.Proofs.Ytkjellhkamfciaa.V.add_r0 (bad : Bool) (a : Int) (b : Int) : Int :=
  if V.anyG [a, b] = true then (0 : Int) else V.gv (V.tl (IntKind.wrap .i64 (a + b)))
noncomputable def _root_.Go.Proofs.Ytkjellhkamfciaa.V.add_r1 (bad : Bool) (a : Int) (b : Int) : Bool :=
  if V.anyG [a, b] = true then true else V.gn (V.tl (IntKind.wrap .i64 (a + b))) bad
theorem add_val {α : Type} (bad : Bool) (a : Int) (b : Int) (k0 : Int → Bool → Option α) : M.add bad a b k0 = k0 (V.add_r0 bad a b) (V.add_r1 bad a b) := by
  unfold M.add V.add_r0 V.add_r1
  repeat' first | rfl | (split <;> rename_i h <;> first | simp only [if_pos h] | simp only [if_neg h] | skip)
noncomputable def add_c {α : Type} (ds : List D) (Q : SV → Hp → Option α) : Option α :=
  dB ds fun bad ds => dI ds fun a ds => dI ds fun b ds => dE ds (Q (SV.int .i64 (V.add_r0 bad a b)) ([.cells [SV.bool (V.add_r1 bad a b)] (nat_lit 62)]))
theorem add_c_ok {α : Type} : FnOk E.P 39 (fEnt (α := α) add_sp add_c) :=
  fEnt_ok E (look_shift_ok) (exec_sound E E_ok (look_shift_ok) (noLps_ok _) 400) fun ds Q r h => by
    unfold add_c at h
    obtain ⟨bad, ds, rfl, h1⟩ := dB_inv h
    obtain ⟨a, ds, rfl, h2⟩ := dI_inv h1
    obtain ⟨b, ds, rfl, h3⟩ := dI_inv h2
    obtain ⟨rfl, hE⟩ := dE_inv h3
    exact ⟨[SV.ptr (nat_lit 0) (nat_lit 0), SV.int .i64 a, SV.int .i64 b], [.cells [SV.bool bad] (nat_lit 62)], fun vs => by kernel_rfl, (add_eq bad a b Q).trans ((add_val bad a b (fun (x0 : Int) (x1 : Bool) => Q (SV.int .i64 x0) ([.cells [SV.bool x1] (nat_lit 62)]))).trans hE)⟩
noncomputable def add_go {α : Type} (ds : List D) (Q : SV → Hp → Option α) : Option α :=
  dB ds fun bad ds => dI ds fun a ds => dI ds fun b ds => dE ds (M.add bad a b (fun (x0 : Int) (x1 : Bool) => Q (SV.int .i64 x0) ([.cells [SV.bool x1] (nat_lit 62)])))
theorem add_ok {α : Type} : FnOk E.P 39 (fEnt (α := α) add_sp add_go) :=
  fEnt_ok E (look_shift_ok) (exec_sound E E_ok (look_shift_ok) (noLps_ok _) 400) fun ds Q r h => by
    unfold add_go at h
    obtain ⟨bad, ds, rfl, h1⟩ := dB_inv h
    obtain ⟨a, ds, rfl, h2⟩ := dI_inv h1
    obtain ⟨b, ds, rfl, h3⟩ := dI_inv h2
    obtain ⟨rfl, hE⟩ := dE_inv h3
    exact ⟨[SV.ptr (nat_lit 0) (nat_lit 0), SV.int .i64 a, SV.int .i64 b], [.cells [SV.bool bad] (nat_lit 62)], fun vs => by kernel_rfl, (add_eq bad a b Q).trans hE⟩
theorem add_v {α : Type} (bad : Bool) (a b : Int) (k0 : Int → Bool → Option α) : M.add bad a b k0 = k0 (V.gv (V.mAdd a b)) (V.gn (V.mAdd a b) bad) := by
  unfold M.add V.mAdd
  rw [anyG2]
  by_cases h : (isG a || isG b) = true
  · simp [h, V.gv, V.gn]
  · have h' : (isG a || isG b) = false := by simpa using h
    simp only [h', Bool.false_eq_true, if_false]
    simp only [Bool.or_eq_false_iff, isG_false] at h'
    rw [IntWalk.i64_in _ (by omega)]
noncomputable def add_h {α : Type} (ds : List D) (Q : SV → Hp → Option α) : Option α :=
  dB ds fun bad ds => dI ds fun a ds => dI ds fun b ds => dE ds (Q (.int .i64 (V.gv (V.mAdd a b))) ([.cells [.bool (V.gn (V.mAdd a b) bad)] 62]))
theorem add_h_ok {α : Type} : FnOk E.P 39 (fEnt (α := α) add_sp add_h) :=
  fEnt_ok E (look_shift_ok) (exec_sound E E_ok (look_shift_ok) (noLps_ok _) 400) fun ds Q r h => by
    unfold add_h at h
    obtain ⟨bad, ds, rfl, h1⟩ := dB_inv h
    obtain ⟨a, ds, rfl, h2⟩ := dI_inv h1
    obtain ⟨b, ds, rfl, h3⟩ := dI_inv h2
    obtain ⟨rfl, hE⟩ := dE_inv h3
    exact ⟨[SV.ptr (nat_lit 0) (nat_lit 0), SV.int .i64 a, SV.int .i64 b], [.cells [SV.bool bad] (nat_lit 62)], fun vs => by kernel_rfl, (add_eq bad a b Q).trans ((add_v bad a b _).trans hE)⟩
noncomputable def look_add {α : Type} : LookF α := addFn 39 (fEnt add_sp add_h) look_shift
theorem look_add_ok {α : Type} : LookOk E.P (look_add (α := α)) := addFn_ok add_h_ok (look_shift_ok)
noncomputable def _root_.Go.Proofs.Ytkjellhkamfciaa.M.mul {α : Type} (bad : Bool) (a : Int) (b : Int) (k0 : Int → Bool → Option α) : Option α :=
  if V.anyG [a, b] = true then k0 (0 : Int) true else k0 (V.shift_r0 bad (V.times_r0 a b) (V.times_r1 a b)) (V.shift_r1 bad (V.times_r0 a b) (V.times_r1 a b))
theorem mul_eq {α : Type} (bad : Bool) (a : Int) (b : Int) (Q : SV → Hp → Option α) : callI E look_add (exec E look_add noLps 400) 33 ([SV.ptr (nat_lit 0) (nat_lit 0), SV.int .i64 a, SV.int .i64 b]) ([.cells [SV.bool bad] (nat_lit 62)]) Q = M.mul bad a b (fun (x2 : Int) (x3 : Bool) => Q (SV.int .i64 x2) ([.cells [SV.bool x3] (nat_lit 62)])) := by kernel_rfl
def mul_sp : List AS := [.ptr 62 [.bool false], .val (.int .i64 0), .val (.int .i64 0)]
noncomputable def _root_.Go.Proofs.Ytkjellhkamfciaa.V.mul_r0 (bad : Bool) (a : Int) (b : Int) : Int :=
  if V.anyG [a, b] = true then (0 : Int) else V.shift_r0 bad (V.times_r0 a b) (V.times_r1 a b)
noncomputable def _root_.Go.Proofs.Ytkjellhkamfciaa.V.mul_r1 (bad : Bool) (a : Int) (b : Int) : Bool :=
  if V.anyG [a, b] = true then true else V.shift_r1 bad (V.times_r0 a b) (V.times_r1 a b)
theorem mul_val {α : Type} (bad : Bool) (a : Int) (b : Int) (k0 : Int → Bool → Option α) : M.mul bad a b k0 = k0 (V.mul_r0 bad a b) (V.mul_r1 bad a b) := by
  unfold M.mul V.mul_r0 V.mul_r1
  repeat' first | rfl | (split <;> rename_i h <;> first | simp only [if_pos h] | simp only [if_neg h] | skip)
noncomputable def mul_c {α : Type} (ds : List D) (Q : SV → Hp → Option α) : Option α :=
  dB ds fun bad ds => dI ds fun a ds => dI ds fun b ds => dE ds (Q (SV.int .i64 (V.mul_r0 bad a b)) ([.cells [SV.bool (V.mul_r1 bad a b)] (nat_lit 62)]))
theorem mul_c_ok {α : Type} : FnOk E.P 33 (fEnt (α := α) mul_sp mul_c) :=
  fEnt_ok E (look_add_ok) (exec_sound E E_ok (look_add_ok) (noLps_ok _) 400) fun ds Q r h => by
    unfold mul_c at h
    obtain ⟨bad, ds, rfl, h1⟩ := dB_inv h
    obtain ⟨a, ds, rfl, h2⟩ := dI_inv h1
    obtain ⟨b, ds, rfl, h3⟩ := dI_inv h2
    obtain ⟨rfl, hE⟩ := dE_inv h3
    exact ⟨[SV.ptr (nat_lit 0) (nat_lit 0), SV.int .i64 a, SV.int .i64 b], [.cells [SV.bool bad] (nat_lit 62)], fun vs => by kernel_rfl, (mul_eq bad a b Q).trans ((mul_val bad a b (fun (x2 : Int) (x3 : Bool) => Q (SV.int .i64 x2) ([.cells [SV.bool x3] (nat_lit 62)]))).trans hE)⟩
noncomputable def mul_go {α : Type} (ds : List D) (Q : SV → Hp → Option α) : Option α :=
  dB ds fun bad ds => dI ds fun a ds => dI ds fun b ds => dE ds (M.mul bad a b (fun (x2 : Int) (x3 : Bool) => Q (SV.int .i64 x2) ([.cells [SV.bool x3] (nat_lit 62)])))
theorem mul_ok {α : Type} : FnOk E.P 33 (fEnt (α := α) mul_sp mul_go) :=
  fEnt_ok E (look_add_ok) (exec_sound E E_ok (look_add_ok) (noLps_ok _) 400) fun ds Q r h => by
    unfold mul_go at h
    obtain ⟨bad, ds, rfl, h1⟩ := dB_inv h
    obtain ⟨a, ds, rfl, h2⟩ := dI_inv h1
    obtain ⟨b, ds, rfl, h3⟩ := dI_inv h2
    obtain ⟨rfl, hE⟩ := dE_inv h3
    exact ⟨[SV.ptr (nat_lit 0) (nat_lit 0), SV.int .i64 a, SV.int .i64 b], [.cells [SV.bool bad] (nat_lit 62)], fun vs => by kernel_rfl, (mul_eq bad a b Q).trans hE⟩
theorem G_R {a : Int} (h : isG a = false) : R64 a := by rw [isG_false] at h; unfold R64; omega
theorem mul_v {α : Type} (bad : Bool) (a b : Int) (k0 : Int → Bool → Option α) : M.mul bad a b k0 = k0 (V.gv (V.mMul a b)) (V.gn (V.mMul a b) bad) := by
  unfold M.mul V.mMul
  rw [anyG2]
  by_cases h : (isG a || isG b) = true
  · simp [h, V.gv, V.gn]
  · have h' : (isG a || isG b) = false := by simpa using h
    have hab := h'
    simp only [h', Bool.false_eq_true, if_false]
    simp only [Bool.or_eq_false_iff] at h'
    obtain ⟨t0, t1⟩ := times_eq' (G_R h'.1) (G_R h'.2)
    have hp := prod_G h'.1 h'.2
    obtain ⟨s0, s1⟩ := shift_r (x := a * b) bad (by omega) (by omega)
    rw [t0, t1, s0, s1]
noncomputable def mul_h {α : Type} (ds : List D) (Q : SV → Hp → Option α) : Option α :=
  dB ds fun bad ds => dI ds fun a ds => dI ds fun b ds => dE ds (Q (.int .i64 (V.gv (V.mMul a b))) ([.cells [.bool (V.gn (V.mMul a b) bad)] 62]))
theorem mul_h_ok {α : Type} : FnOk E.P 33 (fEnt (α := α) mul_sp mul_h) :=
  fEnt_ok E (look_add_ok) (exec_sound E E_ok (look_add_ok) (noLps_ok _) 400) fun ds Q r h => by
    unfold mul_h at h
    obtain ⟨bad, ds, rfl, h1⟩ := dB_inv h
    obtain ⟨a, ds, rfl, h2⟩ := dI_inv h1
    obtain ⟨b, ds, rfl, h3⟩ := dI_inv h2
    obtain ⟨rfl, hE⟩ := dE_inv h3
    exact ⟨[SV.ptr (nat_lit 0) (nat_lit 0), SV.int .i64 a, SV.int .i64 b], [.cells [SV.bool bad] (nat_lit 62)], fun vs => by kernel_rfl, (mul_eq bad a b Q).trans ((mul_v bad a b _).trans hE)⟩
noncomputable def look_mul {α : Type} : LookF α := addFn 33 (fEnt mul_sp mul_h) look_add
theorem look_mul_ok {α : Type} : LookOk E.P (look_mul (α := α)) := addFn_ok mul_h_ok (look_add_ok)
end Go.Proofs.Ytkjellhkamfciaa.Sx
