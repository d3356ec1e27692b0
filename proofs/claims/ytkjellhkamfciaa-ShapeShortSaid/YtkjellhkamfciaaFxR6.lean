/- The document's own words. -/
import Derived.Test.YtkjellhkamfciaaFxR5
namespace Go.Proofs.Ytkjellhkamfciaa.Sx
open Go
set_option maxRecDepth 20000
set_option linter.unusedVariables false
set_option linter.unusedSimpArgs false
theorem tells_none (bad : Bool) (n : Int) : V.tells_r0 bad n false = V.gv none ∧ V.tells_r1 bad n false = V.gn none bad := by
  unfold V.tells_r0 V.tells_r1 V.gv V.gn; simp
theorem tells_tl (bad : Bool) (n : Int) : V.tells_r0 bad n true = V.gv (V.tl n) ∧ V.tells_r1 bad n true = V.gn (V.tl n) bad := by
  unfold V.tells_r0 V.tells_r1 V.gv V.gn V.tl
  simp only [cLt_eq]
  by_cases h1 : n < -4611686018427387903
  · have : isG n = true := by rw [isG_iff]; omega
    simp [h1, this]
  · by_cases h2 : 4611686018427387903 < n
    · have : isG n = true := by rw [isG_iff]; omega
      simp [h1, h2, this]
    · have : isG n = false := by rw [isG_false]; omega
      simp [h1, h2, this]
theorem tells_o (bad : Bool) {o : Option Int} (h : ∀ n, o = some n → isG n = false) : V.tells_r0 bad (V.gv o) (V.sm o) = V.gv o ∧ V.tells_r1 bad (V.gv o) (V.sm o) = V.gn o bad := by
  cases o with
  | none => exact tells_none bad _
  | some n =>
    have := tells_tl bad n
    unfold V.tl at this
    rw [h n rfl] at this
    exact this
theorem tl_G {n m : Int} (h : V.tl n = some m) : isG m = false := by
  unfold V.tl at h
  cases hg : isG n <;> simp_all
theorem mRt_G {x m : Int} (h : V.mRt x = some m) : isG m = false := by
  unfold V.mRt at h
  split at h
  · cases h
  · cases h
    have : 0 ≤ V.isq x := by
      unfold V.isq
      split
      · rename_i he; exact (Classical.choose_spec he).1
      · omega
    rw [isG_false]; omega
theorem aG2 (a b : Int) : V.anyG [a, b] = (isG a || isG b) := by simp [V.anyG]
theorem aG3 (a b c : Int) : V.anyG [a, b, c] = (isG a || isG b || isG c) := by simp [V.anyG, Bool.or_assoc]
theorem aG1 (a : Int) : V.anyG [a] = isG a := by simp [V.anyG]
noncomputable def _root_.Go.Proofs.Ytkjellhkamfciaa.M.radd {α : Type} (bad : Bool) (a : Int) (b : Int) (k0 : Int → Bool → Option α) : Option α :=
  if V.anyG [a, b] = true then k0 (V.tells_r0 bad (0 : Int) false) (V.tells_r1 bad (0 : Int) false) else k0 (V.tells_r0 bad (IntKind.wrap .i64 (a + b)) true) (V.tells_r1 bad (IntKind.wrap .i64 (a + b)) true)
theorem radd_eq {α : Type} (bad : Bool) (a : Int) (b : Int) (Q : SV → Hp → Option α) : callI E look_down (exec E look_down noLps 400) 43 ([SV.ptr (nat_lit 0) (nat_lit 0), SV.int .i64 a, SV.int .i64 b]) ([.cells [SV.bool bad] (nat_lit 68)]) Q = M.radd bad a b (fun (x0 : Int) (x1 : Bool) => Q (SV.int .i64 x0) ([.cells [SV.bool x1] (nat_lit 68)])) := by kernel_rfl
def radd_sp : List AS := [.ptr 68 [.bool false], .val (.int .i64 0), .val (.int .i64 0)]
noncomputable def radd_go {α : Type} (ds : List D) (Q : SV → Hp → Option α) : Option α :=
  dB ds fun bad ds => dI ds fun a ds => dI ds fun b ds => dE ds (M.radd bad a b (fun (x0 : Int) (x1 : Bool) => Q (SV.int .i64 x0) ([.cells [SV.bool x1] (nat_lit 68)])))
theorem radd_ok {α : Type} : FnOk E.P 43 (fEnt (α := α) radd_sp radd_go) :=
  fEnt_ok E (look_down_ok) (exec_sound E E_ok (look_down_ok) (noLps_ok _) 400) fun ds Q r h => by
    unfold radd_go at h
    obtain ⟨bad, ds, rfl, h1⟩ := dB_inv h
    obtain ⟨a, ds, rfl, h2⟩ := dI_inv h1
    obtain ⟨b, ds, rfl, h3⟩ := dI_inv h2
    obtain ⟨rfl, hE⟩ := dE_inv h3
    exact ⟨[SV.ptr (nat_lit 0) (nat_lit 0), SV.int .i64 a, SV.int .i64 b], [.cells [SV.bool bad] (nat_lit 68)], fun vs => by kernel_rfl, (radd_eq bad a b Q).trans hE⟩
theorem radd_v {α : Type} (bad : Bool) (a b : Int) (k0 : Int → Bool → Option α) : M.radd bad a b k0 = k0 (V.gv (V.mAdd a b)) (V.gn (V.mAdd a b) bad) := by
  unfold M.radd V.mAdd
  rw [aG2]
  cases h : (isG a || isG b) with
  | true => simp only [if_true]; rw [(tells_none bad 0).1, (tells_none bad 0).2]
  | false =>
    simp only [Bool.false_eq_true, if_false]
    simp only [Bool.or_eq_false_iff, isG_false] at h
    rw [IntWalk.i64_in _ (by omega), (tells_tl bad _).1, (tells_tl bad _).2]
noncomputable def radd_h {α : Type} (ds : List D) (Q : SV → Hp → Option α) : Option α :=
  dB ds fun bad ds => dI ds fun a ds => dI ds fun b ds => dE ds (Q (.int .i64 (V.gv (V.mAdd a b))) ([.cells [.bool (V.gn (V.mAdd a b) bad)] 68]))
theorem radd_h_ok {α : Type} : FnOk E.P 43 (fEnt (α := α) radd_sp radd_h) :=
  fEnt_ok E (look_down_ok) (exec_sound E E_ok (look_down_ok) (noLps_ok _) 400) fun ds Q r h => by
    unfold radd_h at h
    obtain ⟨bad, ds, rfl, h1⟩ := dB_inv h
    obtain ⟨a, ds, rfl, h2⟩ := dI_inv h1
    obtain ⟨b, ds, rfl, h3⟩ := dI_inv h2
    obtain ⟨rfl, hE⟩ := dE_inv h3
    exact ⟨[SV.ptr (nat_lit 0) (nat_lit 0), SV.int .i64 a, SV.int .i64 b], [.cells [SV.bool bad] (nat_lit 68)], fun vs => by kernel_rfl, (radd_eq bad a b Q).trans ((radd_v bad a b _).trans hE)⟩
noncomputable def look_radd {α : Type} : LookF α := addFn 43 (fEnt radd_sp radd_h) look_down
theorem look_radd_ok {α : Type} : LookOk E.P (look_radd (α := α)) := addFn_ok radd_h_ok (look_down_ok)
noncomputable def _root_.Go.Proofs.Ytkjellhkamfciaa.M.rratio {α : Type} (bad : Bool) (a : Int) (b : Int) (c : Int) (k0 : Int → Bool → Option α) : Option α :=
  if V.anyG [a, b, c] = true then k0 (V.tells_r0 bad (0 : Int) false) (V.tells_r1 bad (0 : Int) false)
else
  if cEq c (0 : Int) = true then k0 (V.tells_r0 bad (0 : Int) false) (V.tells_r1 bad (0 : Int) false)
  else
    if (-9223372036854775808 : Int) ≤ a ∧ a < (9223372036854775808 : Int) then
      if (-9223372036854775808 : Int) ≤ b ∧ b < (9223372036854775808 : Int) then
        if V.ok8 (V.ofN a) = true ∧ V.ok8 (V.ofN b) = true then
          if V.ok8 (V.tmD (V.ofN a) (V.ofN b)) = true ∧ ¬c = (0 : Int) ∧ (-4611686018427387903 : Int) ≤ c ∧ c ≤ (4611686018427387903 : Int) then
            k0 (V.tells_r0 bad (V.gv (V.dn (V.tmN (decide (a < (0 : Int))) (decide (b < (0 : Int)))) (V.tmD (V.ofN a) (V.ofN b)) c)) (V.sm (V.dn (V.tmN (decide (a < (0 : Int))) (decide (b < (0 : Int)))) (V.tmD (V.ofN a) (V.ofN b)) c))) (V.tells_r1 bad (V.gv (V.dn (V.tmN (decide (a < (0 : Int))) (decide (b < (0 : Int)))) (V.tmD (V.ofN a) (V.ofN b)) c)) (V.sm (V.dn (V.tmN (decide (a < (0 : Int))) (decide (b < (0 : Int)))) (V.tmD (V.ofN a) (V.ofN b)) c)))
          else none
        else none
      else none
    else none
theorem rratio_eq {α : Type} (bad : Bool) (a : Int) (b : Int) (c : Int) (Q : SV → Hp → Option α) : callI E look_radd (exec E look_radd noLps 400) 40 ([SV.ptr (nat_lit 0) (nat_lit 0), SV.int .i64 a, SV.int .i64 b, SV.int .i64 c]) ([.cells [SV.bool bad] (nat_lit 68)]) Q = M.rratio bad a b c (fun (x2 : Int) (x3 : Bool) => Q (SV.int .i64 x2) ([.cells [SV.bool x3] (nat_lit 68)])) := by kernel_rfl
def rratio_sp : List AS := [.ptr 68 [.bool false], .val (.int .i64 0), .val (.int .i64 0), .val (.int .i64 0)]
noncomputable def rratio_go {α : Type} (ds : List D) (Q : SV → Hp → Option α) : Option α :=
  dB ds fun bad ds => dI ds fun a ds => dI ds fun b ds => dI ds fun c ds => dE ds (M.rratio bad a b c (fun (x2 : Int) (x3 : Bool) => Q (SV.int .i64 x2) ([.cells [SV.bool x3] (nat_lit 68)])))
theorem rratio_ok {α : Type} : FnOk E.P 40 (fEnt (α := α) rratio_sp rratio_go) :=
  fEnt_ok E (look_radd_ok) (exec_sound E E_ok (look_radd_ok) (noLps_ok _) 400) fun ds Q r h => by
    unfold rratio_go at h
    obtain ⟨bad, ds, rfl, h1⟩ := dB_inv h
    obtain ⟨a, ds, rfl, h2⟩ := dI_inv h1
    obtain ⟨b, ds, rfl, h3⟩ := dI_inv h2
    obtain ⟨c, ds, rfl, h4⟩ := dI_inv h3
    obtain ⟨rfl, hE⟩ := dE_inv h4
    exact ⟨[SV.ptr (nat_lit 0) (nat_lit 0), SV.int .i64 a, SV.int .i64 b, SV.int .i64 c], [.cells [SV.bool bad] (nat_lit 68)], fun vs => by kernel_rfl, (rratio_eq bad a b c Q).trans hE⟩
def _root_.Go.Proofs.Ytkjellhkamfciaa.V.rRatio (a b c : Int) : Option Int := if c == 0 || isG a || isG b || isG c then none else V.tl (Int.fdiv (a * b) c)
theorem rratio_v {α : Type} (bad : Bool) (a b c : Int) (k0 : Int → Bool → Option α) : M.rratio bad a b c k0 = k0 (V.gv (V.rRatio a b c)) (V.gn (V.rRatio a b c) bad) := by
  unfold M.rratio V.rRatio
  rw [aG3, cEq_eq]
  cases hG : (isG a || isG b || isG c) with
  | true =>
    have : (c == 0 || isG a || isG b || isG c) = true := by rw [Bool.or_assoc (c == 0), Bool.or_assoc (c == 0), hG, Bool.or_true]
    rw [this]
    simp only [if_true]
    rw [(tells_none bad 0).1, (tells_none bad 0).2]
  | false =>
    have h2 : (c == 0 || isG a || isG b || isG c) = (c == 0) := by rw [Bool.or_assoc (c == 0), Bool.or_assoc (c == 0), hG, Bool.or_false]
    rw [h2]
    simp only [Bool.or_eq_false_iff] at hG
    obtain ⟨⟨ga, gb⟩, gc⟩ := hG
    cases h0 : (c == 0) with
    | true =>
      simp only [if_true, Bool.false_eq_true, if_false]
      rw [(tells_none bad 0).1, (tells_none bad 0).2]
    | false =>
      simp only [Bool.false_eq_true, if_false]
      have hc0 : ¬ c = 0 := by simpa using h0
      obtain ⟨p1, p2, p3, p4⟩ := ofN_prod ga gb
      have ra := (isG_false a).1 ga
      have rb := (isG_false b).1 gb
      have rc := (isG_false c).1 gc
      rw [if_pos (by omega), if_pos (by omega), if_pos ⟨ofN_ok a, ofN_ok b⟩, if_pos ⟨p2, hc0, rc.1, rc.2⟩]
      unfold V.dn
      rw [p4]
      obtain ⟨t1, t2⟩ := tells_o bad (o := V.tl (Int.fdiv (a * b) c)) (fun n h => tl_G h)
      rw [t1, t2]
noncomputable def rratio_h {α : Type} (ds : List D) (Q : SV → Hp → Option α) : Option α :=
  dB ds fun bad ds => dI ds fun a ds => dI ds fun b ds => dI ds fun c ds => dE ds (Q (.int .i64 (V.gv (V.rRatio a b c))) ([.cells [.bool (V.gn (V.rRatio a b c) bad)] 68]))
theorem rratio_h_ok {α : Type} : FnOk E.P 40 (fEnt (α := α) rratio_sp rratio_h) :=
  fEnt_ok E (look_radd_ok) (exec_sound E E_ok (look_radd_ok) (noLps_ok _) 400) fun ds Q r h => by
    unfold rratio_h at h
    obtain ⟨bad, ds, rfl, h1⟩ := dB_inv h
    obtain ⟨a, ds, rfl, h2⟩ := dI_inv h1
    obtain ⟨b, ds, rfl, h3⟩ := dI_inv h2
    obtain ⟨c, ds, rfl, h4⟩ := dI_inv h3
    obtain ⟨rfl, hE⟩ := dE_inv h4
    exact ⟨[SV.ptr (nat_lit 0) (nat_lit 0), SV.int .i64 a, SV.int .i64 b, SV.int .i64 c], [.cells [SV.bool bad] (nat_lit 68)], fun vs => by kernel_rfl, (rratio_eq bad a b c Q).trans ((rratio_v bad a b c _).trans hE)⟩
noncomputable def look_rratio {α : Type} : LookF α := addFn 40 (fEnt rratio_sp rratio_h) look_radd
theorem look_rratio_ok {α : Type} : LookOk E.P (look_rratio (α := α)) := addFn_ok rratio_h_ok (look_radd_ok)
noncomputable def _root_.Go.Proofs.Ytkjellhkamfciaa.M.rmul {α : Type} (bad : Bool) (a : Int) (b : Int) (k0 : Int → Bool → Option α) : Option α :=
  k0 (V.gv (V.rRatio a b (4294967296 : Int))) (V.gn (V.rRatio a b (4294967296 : Int)) bad)
theorem rmul_eq {α : Type} (bad : Bool) (a : Int) (b : Int) (Q : SV → Hp → Option α) : callI E look_rratio (exec E look_rratio noLps 400) 41 ([SV.ptr (nat_lit 0) (nat_lit 0), SV.int .i64 a, SV.int .i64 b]) ([.cells [SV.bool bad] (nat_lit 68)]) Q = M.rmul bad a b (fun (x4 : Int) (x5 : Bool) => Q (SV.int .i64 x4) ([.cells [SV.bool x5] (nat_lit 68)])) := by kernel_rfl
def rmul_sp : List AS := [.ptr 68 [.bool false], .val (.int .i64 0), .val (.int .i64 0)]
noncomputable def _root_.Go.Proofs.Ytkjellhkamfciaa.V.rmul_r0 (bad : Bool) (a : Int) (b : Int) : Int :=
  V.gv (V.rRatio a b (4294967296 : Int))
noncomputable def _root_.Go.Proofs.Ytkjellhkamfciaa.V.rmul_r1 (bad : Bool) (a : Int) (b : Int) : Bool :=
  V.gn (V.rRatio a b (4294967296 : Int)) bad
theorem rmul_val {α : Type} (bad : Bool) (a : Int) (b : Int) (k0 : Int → Bool → Option α) : M.rmul bad a b k0 = k0 (V.rmul_r0 bad a b) (V.rmul_r1 bad a b) := by
  unfold M.rmul V.rmul_r0 V.rmul_r1
  repeat' first | rfl | (split <;> rename_i h <;> first | simp only [if_pos h] | simp only [if_neg h] | skip)
noncomputable def rmul_c {α : Type} (ds : List D) (Q : SV → Hp → Option α) : Option α :=
  dB ds fun bad ds => dI ds fun a ds => dI ds fun b ds => dE ds (Q (SV.int .i64 (V.rmul_r0 bad a b)) ([.cells [SV.bool (V.rmul_r1 bad a b)] (nat_lit 68)]))
theorem rmul_c_ok {α : Type} : FnOk E.P 41 (fEnt (α := α) rmul_sp rmul_c) :=
  fEnt_ok E (look_rratio_ok) (exec_sound E E_ok (look_rratio_ok) (noLps_ok _) 400) fun ds Q r h => by
    unfold rmul_c at h
    obtain ⟨bad, ds, rfl, h1⟩ := dB_inv h
    obtain ⟨a, ds, rfl, h2⟩ := dI_inv h1
    obtain ⟨b, ds, rfl, h3⟩ := dI_inv h2
    obtain ⟨rfl, hE⟩ := dE_inv h3
    exact ⟨[SV.ptr (nat_lit 0) (nat_lit 0), SV.int .i64 a, SV.int .i64 b], [.cells [SV.bool bad] (nat_lit 68)], fun vs => by kernel_rfl, (rmul_eq bad a b Q).trans ((rmul_val bad a b (fun (x4 : Int) (x5 : Bool) => Q (SV.int .i64 x4) ([.cells [SV.bool x5] (nat_lit 68)]))).trans hE)⟩
noncomputable def rmul_go {α : Type} (ds : List D) (Q : SV → Hp → Option α) : Option α :=
  dB ds fun bad ds => dI ds fun a ds => dI ds fun b ds => dE ds (M.rmul bad a b (fun (x4 : Int) (x5 : Bool) => Q (SV.int .i64 x4) ([.cells [SV.bool x5] (nat_lit 68)])))
theorem rmul_ok {α : Type} : FnOk E.P 41 (fEnt (α := α) rmul_sp rmul_go) :=
  fEnt_ok E (look_rratio_ok) (exec_sound E E_ok (look_rratio_ok) (noLps_ok _) 400) fun ds Q r h => by
    unfold rmul_go at h
    obtain ⟨bad, ds, rfl, h1⟩ := dB_inv h
    obtain ⟨a, ds, rfl, h2⟩ := dI_inv h1
    obtain ⟨b, ds, rfl, h3⟩ := dI_inv h2
    obtain ⟨rfl, hE⟩ := dE_inv h3
    exact ⟨[SV.ptr (nat_lit 0) (nat_lit 0), SV.int .i64 a, SV.int .i64 b], [.cells [SV.bool bad] (nat_lit 68)], fun vs => by kernel_rfl, (rmul_eq bad a b Q).trans hE⟩
noncomputable def look_rmul {α : Type} : LookF α := addFn 41 (fEnt rmul_sp rmul_c) look_rratio
theorem look_rmul_ok {α : Type} : LookOk E.P (look_rmul (α := α)) := addFn_ok rmul_c_ok (look_rratio_ok)
end Go.Proofs.Ytkjellhkamfciaa.Sx
