/- The functions of fx and of its reference without loops: what they reckon. -/
import Derived.Test.YtkjellhkamfciaaSxEnv
namespace Go.Proofs.Ytkjellhkamfciaa.Sx
open Go
set_option maxRecDepth 20000
set_option linter.unusedVariables false
set_option linter.unusedSimpArgs false
noncomputable def _root_.Go.Proofs.Ytkjellhkamfciaa.M.none {α : Type} (bad : Bool) (k0 : Option α) : Option α :=
  k0
theorem none_eq {α : Type} (bad : Bool) (Q : SV → Hp → Option α) : callI E noFns (exec E noFns noLps 400) 64 ([SV.ptr (nat_lit 0) (nat_lit 0)]) ([.cells [SV.bool bad] (nat_lit 62)]) Q = M.none bad (Q (SV.int .i64 (0 : Int)) ([.cells [SV.bool true] (nat_lit 62)])) := by kernel_rfl
def none_sp : List AS := [.ptr 62 [.bool false]]
theorem none_val {α : Type} (bad : Bool) (k0 : Option α) : M.none bad k0 = k0 := by
  unfold M.none
  repeat' first | rfl | (split <;> rename_i h <;> first | simp only [if_pos h] | simp only [if_neg h] | skip)
noncomputable def none_c {α : Type} (ds : List D) (Q : SV → Hp → Option α) : Option α :=
  dB ds fun bad ds => dE ds (Q (SV.int .i64 (0 : Int)) ([.cells [SV.bool true] (nat_lit 62)]))
theorem none_c_ok {α : Type} : FnOk E.P 64 (fEnt (α := α) none_sp none_c) :=
  fEnt_ok E (noFns_ok _) (exec_sound E E_ok (noFns_ok _) (noLps_ok _) 400) fun ds Q r h => by
    unfold none_c at h
    obtain ⟨bad, ds, rfl, h1⟩ := dB_inv h
    obtain ⟨rfl, hE⟩ := dE_inv h1
    exact ⟨[SV.ptr (nat_lit 0) (nat_lit 0)], [.cells [SV.bool bad] (nat_lit 62)], fun vs => by kernel_rfl, (none_eq bad Q).trans ((none_val bad (Q (SV.int .i64 (0 : Int)) ([.cells [SV.bool true] (nat_lit 62)]))).trans hE)⟩
noncomputable def none_go {α : Type} (ds : List D) (Q : SV → Hp → Option α) : Option α :=
  dB ds fun bad ds => dE ds (M.none bad (Q (SV.int .i64 (0 : Int)) ([.cells [SV.bool true] (nat_lit 62)])))
theorem none_ok {α : Type} : FnOk E.P 64 (fEnt (α := α) none_sp none_go) :=
  fEnt_ok E (noFns_ok _) (exec_sound E E_ok (noFns_ok _) (noLps_ok _) 400) fun ds Q r h => by
    unfold none_go at h
    obtain ⟨bad, ds, rfl, h1⟩ := dB_inv h
    obtain ⟨rfl, hE⟩ := dE_inv h1
    exact ⟨[SV.ptr (nat_lit 0) (nat_lit 0)], [.cells [SV.bool bad] (nat_lit 62)], fun vs => by kernel_rfl, (none_eq bad Q).trans hE⟩
noncomputable def look_none {α : Type} : LookF α := addFn 64 (fEnt none_sp none_c) noFns
theorem look_none_ok {α : Type} : LookOk E.P (look_none (α := α)) := addFn_ok none_c_ok (noFns_ok _)
noncomputable def _root_.Go.Proofs.Ytkjellhkamfciaa.M.mul64 {α : Type} (x : Int) (y : Int) (k0 : Int → Int → Option α) : Option α :=
  k0
  (IntKind.wrap IntKind.u64
    (IntKind.wrap IntKind.u64 (IntKind.wrap IntKind.u64 (Int.fdiv x (4294967296 : Int) * Int.fdiv y (4294967296 : Int)) + Int.fdiv (IntKind.wrap IntKind.u64 (IntKind.wrap IntKind.u64 (Int.fdiv x (4294967296 : Int) * bandI IntKind.u64 y (4294967295 : Int)) + Int.fdiv (IntKind.wrap IntKind.u64 (bandI IntKind.u64 x (4294967295 : Int) * bandI IntKind.u64 y (4294967295 : Int))) (4294967296 : Int))) (4294967296 : Int)) +
      Int.fdiv (IntKind.wrap IntKind.u64 (bandI IntKind.u64 (IntKind.wrap IntKind.u64 (IntKind.wrap IntKind.u64 (Int.fdiv x (4294967296 : Int) * bandI IntKind.u64 y (4294967295 : Int)) + Int.fdiv (IntKind.wrap IntKind.u64 (bandI IntKind.u64 x (4294967295 : Int) * bandI IntKind.u64 y (4294967295 : Int))) (4294967296 : Int))) (4294967295 : Int) + IntKind.wrap IntKind.u64 (bandI IntKind.u64 x (4294967295 : Int) * Int.fdiv y (4294967296 : Int)))) (4294967296 : Int)))
  (IntKind.wrap IntKind.u64 (x * y))
theorem mul64_eq {α : Type} (x : Int) (y : Int) (Q : SV → Hp → Option α) : callI E look_none (exec E look_none noLps 400) 80 ([SV.int IntKind.u64 x, SV.int IntKind.u64 y]) ([]) Q = M.mul64 x y (fun (x0 : Int) (x1 : Int) => Q (SV.tup [SV.int IntKind.u64 x0, SV.int IntKind.u64 x1]) ([])) := by kernel_rfl
def mul64_sp : List AS := [.val (.int .u64 0), .val (.int .u64 0)]
noncomputable def _root_.Go.Proofs.Ytkjellhkamfciaa.V.mul64_r0 (x : Int) (y : Int) : Int :=
  IntKind.wrap IntKind.u64
  (IntKind.wrap IntKind.u64 (IntKind.wrap IntKind.u64 (Int.fdiv x (4294967296 : Int) * Int.fdiv y (4294967296 : Int)) + Int.fdiv (IntKind.wrap IntKind.u64 (IntKind.wrap IntKind.u64 (Int.fdiv x (4294967296 : Int) * bandI IntKind.u64 y (4294967295 : Int)) + Int.fdiv (IntKind.wrap IntKind.u64 (bandI IntKind.u64 x (4294967295 : Int) * bandI IntKind.u64 y (4294967295 : Int))) (4294967296 : Int))) (4294967296 : Int)) +
    Int.fdiv (IntKind.wrap IntKind.u64 (bandI IntKind.u64 (IntKind.wrap IntKind.u64 (IntKind.wrap IntKind.u64 (Int.fdiv x (4294967296 : Int) * bandI IntKind.u64 y (4294967295 : Int)) + Int.fdiv (IntKind.wrap IntKind.u64 (bandI IntKind.u64 x (4294967295 : Int) * bandI IntKind.u64 y (4294967295 : Int))) (4294967296 : Int))) (4294967295 : Int) + IntKind.wrap IntKind.u64 (bandI IntKind.u64 x (4294967295 : Int) * Int.fdiv y (4294967296 : Int)))) (4294967296 : Int))
noncomputable def _root_.Go.Proofs.Ytkjellhkamfciaa.V.mul64_r1 (x : Int) (y : Int) : Int :=
  IntKind.wrap IntKind.u64 (x * y)
theorem mul64_val {α : Type} (x : Int) (y : Int) (k0 : Int → Int → Option α) : M.mul64 x y k0 = k0 (V.mul64_r0 x y) (V.mul64_r1 x y) := by
  unfold M.mul64 V.mul64_r0 V.mul64_r1
  repeat' first | rfl | (split <;> rename_i h <;> first | simp only [if_pos h] | simp only [if_neg h] | skip)
noncomputable def mul64_c {α : Type} (ds : List D) (Q : SV → Hp → Option α) : Option α :=
  dI ds fun x ds => dI ds fun y ds => dE ds (Q (SV.tup [SV.int IntKind.u64 (V.mul64_r0 x y), SV.int IntKind.u64 (V.mul64_r1 x y)]) ([]))
theorem mul64_c_ok {α : Type} : FnOk E.P 80 (fEnt (α := α) mul64_sp mul64_c) :=
  fEnt_ok E (look_none_ok) (exec_sound E E_ok (look_none_ok) (noLps_ok _) 400) fun ds Q r h => by
    unfold mul64_c at h
    obtain ⟨x, ds, rfl, h1⟩ := dI_inv h
    obtain ⟨y, ds, rfl, h2⟩ := dI_inv h1
    obtain ⟨rfl, hE⟩ := dE_inv h2
    exact ⟨[SV.int IntKind.u64 x, SV.int IntKind.u64 y], [], fun vs => by kernel_rfl, (mul64_eq x y Q).trans ((mul64_val x y (fun (x0 : Int) (x1 : Int) => Q (SV.tup [SV.int IntKind.u64 x0, SV.int IntKind.u64 x1]) ([]))).trans hE)⟩
noncomputable def mul64_go {α : Type} (ds : List D) (Q : SV → Hp → Option α) : Option α :=
  dI ds fun x ds => dI ds fun y ds => dE ds (M.mul64 x y (fun (x0 : Int) (x1 : Int) => Q (SV.tup [SV.int IntKind.u64 x0, SV.int IntKind.u64 x1]) ([])))
theorem mul64_ok {α : Type} : FnOk E.P 80 (fEnt (α := α) mul64_sp mul64_go) :=
  fEnt_ok E (look_none_ok) (exec_sound E E_ok (look_none_ok) (noLps_ok _) 400) fun ds Q r h => by
    unfold mul64_go at h
    obtain ⟨x, ds, rfl, h1⟩ := dI_inv h
    obtain ⟨y, ds, rfl, h2⟩ := dI_inv h1
    obtain ⟨rfl, hE⟩ := dE_inv h2
    exact ⟨[SV.int IntKind.u64 x, SV.int IntKind.u64 y], [], fun vs => by kernel_rfl, (mul64_eq x y Q).trans hE⟩
noncomputable def look_mul64 {α : Type} : LookF α := addFn 80 (fEnt mul64_sp mul64_c) look_none
theorem look_mul64_ok {α : Type} : LookOk E.P (look_mul64 (α := α)) := addFn_ok mul64_c_ok (look_none_ok)
noncomputable def _root_.Go.Proofs.Ytkjellhkamfciaa.M.times {α : Type} (a : Int) (b : Int) (k0 : Int → Int → Option α) : Option α :=
  if cLt a (0 : Int) = true then
  if cLt b (0 : Int) = true then k0 (IntKind.wrap IntKind.u64 (IntKind.wrap IntKind.u64 (V.mul64_r0 (IntKind.wrap IntKind.u64 a) (IntKind.wrap IntKind.u64 b) - IntKind.wrap IntKind.u64 b) - IntKind.wrap IntKind.u64 a)) (V.mul64_r1 (IntKind.wrap IntKind.u64 a) (IntKind.wrap IntKind.u64 b)) else k0 (IntKind.wrap IntKind.u64 (V.mul64_r0 (IntKind.wrap IntKind.u64 a) (IntKind.wrap IntKind.u64 b) - IntKind.wrap IntKind.u64 b)) (V.mul64_r1 (IntKind.wrap IntKind.u64 a) (IntKind.wrap IntKind.u64 b))
else if cLt b (0 : Int) = true then k0 (IntKind.wrap IntKind.u64 (V.mul64_r0 (IntKind.wrap IntKind.u64 a) (IntKind.wrap IntKind.u64 b) - IntKind.wrap IntKind.u64 a)) (V.mul64_r1 (IntKind.wrap IntKind.u64 a) (IntKind.wrap IntKind.u64 b)) else k0 (V.mul64_r0 (IntKind.wrap IntKind.u64 a) (IntKind.wrap IntKind.u64 b)) (V.mul64_r1 (IntKind.wrap IntKind.u64 a) (IntKind.wrap IntKind.u64 b))
theorem times_eq {α : Type} (a : Int) (b : Int) (Q : SV → Hp → Option α) : callI E look_mul64 (exec E look_mul64 noLps 400) 66 ([SV.int .i64 a, SV.int .i64 b]) ([]) Q = M.times a b (fun (x2 : Int) (x3 : Int) => Q (SV.agg [SV.int IntKind.u64 x2, SV.int IntKind.u64 x3]) ([])) := by kernel_rfl
def times_sp : List AS := [.val (.int .i64 0), .val (.int .i64 0)]
noncomputable def _root_.Go.Proofs.Ytkjellhkamfciaa.V.times_r0 (a : Int) (b : Int) : Int :=
  if cLt a (0 : Int) = true then if cLt b (0 : Int) = true then IntKind.wrap IntKind.u64 (IntKind.wrap IntKind.u64 (V.mul64_r0 (IntKind.wrap IntKind.u64 a) (IntKind.wrap IntKind.u64 b) - IntKind.wrap IntKind.u64 b) - IntKind.wrap IntKind.u64 a) else IntKind.wrap IntKind.u64 (V.mul64_r0 (IntKind.wrap IntKind.u64 a) (IntKind.wrap IntKind.u64 b) - IntKind.wrap IntKind.u64 b)
else if cLt b (0 : Int) = true then IntKind.wrap IntKind.u64 (V.mul64_r0 (IntKind.wrap IntKind.u64 a) (IntKind.wrap IntKind.u64 b) - IntKind.wrap IntKind.u64 a) else V.mul64_r0 (IntKind.wrap IntKind.u64 a) (IntKind.wrap IntKind.u64 b)
noncomputable def _root_.Go.Proofs.Ytkjellhkamfciaa.V.times_r1 (a : Int) (b : Int) : Int :=
  if cLt a (0 : Int) = true then if cLt b (0 : Int) = true then V.mul64_r1 (IntKind.wrap IntKind.u64 a) (IntKind.wrap IntKind.u64 b) else V.mul64_r1 (IntKind.wrap IntKind.u64 a) (IntKind.wrap IntKind.u64 b) else if cLt b (0 : Int) = true then V.mul64_r1 (IntKind.wrap IntKind.u64 a) (IntKind.wrap IntKind.u64 b) else V.mul64_r1 (IntKind.wrap IntKind.u64 a) (IntKind.wrap IntKind.u64 b)
theorem times_val {α : Type} (a : Int) (b : Int) (k0 : Int → Int → Option α) : M.times a b k0 = k0 (V.times_r0 a b) (V.times_r1 a b) := by
  unfold M.times V.times_r0 V.times_r1
  repeat' first | rfl | (split <;> rename_i h <;> first | simp only [if_pos h] | simp only [if_neg h] | skip)
noncomputable def times_c {α : Type} (ds : List D) (Q : SV → Hp → Option α) : Option α :=
  dI ds fun a ds => dI ds fun b ds => dE ds (Q (SV.agg [SV.int IntKind.u64 (V.times_r0 a b), SV.int IntKind.u64 (V.times_r1 a b)]) ([]))
theorem times_c_ok {α : Type} : FnOk E.P 66 (fEnt (α := α) times_sp times_c) :=
  fEnt_ok E (look_mul64_ok) (exec_sound E E_ok (look_mul64_ok) (noLps_ok _) 400) fun ds Q r h => by
    unfold times_c at h
    obtain ⟨a, ds, rfl, h1⟩ := dI_inv h
    obtain ⟨b, ds, rfl, h2⟩ := dI_inv h1
    obtain ⟨rfl, hE⟩ := dE_inv h2
    exact ⟨[SV.int .i64 a, SV.int .i64 b], [], fun vs => by kernel_rfl, (times_eq a b Q).trans ((times_val a b (fun (x2 : Int) (x3 : Int) => Q (SV.agg [SV.int IntKind.u64 x2, SV.int IntKind.u64 x3]) ([]))).trans hE)⟩
noncomputable def times_go {α : Type} (ds : List D) (Q : SV → Hp → Option α) : Option α :=
  dI ds fun a ds => dI ds fun b ds => dE ds (M.times a b (fun (x2 : Int) (x3 : Int) => Q (SV.agg [SV.int IntKind.u64 x2, SV.int IntKind.u64 x3]) ([])))
theorem times_ok {α : Type} : FnOk E.P 66 (fEnt (α := α) times_sp times_go) :=
  fEnt_ok E (look_mul64_ok) (exec_sound E E_ok (look_mul64_ok) (noLps_ok _) 400) fun ds Q r h => by
    unfold times_go at h
    obtain ⟨a, ds, rfl, h1⟩ := dI_inv h
    obtain ⟨b, ds, rfl, h2⟩ := dI_inv h1
    obtain ⟨rfl, hE⟩ := dE_inv h2
    exact ⟨[SV.int .i64 a, SV.int .i64 b], [], fun vs => by kernel_rfl, (times_eq a b Q).trans hE⟩
noncomputable def look_times {α : Type} : LookF α := addFn 66 (fEnt times_sp times_c) look_mul64
theorem look_times_ok {α : Type} : LookOk E.P (look_times (α := α)) := addFn_ok times_c_ok (look_mul64_ok)
noncomputable def _root_.Go.Proofs.Ytkjellhkamfciaa.M.neg {α : Type} (hi : Int) (lo : Int) (k0 : Bool → Option α) : Option α :=
  k0 (cEq (Int.fdiv hi (9223372036854775808 : Int)) (1 : Int))
theorem neg_eq {α : Type} (hi : Int) (lo : Int) (Q : SV → Hp → Option α) : callI E look_times (exec E look_times noLps 400) 68 ([SV.agg [SV.int IntKind.u64 hi, SV.int IntKind.u64 lo]]) ([]) Q = M.neg hi lo (fun (x4 : Bool) => Q (SV.bool x4) ([])) := by kernel_rfl
def neg_sp : List AS := [.val (.agg [.int .u64 0, .int .u64 0])]
noncomputable def _root_.Go.Proofs.Ytkjellhkamfciaa.V.neg_r0 (hi : Int) (lo : Int) : Bool :=
  cEq (Int.fdiv hi (9223372036854775808 : Int)) (1 : Int)
theorem neg_val {α : Type} (hi : Int) (lo : Int) (k0 : Bool → Option α) : M.neg hi lo k0 = k0 (V.neg_r0 hi lo) := by
  unfold M.neg V.neg_r0
  repeat' first | rfl | (split <;> rename_i h <;> first | simp only [if_pos h] | simp only [if_neg h] | skip)
noncomputable def neg_c {α : Type} (ds : List D) (Q : SV → Hp → Option α) : Option α :=
  dI ds fun hi ds => dI ds fun lo ds => dE ds (Q (SV.bool (V.neg_r0 hi lo)) ([]))
theorem neg_c_ok {α : Type} : FnOk E.P 68 (fEnt (α := α) neg_sp neg_c) :=
  fEnt_ok E (look_times_ok) (exec_sound E E_ok (look_times_ok) (noLps_ok _) 400) fun ds Q r h => by
    unfold neg_c at h
    obtain ⟨hi, ds, rfl, h1⟩ := dI_inv h
    obtain ⟨lo, ds, rfl, h2⟩ := dI_inv h1
    obtain ⟨rfl, hE⟩ := dE_inv h2
    exact ⟨[SV.agg [SV.int IntKind.u64 hi, SV.int IntKind.u64 lo]], [], fun vs => by kernel_rfl, (neg_eq hi lo Q).trans ((neg_val hi lo (fun (x4 : Bool) => Q (SV.bool x4) ([]))).trans hE)⟩
noncomputable def neg_go {α : Type} (ds : List D) (Q : SV → Hp → Option α) : Option α :=
  dI ds fun hi ds => dI ds fun lo ds => dE ds (M.neg hi lo (fun (x4 : Bool) => Q (SV.bool x4) ([])))
theorem neg_ok {α : Type} : FnOk E.P 68 (fEnt (α := α) neg_sp neg_go) :=
  fEnt_ok E (look_times_ok) (exec_sound E E_ok (look_times_ok) (noLps_ok _) 400) fun ds Q r h => by
    unfold neg_go at h
    obtain ⟨hi, ds, rfl, h1⟩ := dI_inv h
    obtain ⟨lo, ds, rfl, h2⟩ := dI_inv h1
    obtain ⟨rfl, hE⟩ := dE_inv h2
    exact ⟨[SV.agg [SV.int IntKind.u64 hi, SV.int IntKind.u64 lo]], [], fun vs => by kernel_rfl, (neg_eq hi lo Q).trans hE⟩
noncomputable def look_neg {α : Type} : LookF α := addFn 68 (fEnt neg_sp neg_c) look_times
theorem look_neg_ok {α : Type} : LookOk E.P (look_neg (α := α)) := addFn_ok neg_c_ok (look_times_ok)
noncomputable def _root_.Go.Proofs.Ytkjellhkamfciaa.M.minus {α : Type} (hi : Int) (lo : Int) (k0 : Int → Int → Option α) : Option α :=
  if Int.toNat (Int.ofNat (if (0 : Nat) < Int.toNat lo + (0 : Nat) then (1 : Nat) else (0 : Nat))) > (1 : Nat) then none else k0 (Int.ofNat (((18446744073709551616 : Nat) - Int.toNat hi - Int.toNat (Int.ofNat (if (0 : Nat) < Int.toNat lo + (0 : Nat) then (1 : Nat) else (0 : Nat)))) % (18446744073709551616 : Nat))) (Int.ofNat (((18446744073709551616 : Nat) - Int.toNat lo - (0 : Nat)) % (18446744073709551616 : Nat)))
theorem minus_eq {α : Type} (hi : Int) (lo : Int) (Q : SV → Hp → Option α) : callI E look_neg (exec E look_neg noLps 400) 67 ([SV.agg [SV.int IntKind.u64 hi, SV.int IntKind.u64 lo]]) ([]) Q = M.minus hi lo (fun (x5 : Int) (x6 : Int) => Q (SV.agg [SV.int IntKind.u64 x5, SV.int IntKind.u64 x6]) ([])) := by kernel_rfl
def minus_sp : List AS := [.val (.agg [.int .u64 0, .int .u64 0])]
noncomputable def _root_.Go.Proofs.Ytkjellhkamfciaa.V.minus_g (hi : Int) (lo : Int) : Bool :=
  if Int.toNat (Int.ofNat (if (0 : Nat) < Int.toNat lo + (0 : Nat) then (1 : Nat) else (0 : Nat))) > (1 : Nat) then false else true
noncomputable def _root_.Go.Proofs.Ytkjellhkamfciaa.V.minus_r0 (hi : Int) (lo : Int) : Int :=
  if Int.toNat (Int.ofNat (if (0 : Nat) < Int.toNat lo + (0 : Nat) then (1 : Nat) else (0 : Nat))) > (1 : Nat) then (0 : Int) else Int.ofNat (((18446744073709551616 : Nat) - Int.toNat hi - Int.toNat (Int.ofNat (if (0 : Nat) < Int.toNat lo + (0 : Nat) then (1 : Nat) else (0 : Nat)))) % (18446744073709551616 : Nat))
noncomputable def _root_.Go.Proofs.Ytkjellhkamfciaa.V.minus_r1 (hi : Int) (lo : Int) : Int :=
  if Int.toNat (Int.ofNat (if (0 : Nat) < Int.toNat lo + (0 : Nat) then (1 : Nat) else (0 : Nat))) > (1 : Nat) then (0 : Int) else Int.ofNat (((18446744073709551616 : Nat) - Int.toNat lo - (0 : Nat)) % (18446744073709551616 : Nat))
theorem minus_val {α : Type} (hi : Int) (lo : Int) (k0 : Int → Int → Option α) : M.minus hi lo k0 = if V.minus_g hi lo = true then k0 (V.minus_r0 hi lo) (V.minus_r1 hi lo) else none := by
  unfold M.minus V.minus_g V.minus_r0 V.minus_r1
  repeat' first | rfl | (split <;> rename_i h <;> first | simp only [if_pos h] | simp only [if_neg h] | skip)
noncomputable def minus_c {α : Type} (ds : List D) (Q : SV → Hp → Option α) : Option α :=
  dI ds fun hi ds => dI ds fun lo ds => dE ds (if V.minus_g hi lo = true then Q (SV.agg [SV.int IntKind.u64 (V.minus_r0 hi lo), SV.int IntKind.u64 (V.minus_r1 hi lo)]) ([]) else none)
theorem minus_c_ok {α : Type} : FnOk E.P 67 (fEnt (α := α) minus_sp minus_c) :=
  fEnt_ok E (look_neg_ok) (exec_sound E E_ok (look_neg_ok) (noLps_ok _) 400) fun ds Q r h => by
    unfold minus_c at h
    obtain ⟨hi, ds, rfl, h1⟩ := dI_inv h
    obtain ⟨lo, ds, rfl, h2⟩ := dI_inv h1
    obtain ⟨rfl, hE⟩ := dE_inv h2
    exact ⟨[SV.agg [SV.int IntKind.u64 hi, SV.int IntKind.u64 lo]], [], fun vs => by kernel_rfl, (minus_eq hi lo Q).trans ((minus_val hi lo (fun (x5 : Int) (x6 : Int) => Q (SV.agg [SV.int IntKind.u64 x5, SV.int IntKind.u64 x6]) ([]))).trans hE)⟩
noncomputable def minus_go {α : Type} (ds : List D) (Q : SV → Hp → Option α) : Option α :=
  dI ds fun hi ds => dI ds fun lo ds => dE ds (M.minus hi lo (fun (x5 : Int) (x6 : Int) => Q (SV.agg [SV.int IntKind.u64 x5, SV.int IntKind.u64 x6]) ([])))
theorem minus_ok {α : Type} : FnOk E.P 67 (fEnt (α := α) minus_sp minus_go) :=
  fEnt_ok E (look_neg_ok) (exec_sound E E_ok (look_neg_ok) (noLps_ok _) 400) fun ds Q r h => by
    unfold minus_go at h
    obtain ⟨hi, ds, rfl, h1⟩ := dI_inv h
    obtain ⟨lo, ds, rfl, h2⟩ := dI_inv h1
    obtain ⟨rfl, hE⟩ := dE_inv h2
    exact ⟨[SV.agg [SV.int IntKind.u64 hi, SV.int IntKind.u64 lo]], [], fun vs => by kernel_rfl, (minus_eq hi lo Q).trans hE⟩
noncomputable def look_minus {α : Type} : LookF α := addFn 67 (fEnt minus_sp minus_c) look_neg
theorem look_minus_ok {α : Type} : LookOk E.P (look_minus (α := α)) := addFn_ok minus_c_ok (look_neg_ok)
noncomputable def _root_.Go.Proofs.Ytkjellhkamfciaa.M.tells {α : Type} (bad : Bool) (n : Int) (ok : Bool) (k0 : Int → Bool → Option α) : Option α :=
  if (!ok) = true then k0 (0 : Int) true else if cLt n (-4611686018427387903 : Int) = true then k0 (0 : Int) true else if cLt (4611686018427387903 : Int) n = true then k0 (0 : Int) true else k0 n bad
theorem tells_eq {α : Type} (bad : Bool) (n : Int) (ok : Bool) (Q : SV → Hp → Option α) : callI E look_minus (exec E look_minus noLps 400) 72 ([SV.ptr (nat_lit 0) (nat_lit 0), SV.int .i64 n, SV.bool ok]) ([.cells [SV.bool bad] (nat_lit 68)]) Q = M.tells bad n ok (fun (x7 : Int) (x8 : Bool) => Q (SV.int .i64 x7) ([.cells [SV.bool x8] (nat_lit 68)])) := by kernel_rfl
def tells_sp : List AS := [.ptr 68 [.bool false], .val (.int .i64 0), .val (.bool false)]
noncomputable def _root_.Go.Proofs.Ytkjellhkamfciaa.V.tells_r0 (bad : Bool) (n : Int) (ok : Bool) : Int :=
  if (!ok) = true then (0 : Int) else if cLt n (-4611686018427387903 : Int) = true then (0 : Int) else if cLt (4611686018427387903 : Int) n = true then (0 : Int) else n
noncomputable def _root_.Go.Proofs.Ytkjellhkamfciaa.V.tells_r1 (bad : Bool) (n : Int) (ok : Bool) : Bool :=
  if (!ok) = true then true else if cLt n (-4611686018427387903 : Int) = true then true else if cLt (4611686018427387903 : Int) n = true then true else bad
theorem tells_val {α : Type} (bad : Bool) (n : Int) (ok : Bool) (k0 : Int → Bool → Option α) : M.tells bad n ok k0 = k0 (V.tells_r0 bad n ok) (V.tells_r1 bad n ok) := by
  unfold M.tells V.tells_r0 V.tells_r1
  repeat' first | rfl | (split <;> rename_i h <;> first | simp only [if_pos h] | simp only [if_neg h] | skip)
noncomputable def tells_c {α : Type} (ds : List D) (Q : SV → Hp → Option α) : Option α :=
  dB ds fun bad ds => dI ds fun n ds => dB ds fun ok ds => dE ds (Q (SV.int .i64 (V.tells_r0 bad n ok)) ([.cells [SV.bool (V.tells_r1 bad n ok)] (nat_lit 68)]))
theorem tells_c_ok {α : Type} : FnOk E.P 72 (fEnt (α := α) tells_sp tells_c) :=
  fEnt_ok E (look_minus_ok) (exec_sound E E_ok (look_minus_ok) (noLps_ok _) 400) fun ds Q r h => by
    unfold tells_c at h
    obtain ⟨bad, ds, rfl, h1⟩ := dB_inv h
    obtain ⟨n, ds, rfl, h2⟩ := dI_inv h1
    obtain ⟨ok, ds, rfl, h3⟩ := dB_inv h2
    obtain ⟨rfl, hE⟩ := dE_inv h3
    exact ⟨[SV.ptr (nat_lit 0) (nat_lit 0), SV.int .i64 n, SV.bool ok], [.cells [SV.bool bad] (nat_lit 68)], fun vs => by kernel_rfl, (tells_eq bad n ok Q).trans ((tells_val bad n ok (fun (x7 : Int) (x8 : Bool) => Q (SV.int .i64 x7) ([.cells [SV.bool x8] (nat_lit 68)]))).trans hE)⟩
noncomputable def tells_go {α : Type} (ds : List D) (Q : SV → Hp → Option α) : Option α :=
  dB ds fun bad ds => dI ds fun n ds => dB ds fun ok ds => dE ds (M.tells bad n ok (fun (x7 : Int) (x8 : Bool) => Q (SV.int .i64 x7) ([.cells [SV.bool x8] (nat_lit 68)])))
theorem tells_ok {α : Type} : FnOk E.P 72 (fEnt (α := α) tells_sp tells_go) :=
  fEnt_ok E (look_minus_ok) (exec_sound E E_ok (look_minus_ok) (noLps_ok _) 400) fun ds Q r h => by
    unfold tells_go at h
    obtain ⟨bad, ds, rfl, h1⟩ := dB_inv h
    obtain ⟨n, ds, rfl, h2⟩ := dI_inv h1
    obtain ⟨ok, ds, rfl, h3⟩ := dB_inv h2
    obtain ⟨rfl, hE⟩ := dE_inv h3
    exact ⟨[SV.ptr (nat_lit 0) (nat_lit 0), SV.int .i64 n, SV.bool ok], [.cells [SV.bool bad] (nat_lit 68)], fun vs => by kernel_rfl, (tells_eq bad n ok Q).trans hE⟩
noncomputable def look_tells {α : Type} : LookF α := addFn 72 (fEnt tells_sp tells_c) look_minus
theorem look_tells_ok {α : Type} : LookOk E.P (look_tells (α := α)) := addFn_ok tells_c_ok (look_minus_ok)
end Go.Proofs.Ytkjellhkamfciaa.Sx
