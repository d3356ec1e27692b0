/- The functions of fx and of its reference without loops: what they reckon. -/
import Derived.Test.YtmcifgaaojgheaaSxEnv
namespace Go.Proofs.Ytmcifgaaojgheaa.Sx
open Go
set_option maxRecDepth 20000
set_option linter.unusedVariables false
set_option linter.unusedSimpArgs false
noncomputable def _root_.Go.Proofs.Ytmcifgaaojgheaa.M.none {α : Type} (bad : Bool) (k0 : Option α) : Option α :=
  k0
theorem none_eq {α : Type} (bad : Bool) (Q : SV → Hp → Option α) : callI E noFns (exec E noFns noLps 400) 56 ([SV.ptr (nat_lit 0) (nat_lit 0)]) ([SObj.cells [SV.bool bad] (nat_lit 27)]) Q = Go.Proofs.Ytmcifgaaojgheaa.M.none bad (Q (SV.int IntKind.i64 (0 : Int)) ([SObj.cells [SV.bool true] (nat_lit 27)])) := by kernel_rfl
def none_sp : List AS := [.ptr 27 [.bool false]]
theorem none_val {α : Type} (bad : Bool) (k0 : Option α) : Go.Proofs.Ytmcifgaaojgheaa.M.none bad k0 = k0 := by
  unfold Go.Proofs.Ytmcifgaaojgheaa.M.none
  repeat' first | rfl | (split <;> rename_i h <;> first | simp only [if_pos h] | simp only [if_neg h] | skip)
noncomputable def none_c {α : Type} (ds : List D) (Q : SV → Hp → Option α) : Option α :=
  dB ds fun bad ds => dE ds (Q (SV.int IntKind.i64 (0 : Int)) ([SObj.cells [SV.bool true] (nat_lit 27)]))
theorem none_c_ok {α : Type} : FnOk E.P 56 (fEnt (α := α) none_sp none_c) :=
  fEnt_ok E (noFns_ok _) (exec_sound E E_ok (noFns_ok _) (noLps_ok _) 400) fun ds Q r h => by
    unfold none_c at h
    obtain ⟨bad, ds, rfl, h1⟩ := dB_inv h
    obtain ⟨rfl, hE⟩ := dE_inv h1
    exact ⟨[SV.ptr (nat_lit 0) (nat_lit 0)], [SObj.cells [SV.bool bad] (nat_lit 27)], fun vs => by kernel_rfl, (none_eq bad Q).trans ((none_val bad (Q (SV.int IntKind.i64 (0 : Int)) ([SObj.cells [SV.bool true] (nat_lit 27)]))).trans hE)⟩
noncomputable def none_go {α : Type} (ds : List D) (Q : SV → Hp → Option α) : Option α :=
  dB ds fun bad ds => dE ds (Go.Proofs.Ytmcifgaaojgheaa.M.none bad (Q (SV.int IntKind.i64 (0 : Int)) ([SObj.cells [SV.bool true] (nat_lit 27)])))
theorem none_ok {α : Type} : FnOk E.P 56 (fEnt (α := α) none_sp none_go) :=
  fEnt_ok E (noFns_ok _) (exec_sound E E_ok (noFns_ok _) (noLps_ok _) 400) fun ds Q r h => by
    unfold none_go at h
    obtain ⟨bad, ds, rfl, h1⟩ := dB_inv h
    obtain ⟨rfl, hE⟩ := dE_inv h1
    exact ⟨[SV.ptr (nat_lit 0) (nat_lit 0)], [SObj.cells [SV.bool bad] (nat_lit 27)], fun vs => by kernel_rfl, (none_eq bad Q).trans hE⟩
noncomputable def look_none {α : Type} : LookF α := addFn 56 (fEnt none_sp none_c) noFns
theorem look_none_ok {α : Type} : LookOk E.P (look_none (α := α)) := addFn_ok none_c_ok (noFns_ok _)
noncomputable def _root_.Go.Proofs.Ytmcifgaaojgheaa.M.mul64 {α : Type} (x : Int) (y : Int) (k0 : Int → Int → Option α) : Option α :=
  k0
  (IntKind.wrap IntKind.u64
    (IntKind.wrap IntKind.u64
        (IntKind.wrap IntKind.u64 (Int.fdiv x (4294967296 : Int) * Int.fdiv y (4294967296 : Int)) +
          Int.fdiv
            (IntKind.wrap IntKind.u64
              (IntKind.wrap IntKind.u64 (Int.fdiv x (4294967296 : Int) * bandI IntKind.u64 y (4294967295 : Int)) +
                Int.fdiv (IntKind.wrap IntKind.u64 (bandI IntKind.u64 x (4294967295 : Int) * bandI IntKind.u64 y (4294967295 : Int))) (4294967296 : Int)))
            (4294967296 : Int)) +
      Int.fdiv
        (IntKind.wrap IntKind.u64
          (bandI IntKind.u64
              (IntKind.wrap IntKind.u64
                (IntKind.wrap IntKind.u64 (Int.fdiv x (4294967296 : Int) * bandI IntKind.u64 y (4294967295 : Int)) +
                  Int.fdiv (IntKind.wrap IntKind.u64 (bandI IntKind.u64 x (4294967295 : Int) * bandI IntKind.u64 y (4294967295 : Int))) (4294967296 : Int)))
              (4294967295 : Int) +
            IntKind.wrap IntKind.u64 (bandI IntKind.u64 x (4294967295 : Int) * Int.fdiv y (4294967296 : Int))))
        (4294967296 : Int)))
  (IntKind.wrap IntKind.u64 (x * y))
theorem mul64_eq {α : Type} (x : Int) (y : Int) (Q : SV → Hp → Option α) : callI E look_none (exec E look_none noLps 400) 79 ([SV.int IntKind.u64 x, SV.int IntKind.u64 y]) ([]) Q = Go.Proofs.Ytmcifgaaojgheaa.M.mul64 x y (fun (x0 : Int) (x1 : Int) => Q (SV.tup [SV.int IntKind.u64 x0, SV.int IntKind.u64 x1]) ([])) := by kernel_rfl
def mul64_sp : List AS := [.val (.int .u64 0), .val (.int .u64 0)]
noncomputable def _root_.Go.Proofs.Ytmcifgaaojgheaa.V.mul64_r0 (x : Int) (y : Int) : Int :=
  IntKind.wrap IntKind.u64
  (IntKind.wrap IntKind.u64
      (IntKind.wrap IntKind.u64 (Int.fdiv x (4294967296 : Int) * Int.fdiv y (4294967296 : Int)) +
        Int.fdiv
          (IntKind.wrap IntKind.u64
            (IntKind.wrap IntKind.u64 (Int.fdiv x (4294967296 : Int) * bandI IntKind.u64 y (4294967295 : Int)) +
              Int.fdiv (IntKind.wrap IntKind.u64 (bandI IntKind.u64 x (4294967295 : Int) * bandI IntKind.u64 y (4294967295 : Int))) (4294967296 : Int)))
          (4294967296 : Int)) +
    Int.fdiv
      (IntKind.wrap IntKind.u64
        (bandI IntKind.u64
            (IntKind.wrap IntKind.u64
              (IntKind.wrap IntKind.u64 (Int.fdiv x (4294967296 : Int) * bandI IntKind.u64 y (4294967295 : Int)) +
                Int.fdiv (IntKind.wrap IntKind.u64 (bandI IntKind.u64 x (4294967295 : Int) * bandI IntKind.u64 y (4294967295 : Int))) (4294967296 : Int)))
            (4294967295 : Int) +
          IntKind.wrap IntKind.u64 (bandI IntKind.u64 x (4294967295 : Int) * Int.fdiv y (4294967296 : Int))))
      (4294967296 : Int))
noncomputable def _root_.Go.Proofs.Ytmcifgaaojgheaa.V.mul64_r1 (x : Int) (y : Int) : Int :=
  IntKind.wrap IntKind.u64 (x * y)
theorem mul64_val {α : Type} (x : Int) (y : Int) (k0 : Int → Int → Option α) : Go.Proofs.Ytmcifgaaojgheaa.M.mul64 x y k0 = k0 (Go.Proofs.Ytmcifgaaojgheaa.V.mul64_r0 x y) (Go.Proofs.Ytmcifgaaojgheaa.V.mul64_r1 x y) := by
  unfold Go.Proofs.Ytmcifgaaojgheaa.M.mul64 Go.Proofs.Ytmcifgaaojgheaa.V.mul64_r0 Go.Proofs.Ytmcifgaaojgheaa.V.mul64_r1
  repeat' first | rfl | (split <;> rename_i h <;> first | simp only [if_pos h] | simp only [if_neg h] | skip)
noncomputable def mul64_c {α : Type} (ds : List D) (Q : SV → Hp → Option α) : Option α :=
  dI ds fun x ds => dI ds fun y ds => dE ds (Q (SV.tup [SV.int IntKind.u64 (Go.Proofs.Ytmcifgaaojgheaa.V.mul64_r0 x y), SV.int IntKind.u64 (Go.Proofs.Ytmcifgaaojgheaa.V.mul64_r1 x y)]) ([]))
theorem mul64_c_ok {α : Type} : FnOk E.P 79 (fEnt (α := α) mul64_sp mul64_c) :=
  fEnt_ok E (look_none_ok) (exec_sound E E_ok (look_none_ok) (noLps_ok _) 400) fun ds Q r h => by
    unfold mul64_c at h
    obtain ⟨x, ds, rfl, h1⟩ := dI_inv h
    obtain ⟨y, ds, rfl, h2⟩ := dI_inv h1
    obtain ⟨rfl, hE⟩ := dE_inv h2
    exact ⟨[SV.int IntKind.u64 x, SV.int IntKind.u64 y], [], fun vs => by kernel_rfl, (mul64_eq x y Q).trans ((mul64_val x y (fun (x0 : Int) (x1 : Int) => Q (SV.tup [SV.int IntKind.u64 x0, SV.int IntKind.u64 x1]) ([]))).trans hE)⟩
noncomputable def mul64_go {α : Type} (ds : List D) (Q : SV → Hp → Option α) : Option α :=
  dI ds fun x ds => dI ds fun y ds => dE ds (Go.Proofs.Ytmcifgaaojgheaa.M.mul64 x y (fun (x0 : Int) (x1 : Int) => Q (SV.tup [SV.int IntKind.u64 x0, SV.int IntKind.u64 x1]) ([])))
theorem mul64_ok {α : Type} : FnOk E.P 79 (fEnt (α := α) mul64_sp mul64_go) :=
  fEnt_ok E (look_none_ok) (exec_sound E E_ok (look_none_ok) (noLps_ok _) 400) fun ds Q r h => by
    unfold mul64_go at h
    obtain ⟨x, ds, rfl, h1⟩ := dI_inv h
    obtain ⟨y, ds, rfl, h2⟩ := dI_inv h1
    obtain ⟨rfl, hE⟩ := dE_inv h2
    exact ⟨[SV.int IntKind.u64 x, SV.int IntKind.u64 y], [], fun vs => by kernel_rfl, (mul64_eq x y Q).trans hE⟩
noncomputable def look_mul64 {α : Type} : LookF α := addFn 79 (fEnt mul64_sp mul64_c) look_none
theorem look_mul64_ok {α : Type} : LookOk E.P (look_mul64 (α := α)) := addFn_ok mul64_c_ok (look_none_ok)
noncomputable def _root_.Go.Proofs.Ytmcifgaaojgheaa.M.times {α : Type} (a : Int) (b : Int) (k0 : Int → Int → Option α) : Option α :=
  if cLt a (0 : Int) = true then
  if cLt b (0 : Int) = true then
    k0
      (IntKind.wrap IntKind.u64
        (IntKind.wrap IntKind.u64 (V.mul64_r0 (IntKind.wrap IntKind.u64 a) (IntKind.wrap IntKind.u64 b) - IntKind.wrap IntKind.u64 b) - IntKind.wrap IntKind.u64 a))
      (V.mul64_r1 (IntKind.wrap IntKind.u64 a) (IntKind.wrap IntKind.u64 b))
  else
    k0 (IntKind.wrap IntKind.u64 (V.mul64_r0 (IntKind.wrap IntKind.u64 a) (IntKind.wrap IntKind.u64 b) - IntKind.wrap IntKind.u64 b))
      (V.mul64_r1 (IntKind.wrap IntKind.u64 a) (IntKind.wrap IntKind.u64 b))
else
  if cLt b (0 : Int) = true then
    k0 (IntKind.wrap IntKind.u64 (V.mul64_r0 (IntKind.wrap IntKind.u64 a) (IntKind.wrap IntKind.u64 b) - IntKind.wrap IntKind.u64 a))
      (V.mul64_r1 (IntKind.wrap IntKind.u64 a) (IntKind.wrap IntKind.u64 b))
  else k0 (V.mul64_r0 (IntKind.wrap IntKind.u64 a) (IntKind.wrap IntKind.u64 b)) (V.mul64_r1 (IntKind.wrap IntKind.u64 a) (IntKind.wrap IntKind.u64 b))
theorem times_eq {α : Type} (a : Int) (b : Int) (Q : SV → Hp → Option α) : callI E look_mul64 (exec E look_mul64 noLps 400) 81 ([SV.int IntKind.i64 a, SV.int IntKind.i64 b]) ([]) Q = Go.Proofs.Ytmcifgaaojgheaa.M.times a b (fun (x2 : Int) (x3 : Int) => Q (SV.agg [SV.int IntKind.u64 x2, SV.int IntKind.u64 x3]) ([])) := by kernel_rfl
def times_sp : List AS := [.val (.int .i64 0), .val (.int .i64 0)]
noncomputable def _root_.Go.Proofs.Ytmcifgaaojgheaa.V.times_r0 (a : Int) (b : Int) : Int :=
  if cLt a (0 : Int) = true then
  if cLt b (0 : Int) = true then
    IntKind.wrap IntKind.u64
      (IntKind.wrap IntKind.u64 (V.mul64_r0 (IntKind.wrap IntKind.u64 a) (IntKind.wrap IntKind.u64 b) - IntKind.wrap IntKind.u64 b) - IntKind.wrap IntKind.u64 a)
  else IntKind.wrap IntKind.u64 (V.mul64_r0 (IntKind.wrap IntKind.u64 a) (IntKind.wrap IntKind.u64 b) - IntKind.wrap IntKind.u64 b)
else
  if cLt b (0 : Int) = true then IntKind.wrap IntKind.u64 (V.mul64_r0 (IntKind.wrap IntKind.u64 a) (IntKind.wrap IntKind.u64 b) - IntKind.wrap IntKind.u64 a)
  else V.mul64_r0 (IntKind.wrap IntKind.u64 a) (IntKind.wrap IntKind.u64 b)
noncomputable def _root_.Go.Proofs.Ytmcifgaaojgheaa.V.times_r1 (a : Int) (b : Int) : Int :=
  if cLt a (0 : Int) = true then
  if cLt b (0 : Int) = true then V.mul64_r1 (IntKind.wrap IntKind.u64 a) (IntKind.wrap IntKind.u64 b) else V.mul64_r1 (IntKind.wrap IntKind.u64 a) (IntKind.wrap IntKind.u64 b)
else if cLt b (0 : Int) = true then V.mul64_r1 (IntKind.wrap IntKind.u64 a) (IntKind.wrap IntKind.u64 b) else V.mul64_r1 (IntKind.wrap IntKind.u64 a) (IntKind.wrap IntKind.u64 b)
theorem times_val {α : Type} (a : Int) (b : Int) (k0 : Int → Int → Option α) : Go.Proofs.Ytmcifgaaojgheaa.M.times a b k0 = k0 (Go.Proofs.Ytmcifgaaojgheaa.V.times_r0 a b) (Go.Proofs.Ytmcifgaaojgheaa.V.times_r1 a b) := by
  unfold Go.Proofs.Ytmcifgaaojgheaa.M.times Go.Proofs.Ytmcifgaaojgheaa.V.times_r0 Go.Proofs.Ytmcifgaaojgheaa.V.times_r1
  repeat' first | rfl | (split <;> rename_i h <;> first | simp only [if_pos h] | simp only [if_neg h] | skip)
noncomputable def times_c {α : Type} (ds : List D) (Q : SV → Hp → Option α) : Option α :=
  dI ds fun a ds => dI ds fun b ds => dE ds (Q (SV.agg [SV.int IntKind.u64 (Go.Proofs.Ytmcifgaaojgheaa.V.times_r0 a b), SV.int IntKind.u64 (Go.Proofs.Ytmcifgaaojgheaa.V.times_r1 a b)]) ([]))
theorem times_c_ok {α : Type} : FnOk E.P 81 (fEnt (α := α) times_sp times_c) :=
  fEnt_ok E (look_mul64_ok) (exec_sound E E_ok (look_mul64_ok) (noLps_ok _) 400) fun ds Q r h => by
    unfold times_c at h
    obtain ⟨a, ds, rfl, h1⟩ := dI_inv h
    obtain ⟨b, ds, rfl, h2⟩ := dI_inv h1
    obtain ⟨rfl, hE⟩ := dE_inv h2
    exact ⟨[SV.int IntKind.i64 a, SV.int IntKind.i64 b], [], fun vs => by kernel_rfl, (times_eq a b Q).trans ((times_val a b (fun (x2 : Int) (x3 : Int) => Q (SV.agg [SV.int IntKind.u64 x2, SV.int IntKind.u64 x3]) ([]))).trans hE)⟩
noncomputable def times_go {α : Type} (ds : List D) (Q : SV → Hp → Option α) : Option α :=
  dI ds fun a ds => dI ds fun b ds => dE ds (Go.Proofs.Ytmcifgaaojgheaa.M.times a b (fun (x2 : Int) (x3 : Int) => Q (SV.agg [SV.int IntKind.u64 x2, SV.int IntKind.u64 x3]) ([])))
theorem times_ok {α : Type} : FnOk E.P 81 (fEnt (α := α) times_sp times_go) :=
  fEnt_ok E (look_mul64_ok) (exec_sound E E_ok (look_mul64_ok) (noLps_ok _) 400) fun ds Q r h => by
    unfold times_go at h
    obtain ⟨a, ds, rfl, h1⟩ := dI_inv h
    obtain ⟨b, ds, rfl, h2⟩ := dI_inv h1
    obtain ⟨rfl, hE⟩ := dE_inv h2
    exact ⟨[SV.int IntKind.i64 a, SV.int IntKind.i64 b], [], fun vs => by kernel_rfl, (times_eq a b Q).trans hE⟩
noncomputable def look_times {α : Type} : LookF α := addFn 81 (fEnt times_sp times_c) look_mul64
theorem look_times_ok {α : Type} : LookOk E.P (look_times (α := α)) := addFn_ok times_c_ok (look_mul64_ok)
noncomputable def _root_.Go.Proofs.Ytmcifgaaojgheaa.M.neg {α : Type} (hi : Int) (lo : Int) (k0 : Bool → Option α) : Option α :=
  k0 (cEq (Int.fdiv hi (9223372036854775808 : Int)) (1 : Int))
theorem neg_eq {α : Type} (hi : Int) (lo : Int) (Q : SV → Hp → Option α) : callI E look_times (exec E look_times noLps 400) 89 ([SV.agg [SV.int IntKind.u64 hi, SV.int IntKind.u64 lo]]) ([]) Q = Go.Proofs.Ytmcifgaaojgheaa.M.neg hi lo (fun (x4 : Bool) => Q (SV.bool x4) ([])) := by kernel_rfl
def neg_sp : List AS := [.val (.agg [.int .u64 0, .int .u64 0])]
noncomputable def _root_.Go.Proofs.Ytmcifgaaojgheaa.V.neg_r0 (hi : Int) (lo : Int) : Bool :=
  cEq (Int.fdiv hi (9223372036854775808 : Int)) (1 : Int)
theorem neg_val {α : Type} (hi : Int) (lo : Int) (k0 : Bool → Option α) : Go.Proofs.Ytmcifgaaojgheaa.M.neg hi lo k0 = k0 (Go.Proofs.Ytmcifgaaojgheaa.V.neg_r0 hi lo) := by
  unfold Go.Proofs.Ytmcifgaaojgheaa.M.neg Go.Proofs.Ytmcifgaaojgheaa.V.neg_r0
  repeat' first | rfl | (split <;> rename_i h <;> first | simp only [if_pos h] | simp only [if_neg h] | skip)
noncomputable def neg_c {α : Type} (ds : List D) (Q : SV → Hp → Option α) : Option α :=
  dI ds fun hi ds => dI ds fun lo ds => dE ds (Q (SV.bool (Go.Proofs.Ytmcifgaaojgheaa.V.neg_r0 hi lo)) ([]))
theorem neg_c_ok {α : Type} : FnOk E.P 89 (fEnt (α := α) neg_sp neg_c) :=
  fEnt_ok E (look_times_ok) (exec_sound E E_ok (look_times_ok) (noLps_ok _) 400) fun ds Q r h => by
    unfold neg_c at h
    obtain ⟨hi, ds, rfl, h1⟩ := dI_inv h
    obtain ⟨lo, ds, rfl, h2⟩ := dI_inv h1
    obtain ⟨rfl, hE⟩ := dE_inv h2
    exact ⟨[SV.agg [SV.int IntKind.u64 hi, SV.int IntKind.u64 lo]], [], fun vs => by kernel_rfl, (neg_eq hi lo Q).trans ((neg_val hi lo (fun (x4 : Bool) => Q (SV.bool x4) ([]))).trans hE)⟩
noncomputable def neg_go {α : Type} (ds : List D) (Q : SV → Hp → Option α) : Option α :=
  dI ds fun hi ds => dI ds fun lo ds => dE ds (Go.Proofs.Ytmcifgaaojgheaa.M.neg hi lo (fun (x4 : Bool) => Q (SV.bool x4) ([])))
theorem neg_ok {α : Type} : FnOk E.P 89 (fEnt (α := α) neg_sp neg_go) :=
  fEnt_ok E (look_times_ok) (exec_sound E E_ok (look_times_ok) (noLps_ok _) 400) fun ds Q r h => by
    unfold neg_go at h
    obtain ⟨hi, ds, rfl, h1⟩ := dI_inv h
    obtain ⟨lo, ds, rfl, h2⟩ := dI_inv h1
    obtain ⟨rfl, hE⟩ := dE_inv h2
    exact ⟨[SV.agg [SV.int IntKind.u64 hi, SV.int IntKind.u64 lo]], [], fun vs => by kernel_rfl, (neg_eq hi lo Q).trans hE⟩
noncomputable def look_neg {α : Type} : LookF α := addFn 89 (fEnt neg_sp neg_c) look_times
theorem look_neg_ok {α : Type} : LookOk E.P (look_neg (α := α)) := addFn_ok neg_c_ok (look_times_ok)
noncomputable def _root_.Go.Proofs.Ytmcifgaaojgheaa.M.minus {α : Type} (hi : Int) (lo : Int) (k0 : Int → Int → Option α) : Option α :=
  if Int.toNat (Int.ofNat (if (0 : Nat) < Int.toNat lo + (0 : Nat) then (1 : Nat) else (0 : Nat))) > (1 : Nat) then none
else
  k0
    (Int.ofNat
      (((18446744073709551616 : Nat) - Int.toNat hi - Int.toNat (Int.ofNat (if (0 : Nat) < Int.toNat lo + (0 : Nat) then (1 : Nat) else (0 : Nat)))) %
        (18446744073709551616 : Nat)))
    (Int.ofNat (((18446744073709551616 : Nat) - Int.toNat lo - (0 : Nat)) % (18446744073709551616 : Nat)))
theorem minus_eq {α : Type} (hi : Int) (lo : Int) (Q : SV → Hp → Option α) : callI E look_neg (exec E look_neg noLps 400) 88 ([SV.agg [SV.int IntKind.u64 hi, SV.int IntKind.u64 lo]]) ([]) Q = Go.Proofs.Ytmcifgaaojgheaa.M.minus hi lo (fun (x5 : Int) (x6 : Int) => Q (SV.agg [SV.int IntKind.u64 x5, SV.int IntKind.u64 x6]) ([])) := by kernel_rfl
def minus_sp : List AS := [.val (.agg [.int .u64 0, .int .u64 0])]
noncomputable def _root_.Go.Proofs.Ytmcifgaaojgheaa.V.minus_g (hi : Int) (lo : Int) : Bool :=
  if Int.toNat (Int.ofNat (if (0 : Nat) < Int.toNat lo + (0 : Nat) then (1 : Nat) else (0 : Nat))) > (1 : Nat) then false else true
noncomputable def _root_.Go.Proofs.Ytmcifgaaojgheaa.V.minus_r0 (hi : Int) (lo : Int) : Int :=
  if Int.toNat (Int.ofNat (if (0 : Nat) < Int.toNat lo + (0 : Nat) then (1 : Nat) else (0 : Nat))) > (1 : Nat) then (0 : Int)
else
  Int.ofNat
    (((18446744073709551616 : Nat) - Int.toNat hi - Int.toNat (Int.ofNat (if (0 : Nat) < Int.toNat lo + (0 : Nat) then (1 : Nat) else (0 : Nat)))) % (18446744073709551616 : Nat))
noncomputable def _root_.Go.Proofs.Ytmcifgaaojgheaa.V.minus_r1 (hi : Int) (lo : Int) : Int :=
  if Int.toNat (Int.ofNat (if (0 : Nat) < Int.toNat lo + (0 : Nat) then (1 : Nat) else (0 : Nat))) > (1 : Nat) then (0 : Int)
else Int.ofNat (((18446744073709551616 : Nat) - Int.toNat lo - (0 : Nat)) % (18446744073709551616 : Nat))
theorem minus_val {α : Type} (hi : Int) (lo : Int) (k0 : Int → Int → Option α) : Go.Proofs.Ytmcifgaaojgheaa.M.minus hi lo k0 = if Go.Proofs.Ytmcifgaaojgheaa.V.minus_g hi lo = true then k0 (Go.Proofs.Ytmcifgaaojgheaa.V.minus_r0 hi lo) (Go.Proofs.Ytmcifgaaojgheaa.V.minus_r1 hi lo) else none := by
  unfold Go.Proofs.Ytmcifgaaojgheaa.M.minus Go.Proofs.Ytmcifgaaojgheaa.V.minus_g Go.Proofs.Ytmcifgaaojgheaa.V.minus_r0 Go.Proofs.Ytmcifgaaojgheaa.V.minus_r1
  repeat' first | rfl | (split <;> rename_i h <;> first | simp only [if_pos h] | simp only [if_neg h] | skip)
noncomputable def minus_c {α : Type} (ds : List D) (Q : SV → Hp → Option α) : Option α :=
  dI ds fun hi ds => dI ds fun lo ds => dE ds (if Go.Proofs.Ytmcifgaaojgheaa.V.minus_g hi lo = true then Q (SV.agg [SV.int IntKind.u64 (Go.Proofs.Ytmcifgaaojgheaa.V.minus_r0 hi lo), SV.int IntKind.u64 (Go.Proofs.Ytmcifgaaojgheaa.V.minus_r1 hi lo)]) ([]) else none)
theorem minus_c_ok {α : Type} : FnOk E.P 88 (fEnt (α := α) minus_sp minus_c) :=
  fEnt_ok E (look_neg_ok) (exec_sound E E_ok (look_neg_ok) (noLps_ok _) 400) fun ds Q r h => by
    unfold minus_c at h
    obtain ⟨hi, ds, rfl, h1⟩ := dI_inv h
    obtain ⟨lo, ds, rfl, h2⟩ := dI_inv h1
    obtain ⟨rfl, hE⟩ := dE_inv h2
    exact ⟨[SV.agg [SV.int IntKind.u64 hi, SV.int IntKind.u64 lo]], [], fun vs => by kernel_rfl, (minus_eq hi lo Q).trans ((minus_val hi lo (fun (x5 : Int) (x6 : Int) => Q (SV.agg [SV.int IntKind.u64 x5, SV.int IntKind.u64 x6]) ([]))).trans hE)⟩
noncomputable def minus_go {α : Type} (ds : List D) (Q : SV → Hp → Option α) : Option α :=
  dI ds fun hi ds => dI ds fun lo ds => dE ds (Go.Proofs.Ytmcifgaaojgheaa.M.minus hi lo (fun (x5 : Int) (x6 : Int) => Q (SV.agg [SV.int IntKind.u64 x5, SV.int IntKind.u64 x6]) ([])))
theorem minus_ok {α : Type} : FnOk E.P 88 (fEnt (α := α) minus_sp minus_go) :=
  fEnt_ok E (look_neg_ok) (exec_sound E E_ok (look_neg_ok) (noLps_ok _) 400) fun ds Q r h => by
    unfold minus_go at h
    obtain ⟨hi, ds, rfl, h1⟩ := dI_inv h
    obtain ⟨lo, ds, rfl, h2⟩ := dI_inv h1
    obtain ⟨rfl, hE⟩ := dE_inv h2
    exact ⟨[SV.agg [SV.int IntKind.u64 hi, SV.int IntKind.u64 lo]], [], fun vs => by kernel_rfl, (minus_eq hi lo Q).trans hE⟩
noncomputable def look_minus {α : Type} : LookF α := addFn 88 (fEnt minus_sp minus_c) look_neg
theorem look_minus_ok {α : Type} : LookOk E.P (look_minus (α := α)) := addFn_ok minus_c_ok (look_neg_ok)
noncomputable def _root_.Go.Proofs.Ytmcifgaaojgheaa.M.wadd {α : Type} (ah : Int) (al : Int) (bh : Int) (bl : Int) (k0 : Int → Int → Option α) : Option α :=
  if Int.toNat (Int.ofNat ((Int.toNat al + Int.toNat bl + (0 : Nat)) / (18446744073709551616 : Nat))) > (1 : Nat) then none
else
  k0 (Int.ofNat ((Int.toNat ah + Int.toNat bh + Int.toNat (Int.ofNat ((Int.toNat al + Int.toNat bl + (0 : Nat)) / (18446744073709551616 : Nat)))) % (18446744073709551616 : Nat)))
    (Int.ofNat ((Int.toNat al + Int.toNat bl + (0 : Nat)) % (18446744073709551616 : Nat)))
theorem wadd_eq {α : Type} (ah : Int) (al : Int) (bh : Int) (bl : Int) (Q : SV → Hp → Option α) : callI E look_minus (exec E look_minus noLps 400) 80 ([SV.agg [SV.int IntKind.u64 ah, SV.int IntKind.u64 al], SV.agg [SV.int IntKind.u64 bh, SV.int IntKind.u64 bl]]) ([]) Q = Go.Proofs.Ytmcifgaaojgheaa.M.wadd ah al bh bl (fun (x7 : Int) (x8 : Int) => Q (SV.agg [SV.int IntKind.u64 x7, SV.int IntKind.u64 x8]) ([])) := by kernel_rfl
def wadd_sp : List AS := [.val (.agg [.int .u64 0, .int .u64 0]), .val (.agg [.int .u64 0, .int .u64 0])]
noncomputable def _root_.Go.Proofs.Ytmcifgaaojgheaa.V.wadd_g (ah : Int) (al : Int) (bh : Int) (bl : Int) : Bool :=
  if Int.toNat (Int.ofNat ((Int.toNat al + Int.toNat bl + (0 : Nat)) / (18446744073709551616 : Nat))) > (1 : Nat) then false else true
noncomputable def _root_.Go.Proofs.Ytmcifgaaojgheaa.V.wadd_r0 (ah : Int) (al : Int) (bh : Int) (bl : Int) : Int :=
  if Int.toNat (Int.ofNat ((Int.toNat al + Int.toNat bl + (0 : Nat)) / (18446744073709551616 : Nat))) > (1 : Nat) then (0 : Int)
else Int.ofNat ((Int.toNat ah + Int.toNat bh + Int.toNat (Int.ofNat ((Int.toNat al + Int.toNat bl + (0 : Nat)) / (18446744073709551616 : Nat)))) % (18446744073709551616 : Nat))
noncomputable def _root_.Go.Proofs.Ytmcifgaaojgheaa.V.wadd_r1 (ah : Int) (al : Int) (bh : Int) (bl : Int) : Int :=
  if Int.toNat (Int.ofNat ((Int.toNat al + Int.toNat bl + (0 : Nat)) / (18446744073709551616 : Nat))) > (1 : Nat) then (0 : Int)
else Int.ofNat ((Int.toNat al + Int.toNat bl + (0 : Nat)) % (18446744073709551616 : Nat))
theorem wadd_val {α : Type} (ah : Int) (al : Int) (bh : Int) (bl : Int) (k0 : Int → Int → Option α) : Go.Proofs.Ytmcifgaaojgheaa.M.wadd ah al bh bl k0 = if Go.Proofs.Ytmcifgaaojgheaa.V.wadd_g ah al bh bl = true then k0 (Go.Proofs.Ytmcifgaaojgheaa.V.wadd_r0 ah al bh bl) (Go.Proofs.Ytmcifgaaojgheaa.V.wadd_r1 ah al bh bl) else none := by
  unfold Go.Proofs.Ytmcifgaaojgheaa.M.wadd Go.Proofs.Ytmcifgaaojgheaa.V.wadd_g Go.Proofs.Ytmcifgaaojgheaa.V.wadd_r0 Go.Proofs.Ytmcifgaaojgheaa.V.wadd_r1
  repeat' first | rfl | (split <;> rename_i h <;> first | simp only [if_pos h] | simp only [if_neg h] | skip)
noncomputable def wadd_c {α : Type} (ds : List D) (Q : SV → Hp → Option α) : Option α :=
  dI ds fun ah ds => dI ds fun al ds => dI ds fun bh ds => dI ds fun bl ds => dE ds (if Go.Proofs.Ytmcifgaaojgheaa.V.wadd_g ah al bh bl = true then Q (SV.agg [SV.int IntKind.u64 (Go.Proofs.Ytmcifgaaojgheaa.V.wadd_r0 ah al bh bl), SV.int IntKind.u64 (Go.Proofs.Ytmcifgaaojgheaa.V.wadd_r1 ah al bh bl)]) ([]) else none)
theorem wadd_c_ok {α : Type} : FnOk E.P 80 (fEnt (α := α) wadd_sp wadd_c) :=
  fEnt_ok E (look_minus_ok) (exec_sound E E_ok (look_minus_ok) (noLps_ok _) 400) fun ds Q r h => by
    unfold wadd_c at h
    obtain ⟨ah, ds, rfl, h1⟩ := dI_inv h
    obtain ⟨al, ds, rfl, h2⟩ := dI_inv h1
    obtain ⟨bh, ds, rfl, h3⟩ := dI_inv h2
    obtain ⟨bl, ds, rfl, h4⟩ := dI_inv h3
    obtain ⟨rfl, hE⟩ := dE_inv h4
    exact ⟨[SV.agg [SV.int IntKind.u64 ah, SV.int IntKind.u64 al], SV.agg [SV.int IntKind.u64 bh, SV.int IntKind.u64 bl]], [], fun vs => by kernel_rfl, (wadd_eq ah al bh bl Q).trans ((wadd_val ah al bh bl (fun (x7 : Int) (x8 : Int) => Q (SV.agg [SV.int IntKind.u64 x7, SV.int IntKind.u64 x8]) ([]))).trans hE)⟩
noncomputable def wadd_go {α : Type} (ds : List D) (Q : SV → Hp → Option α) : Option α :=
  dI ds fun ah ds => dI ds fun al ds => dI ds fun bh ds => dI ds fun bl ds => dE ds (Go.Proofs.Ytmcifgaaojgheaa.M.wadd ah al bh bl (fun (x7 : Int) (x8 : Int) => Q (SV.agg [SV.int IntKind.u64 x7, SV.int IntKind.u64 x8]) ([])))
theorem wadd_ok {α : Type} : FnOk E.P 80 (fEnt (α := α) wadd_sp wadd_go) :=
  fEnt_ok E (look_minus_ok) (exec_sound E E_ok (look_minus_ok) (noLps_ok _) 400) fun ds Q r h => by
    unfold wadd_go at h
    obtain ⟨ah, ds, rfl, h1⟩ := dI_inv h
    obtain ⟨al, ds, rfl, h2⟩ := dI_inv h1
    obtain ⟨bh, ds, rfl, h3⟩ := dI_inv h2
    obtain ⟨bl, ds, rfl, h4⟩ := dI_inv h3
    obtain ⟨rfl, hE⟩ := dE_inv h4
    exact ⟨[SV.agg [SV.int IntKind.u64 ah, SV.int IntKind.u64 al], SV.agg [SV.int IntKind.u64 bh, SV.int IntKind.u64 bl]], [], fun vs => by kernel_rfl, (wadd_eq ah al bh bl Q).trans hE⟩
noncomputable def look_wadd {α : Type} : LookF α := addFn 80 (fEnt wadd_sp wadd_c) look_minus
theorem look_wadd_ok {α : Type} : LookOk E.P (look_wadd (α := α)) := addFn_ok wadd_c_ok (look_minus_ok)
noncomputable def _root_.Go.Proofs.Ytmcifgaaojgheaa.M.tells {α : Type} (bad : Bool) (n : Int) (ok : Bool) (k0 : Int → Bool → Option α) : Option α :=
  if (!ok) = true then k0 (0 : Int) true
else if cLt n (-4611686018427387903 : Int) = true then k0 (0 : Int) true else if cLt (4611686018427387903 : Int) n = true then k0 (0 : Int) true else k0 n bad
theorem tells_eq {α : Type} (bad : Bool) (n : Int) (ok : Bool) (Q : SV → Hp → Option α) : callI E look_wadd (exec E look_wadd noLps 400) 83 ([SV.ptr (nat_lit 0) (nat_lit 0), SV.int IntKind.i64 n, SV.bool ok]) ([SObj.cells [SV.bool bad] (nat_lit 51)]) Q = Go.Proofs.Ytmcifgaaojgheaa.M.tells bad n ok (fun (x9 : Int) (x10 : Bool) => Q (SV.int IntKind.i64 x9) ([SObj.cells [SV.bool x10] (nat_lit 51)])) := by kernel_rfl
def tells_sp : List AS := [.ptr 51 [.bool false], .val (.int .i64 0), .val (.bool false)]
noncomputable def _root_.Go.Proofs.Ytmcifgaaojgheaa.V.tells_r0 (bad : Bool) (n : Int) (ok : Bool) : Int :=
  if (!ok) = true then (0 : Int) else if cLt n (-4611686018427387903 : Int) = true then (0 : Int) else if cLt (4611686018427387903 : Int) n = true then (0 : Int) else n
noncomputable def _root_.Go.Proofs.Ytmcifgaaojgheaa.V.tells_r1 (bad : Bool) (n : Int) (ok : Bool) : Bool :=
  if (!ok) = true then true else if cLt n (-4611686018427387903 : Int) = true then true else if cLt (4611686018427387903 : Int) n = true then true else bad
theorem tells_val {α : Type} (bad : Bool) (n : Int) (ok : Bool) (k0 : Int → Bool → Option α) : Go.Proofs.Ytmcifgaaojgheaa.M.tells bad n ok k0 = k0 (Go.Proofs.Ytmcifgaaojgheaa.V.tells_r0 bad n ok) (Go.Proofs.Ytmcifgaaojgheaa.V.tells_r1 bad n ok) := by
  unfold Go.Proofs.Ytmcifgaaojgheaa.M.tells Go.Proofs.Ytmcifgaaojgheaa.V.tells_r0 Go.Proofs.Ytmcifgaaojgheaa.V.tells_r1
  repeat' first | rfl | (split <;> rename_i h <;> first | simp only [if_pos h] | simp only [if_neg h] | skip)
noncomputable def tells_c {α : Type} (ds : List D) (Q : SV → Hp → Option α) : Option α :=
  dB ds fun bad ds => dI ds fun n ds => dB ds fun ok ds => dE ds (Q (SV.int IntKind.i64 (Go.Proofs.Ytmcifgaaojgheaa.V.tells_r0 bad n ok)) ([SObj.cells [SV.bool (Go.Proofs.Ytmcifgaaojgheaa.V.tells_r1 bad n ok)] (nat_lit 51)]))
theorem tells_c_ok {α : Type} : FnOk E.P 83 (fEnt (α := α) tells_sp tells_c) :=
  fEnt_ok E (look_wadd_ok) (exec_sound E E_ok (look_wadd_ok) (noLps_ok _) 400) fun ds Q r h => by
    unfold tells_c at h
    obtain ⟨bad, ds, rfl, h1⟩ := dB_inv h
    obtain ⟨n, ds, rfl, h2⟩ := dI_inv h1
    obtain ⟨ok, ds, rfl, h3⟩ := dB_inv h2
    obtain ⟨rfl, hE⟩ := dE_inv h3
    exact ⟨[SV.ptr (nat_lit 0) (nat_lit 0), SV.int IntKind.i64 n, SV.bool ok], [SObj.cells [SV.bool bad] (nat_lit 51)], fun vs => by kernel_rfl, (tells_eq bad n ok Q).trans ((tells_val bad n ok (fun (x9 : Int) (x10 : Bool) => Q (SV.int IntKind.i64 x9) ([SObj.cells [SV.bool x10] (nat_lit 51)]))).trans hE)⟩
noncomputable def tells_go {α : Type} (ds : List D) (Q : SV → Hp → Option α) : Option α :=
  dB ds fun bad ds => dI ds fun n ds => dB ds fun ok ds => dE ds (Go.Proofs.Ytmcifgaaojgheaa.M.tells bad n ok (fun (x9 : Int) (x10 : Bool) => Q (SV.int IntKind.i64 x9) ([SObj.cells [SV.bool x10] (nat_lit 51)])))
theorem tells_ok {α : Type} : FnOk E.P 83 (fEnt (α := α) tells_sp tells_go) :=
  fEnt_ok E (look_wadd_ok) (exec_sound E E_ok (look_wadd_ok) (noLps_ok _) 400) fun ds Q r h => by
    unfold tells_go at h
    obtain ⟨bad, ds, rfl, h1⟩ := dB_inv h
    obtain ⟨n, ds, rfl, h2⟩ := dI_inv h1
    obtain ⟨ok, ds, rfl, h3⟩ := dB_inv h2
    obtain ⟨rfl, hE⟩ := dE_inv h3
    exact ⟨[SV.ptr (nat_lit 0) (nat_lit 0), SV.int IntKind.i64 n, SV.bool ok], [SObj.cells [SV.bool bad] (nat_lit 51)], fun vs => by kernel_rfl, (tells_eq bad n ok Q).trans hE⟩
noncomputable def look_tells {α : Type} : LookF α := addFn 83 (fEnt tells_sp tells_c) look_wadd
theorem look_tells_ok {α : Type} : LookOk E.P (look_tells (α := α)) := addFn_ok tells_c_ok (look_wadd_ok)
end Go.Proofs.Ytmcifgaaojgheaa.Sx
