/- Texts of the walk, merged. -/
import Derived.Test.YtkjellhkamfciaaMg3
import Derived.Test.YtkjellhkamfciaaProg
import Derived.IntWalk
section
/- The surroundings of the runs: the program, kinds of elements, slots that are forgotten at loops. -/
namespace Go.Proofs.Ytkjellhkamfciaa.Sx
open Go
def rg (a b : Nat) : List Nat := List.range' a (b + 1 - a)
def junkT : List (FuncId × List Bool × List Nat × List Nat) := [
  (3, [false, true, false, true, true, true, true, true, true, true, true, true, true], [0, 1, 3, 4, 9, 16] ++ rg 18 113, [0, 1, 3, 4, 7, 9] ++ rg 16 113),
  (3, [false, true, false, true, true, true, true, true, true, true, true, true], [0, 1, 3, 4, 9] ++ rg 17 113, [0, 1, 3, 4, 9] ++ rg 16 113),
  (6, [false, true, false, true, true, true, true, true, true, true, true, true, true, true, true, true], [15] ++ rg 0 6 ++ rg 8 13 ++ rg 17 132, rg 0 3 ++ rg 5 132),
  (6, [false, true, false, true, false, false, true, false, false, true, false, true, true, true, true, true, true, true, true, true, true, true, true, true], [15] ++ rg 0 6 ++ rg 8 13 ++ rg 19 132, [15] ++ rg 0 6 ++ rg 8 13 ++ rg 18 132),
  (6, [false, true, false, true, true, true, true, true, true, true, true, true, true], [0, 8] ++ rg 2 6 ++ rg 12 132, [8] ++ rg 0 6 ++ rg 10 132),
  (9, [false, true, false, true, true, true, true], [5] ++ rg 0 3 ++ rg 7 88, [0, 1, 3] ++ rg 5 88),
  (9, [false, true, true, true, false, false, true, false, false, true, false, true, true, true, true], [5] ++ rg 0 3 ++ rg 9 88, [0, 1, 3, 5] ++ rg 7 88),
  (9, [false, true, true, true, false, false, true, false, false, true, true, true, false, false, true, false, false, true, false, true, true, true, true], [5] ++ rg 0 3 ++ rg 11 88, [0, 1, 3, 5] ++ rg 9 88),
  (13, [false, true, false, false, true, true, true, true, true, false, true, false, true, true, true], [0, 3, 4] ++ rg 6 50 ++ rg 54 106, [0, 1, 3, 4] ++ rg 6 106),
  (13, [false, true, true, false, false, true, true, false, false, true, false, false, true, true, true, true, true, false, true, false, true, true, true], [0, 3, 4, 6] ++ rg 8 50 ++ rg 54 63 ++ rg 67 106, [0, 3, 4] ++ rg 6 50 ++ rg 54 106),
  (14, [false, true, false, false, true, true, true, true, true, false, true, false, true, true, true, true], [0, 3, 4] ++ rg 7 104, [0, 1, 3, 4] ++ rg 6 104),
  (16, [false, true, false, true, true, true, true, true, true, true, true, false, true, true, true, true, true, true], [0, 2, 3, 5, 6, 7] ++ rg 9 15 ++ rg 19 173, [0, 2, 3, 5, 6, 7] ++ rg 9 16 ++ rg 18 173),
  (16, [false, true, false, true, true, true, true, true, false, true, true, true, true, true, true], [0, 3, 5, 7, 9, 10, 11] ++ rg 16 173, [0, 3, 5, 6, 7, 9, 10, 11] ++ rg 15 173),
  (18, [false, true, false, true, true], [2, 3, 4] ++ rg 6 25, rg 0 3 ++ rg 5 25),
  (19, [false, true, false, false, true, false, true, true, true], [0] ++ rg 5 71, [0, 1] ++ rg 4 71),
  (21, [false, false, true, true, true], [0] ++ rg 3 18, [0] ++ rg 3 18),
  (22, [false, false, true, true, true], [0, 1] ++ rg 4 50, [0, 1] ++ rg 4 50),
  (25, [false, true, false, true], rg 1 4 ++ rg 8 21, [0, 1] ++ rg 3 21),
  (26, [false, true, false, true, true, true], [0, 2] ++ rg 5 14 ++ rg 18 35, [0, 2, 3] ++ rg 5 35),
  (27, [false, true, false, true, false, true, true, true, true, true, true, true, false, true, false, true], [0, 2, 3] ++ rg 5 79, [0, 1] ++ rg 3 79),
  (27, [false, true, true, true, false, false, true, false, false, true, false, true, false, true, true, true, true, true, true, true, false, true, false, true], [0, 2, 3, 5] ++ rg 7 79, [0, 3] ++ rg 5 79),
  (28, [false, true, false, true], [1, 2] ++ rg 4 54, [0, 1] ++ rg 3 54),
  (28, [false, true, false, false, true, false, false, true, false, true], [1, 2] ++ rg 5 54, [1] ++ rg 4 54),
  (28, [false, true, false, false, true, false, false, true, false, false, true, false, false, true, false, true], [1, 2] ++ rg 6 54, [1] ++ rg 5 54),
  (28, [false, true, true, false, false, true, false, false, true, false, false, true, false, false, true, false, false, true, false, false, true, false, true], [1, 2] ++ rg 8 54, [1] ++ rg 6 54),
  (30, [false, true, true, true, false], [1] ++ rg 3 15 ++ rg 18 169, rg 0 169),
  (30, [false, true, true, false, false, true, true, false, false, true, true, true, false], [1] ++ rg 5 15 ++ rg 18 169, [1] ++ rg 3 15 ++ rg 18 169),
  (30, [false, true, true, false, false, false, true, false, false, true, true, false, false, true, true, false, false, true, true, true, false], [1] ++ rg 6 15 ++ rg 18 169, [1] ++ rg 5 15 ++ rg 18 169),
  (30, [false, true, true, true, true, true, true, false, false, false, false, true, true, false, false, false, true, false, false, true, true, false, false, true, true, false, false, true, true, true, false], [1] ++ rg 6 15 ++ rg 18 131 ++ rg 135 169, [1] ++ rg 6 15 ++ rg 18 169),
  (31, [false, true, false, true, true, true], [1, 2, 3] ++ rg 7 139, rg 0 3 ++ rg 6 139),
  (31, [false, true, false, false, true, false, false, true, false, true, true, true], [1, 2, 3] ++ rg 8 139, [1, 2, 3] ++ rg 7 139),
  (31, [false, true, false, false, true, false, false, true, false, false, true, false, false, true, false, true, true, true], [1, 2, 3] ++ rg 9 139, [1, 2, 3] ++ rg 8 139),
  (31, [false, true, true, true, true, true, true, true, true, false, false, true, false, false, true, false, false, true, false, false, true, false, false, true, false, false, true, false, true, true, true], [1, 2, 3] ++ rg 9 12 ++ rg 15 139, [1, 2, 3] ++ rg 9 139),
  (35, [false, true, false, true, true], [0, 3, 4] ++ rg 7 21 ++ rg 25 46, [0, 1, 3, 4] ++ rg 7 46),
  (42, [false, true, false, true, true, true], [2, 3, 4] ++ rg 8 38, [0, 2, 3, 4] ++ rg 7 38),
  (48, [false, true, false, true, true, true], [0] ++ rg 6 51, [0] ++ rg 4 51),
  (48, [false, false, true, true, false, false, true, false, false, true, false, true, true, true], [0, 3] ++ rg 8 51, [0, 3] ++ rg 7 51),
  (60, [false, true, false, true, true], [6, 9, 10, 11] ++ rg 0 3 ++ rg 15 35, rg 0 6 ++ rg 9 35),
  (61, [false, true, false, true, true, true], [1, 2, 3, 6] ++ rg 10 34, rg 0 6 ++ rg 9 34),
  (62, [false, true, false, true], [1, 3, 5, 6] ++ rg 8 39, rg 0 5 ++ rg 7 39),
  (63, [false, true, false, true], rg 0 4 ++ rg 8 17, [0, 1] ++ rg 3 17),
  (69, [false, false, true, true, true, true, true, true, true, true, true, true, true, true, true, true, true, true, true, true], [0, 1, 11, 12, 13] ++ rg 3 7 ++ rg 19 134, [0, 1, 16] ++ rg 3 7 ++ rg 9 13 ++ rg 19 134),
  (69, [false, false, true, true, true, true, true, true, true, true, true, true, true, true, true, true], [0, 1, 12] ++ rg 3 7 ++ rg 17 134, [0, 1, 12] ++ rg 3 7 ++ rg 16 134),
  (71, [false, true, false, true], [1, 2] ++ rg 4 21, [0, 1] ++ rg 3 21),
  (73, [false, true, false, true, true, true, true, true], [0, 3, 4, 5] ++ rg 10 76, rg 0 3 ++ rg 9 76),
  (73, [false, true, true, false, false, true, false, false, true, false, true, true, true, true, true], [0, 3, 4, 5] ++ rg 11 76, [0, 3] ++ rg 10 76),
  (74, [false, true, false, true, true], [0, 1] ++ rg 7 58, [0, 1] ++ rg 6 58),
  (74, [false, true, true, true, false, false, true, false, false, true, false, true, true], [0, 1] ++ rg 9 58, [0, 1] ++ rg 7 58),
  (75, [false, true, false, true, true, true, true, true], [0, 1] ++ rg 6 27, [0, 1] ++ rg 4 27),
  (76, [false, false, true], rg 2 14, rg 1 14),
  (77, [false, true, false, true], [1, 2, 4, 5, 6] ++ rg 9 18, rg 0 3 ++ rg 5 18),
  (78, [false, true, false, true], rg 2 6 ++ rg 9 18, rg 0 3 ++ rg 5 18)]
def zeroT : List (TypeId × List SV) := [(94, [.arr (.int .i64) (List.replicate 8 (0 : Int)) 8]), (95, [.bool false, .arr (.int .i64) (List.replicate 8 (0 : Int)) 8]), (96, [.bool false, .arr (.int .i64) (List.replicate 8 (0 : Int)) 8])]
noncomputable def E : Env := { P := Go.Proofs.Try.prog, L := 0, kind := [(3, .int .i64), (4, .bool), (22, .st (.i .i64) [.i .i64, .i .i64]), (23, .st (.i .i64) [.i .i64, .i .i64]), (61, .st (.b) []), (62, .st (.b) []), (84, .st (.i .u64) [.i .u64]), (85, .st (.i .u64) [.i .u64])], junk := junkT, zero := zeroT, fresh := [30], noNil := false, add64 := 1000000, sub64 := 81 }
theorem E_ok : EnvOk E where
  zero := by
    intro T l h
    by_cases h94 : T = 94
    · subst h94
      have : some _ = some l := h
      cases this
      exact ⟨(E.P.info? 94).get (by kernel_rfl), ((E.P.info? 94).bind (·.zero)).get (by kernel_rfl), by kernel_rfl, by kernel_rfl, fun ρ => by kernel_rfl, fun R w ρ n => by simp [SV.okL, SV.ok]⟩
    by_cases h95 : T = 95
    · subst h95
      have : some _ = some l := h
      cases this
      exact ⟨(E.P.info? 95).get (by kernel_rfl), ((E.P.info? 95).bind (·.zero)).get (by kernel_rfl), by kernel_rfl, by kernel_rfl, fun ρ => by kernel_rfl, fun R w ρ n => by simp [SV.okL, SV.ok]⟩
    by_cases h96 : T = 96
    · subst h96
      have : some _ = some l := h
      cases this
      exact ⟨(E.P.info? 96).get (by kernel_rfl), ((E.P.info? 96).bind (·.zero)).get (by kernel_rfl), by kernel_rfl, by kernel_rfl, fun ρ => by kernel_rfl, fun R w ρ n => by simp [SV.okL, SV.ok]⟩
    simp [assoc, E, zeroT, Ne.symm h94, Ne.symm h95, Ne.symm h96] at h
  add := by
    intro f h1 h
    have := Nat.eq_of_beq_eq_true h
    subst this
    have h2 : (E.P.funcs[1000000]?).isSome = false := by kernel_rfl
    exact absurd (h1.symm.trans h2) (by decide)
  sub := by
    intro f h1 h
    have := Nat.eq_of_beq_eq_true h
    subst this
    exact ⟨Go.Proofs.Try.f81, _, by kernel_rfl, by kernel_rfl, by kernel_rfl, by kernel_rfl, by kernel_rfl, rfl⟩
end Go.Proofs.Ytkjellhkamfciaa.Sx
end

section
/- The functions of fx and of its reference without loops: what they reckon. -/
namespace Go.Proofs.Ytkjellhkamfciaa.Sx
open Go
set_option maxRecDepth 20000
set_option linter.unusedVariables false
set_option linter.unusedSimpArgs false
noncomputable def _root_.Go.Proofs.Ytkjellhkamfciaa.M.none {α : Type} (bad : Bool) (k0 : Option α) : Option α :=
  k0
theorem none_eq {α : Type} (bad : Bool) (Q : SV → Hp → Option α) : callI E noFns (exec E noFns noLps 400) 64 ([SV.ptr (nat_lit 0) (nat_lit 0)]) ([.cells [SV.bool bad] (nat_lit 62)]) Q = M.none bad (Q (SV.int .i64 (0 : Int)) ([.cells [SV.bool true] (nat_lit 62)])) := by kernel_rfl
def none_sp : List AS := [.ptr 62 [.bool false]]
theorem none_val {α : Type} (bad : Bool) (k0 : Option α) : M.none bad k0 = k0 := by
  unfold M.none
  repeat' first | rfl | (split <;> rename_i h <;> first | simp only [if_pos h] | simp only [if_neg h] | skip)
noncomputable def none_c {α : Type} (ds : List D) (Q : SV → Hp → Option α) : Option α :=
  dB ds fun bad ds => dE ds (Q (SV.int .i64 (0 : Int)) ([.cells [SV.bool true] (nat_lit 62)]))
theorem none_c_ok {α : Type} : FnOk E.P 64 (fEnt (α := α) none_sp none_c) :=
  fEnt_ok E (noFns_ok _) (exec_sound E E_ok (noFns_ok _) (noLps_ok _) 400) fun ds Q r h => by
    unfold none_c at h
    obtain ⟨bad, ds, rfl, h1⟩ := dB_inv h
    obtain ⟨rfl, hE⟩ := dE_inv h1
    exact ⟨[SV.ptr (nat_lit 0) (nat_lit 0)], [.cells [SV.bool bad] (nat_lit 62)], fun vs => by kernel_rfl, (none_eq bad Q).trans ((none_val bad (Q (SV.int .i64 (0 : Int)) ([.cells [SV.bool true] (nat_lit 62)]))).trans hE)⟩
noncomputable def none_go {α : Type} (ds : List D) (Q : SV → Hp → Option α) : Option α :=
  dB ds fun bad ds => dE ds (M.none bad (Q (SV.int .i64 (0 : Int)) ([.cells [SV.bool true] (nat_lit 62)])))
theorem none_ok {α : Type} : FnOk E.P 64 (fEnt (α := α) none_sp none_go) :=
  fEnt_ok E (noFns_ok _) (exec_sound E E_ok (noFns_ok _) (noLps_ok _) 400) fun ds Q r h => by
    unfold none_go at h
    obtain ⟨bad, ds, rfl, h1⟩ := dB_inv h
    obtain ⟨rfl, hE⟩ := dE_inv h1
    exact ⟨[SV.ptr (nat_lit 0) (nat_lit 0)], [.cells [SV.bool bad] (nat_lit 62)], fun vs => by kernel_rfl, (none_eq bad Q).trans hE⟩
noncomputable def look_none {α : Type} : LookF α := addFn 64 (fEnt none_sp none_c) noFns
theorem look_none_ok {α : Type} : LookOk E.P (look_none (α := α)) := addFn_ok none_c_ok (noFns_ok _)
noncomputable def _root_.Go.Proofs.Ytkjellhkamfciaa.M.mul64 {α : Type} (x : Int) (y : Int) (k0 : Int → Int → Option α) : Option α :=
  k0
  (IntKind.wrap IntKind.u64
    (IntKind.wrap IntKind.u64 (IntKind.wrap IntKind.u64 (Int.fdiv x (4294967296 : Int) * Int.fdiv y (4294967296 : Int)) + Int.fdiv (IntKind.wrap IntKind.u64 (IntKind.wrap IntKind.u64 (Int.fdiv x (4294967296 : Int) * bandI IntKind.u64 y (4294967295 : Int)) + Int.fdiv (IntKind.wrap IntKind.u64 (bandI IntKind.u64 x (4294967295 : Int) * bandI IntKind.u64 y (4294967295 : Int))) (4294967296 : Int))) (4294967296 : Int)) +
      Int.fdiv (IntKind.wrap IntKind.u64 (bandI IntKind.u64 (IntKind.wrap IntKind.u64 (IntKind.wrap IntKind.u64 (Int.fdiv x (4294967296 : Int) * bandI IntKind.u64 y (4294967295 : Int)) + Int.fdiv (IntKind.wrap IntKind.u64 (bandI IntKind.u64 x (4294967295 : Int) * bandI IntKind.u64 y (4294967295 : Int))) (4294967296 : Int))) (4294967295 : Int) + IntKind.wrap IntKind.u64 (bandI IntKind.u64 x (4294967295 : Int) * Int.fdiv y (4294967296 : Int)))) (4294967296 : Int)))
  (IntKind.wrap IntKind.u64 (x * y))
theorem mul64_eq {α : Type} (x : Int) (y : Int) (Q : SV → Hp → Option α) : callI E look_none (exec E look_none noLps 400) 80 ([SV.int IntKind.u64 x, SV.int IntKind.u64 y]) ([]) Q = M.mul64 x y (fun (x0 : Int) (x1 : Int) => Q (SV.tup [SV.int IntKind.u64 x0, SV.int IntKind.u64 x1]) ([])) := by kernel_rfl
def mul64_sp : List AS := [.val (.int .u64 0), .val (.int .u64 0)]
noncomputable def _root_.Go.Proofs.Ytkjellhkamfciaa.V.mul64_r0 (x : Int) (y : Int) : Int :=
  IntKind.wrap IntKind.u64
  (IntKind.wrap IntKind.u64 (IntKind.wrap IntKind.u64 (Int.fdiv x (4294967296 : Int) * Int.fdiv y (4294967296 : Int)) + Int.fdiv (IntKind.wrap IntKind.u64 (IntKind.wrap IntKind.u64 (Int.fdiv x (4294967296 : Int) * bandI IntKind.u64 y (4294967295 : Int)) + Int.fdiv (IntKind.wrap IntKind.u64 (bandI IntKind.u64 x (4294967295 : Int) * bandI IntKind.u64 y (4294967295 : Int))) (4294967296 : Int))) (4294967296 : Int)) +
    Int.fdiv (IntKind.wrap IntKind.u64 (bandI IntKind.u64 (IntKind.wrap IntKind.u64 (IntKind.wrap IntKind.u64 (Int.fdiv x (4294967296 : Int) * bandI IntKind.u64 y (4294967295 : Int)) + Int.fdiv (IntKind.wrap IntKind.u64 (bandI IntKind.u64 x (4294967295 : Int) * bandI IntKind.u64 y (4294967295 : Int))) (4294967296 : Int))) (4294967295 : Int) + IntKind.wrap IntKind.u64 (bandI IntKind.u64 x (4294967295 : Int) * Int.fdiv y (4294967296 : Int)))) (4294967296 : Int))
noncomputable def _root_.Go.Proofs.Ytkjellhkamfciaa.V.mul64_r1 (x : Int) (y : Int) : Int :=
  IntKind.wrap IntKind.u64 (x * y)
theorem mul64_val {α : Type} (x : Int) (y : Int) (k0 : Int → Int → Option α) : M.mul64 x y k0 = k0 (V.mul64_r0 x y) (V.mul64_r1 x y) := by
  unfold M.mul64 V.mul64_r0 V.mul64_r1
  repeat' first | rfl | (split <;> rename_i h <;> first | simp only [if_pos h] | simp only [if_neg h] | skip)
noncomputable def mul64_c {α : Type} (ds : List D) (Q : SV → Hp → Option α) : Option α :=
  dI ds fun x ds => dI ds fun y ds => dE ds (Q (SV.tup [SV.int IntKind.u64 (V.mul64_r0 x y), SV.int IntKind.u64 (V.mul64_r1 x y)]) ([]))
theorem mul64_c_ok {α : Type} : FnOk E.P 80 (fEnt (α := α) mul64_sp mul64_c) :=
  fEnt_ok E (look_none_ok) (exec_sound E E_ok (look_none_ok) (noLps_ok _) 400) fun ds Q r h => by
    unfold mul64_c at h
    obtain ⟨x, ds, rfl, h1⟩ := dI_inv h
    obtain ⟨y, ds, rfl, h2⟩ := dI_inv h1
    obtain ⟨rfl, hE⟩ := dE_inv h2
    exact ⟨[SV.int IntKind.u64 x, SV.int IntKind.u64 y], [], fun vs => by kernel_rfl, (mul64_eq x y Q).trans ((mul64_val x y (fun (x0 : Int) (x1 : Int) => Q (SV.tup [SV.int IntKind.u64 x0, SV.int IntKind.u64 x1]) ([]))).trans hE)⟩
noncomputable def mul64_go {α : Type} (ds : List D) (Q : SV → Hp → Option α) : Option α :=
  dI ds fun x ds => dI ds fun y ds => dE ds (M.mul64 x y (fun (x0 : Int) (x1 : Int) => Q (SV.tup [SV.int IntKind.u64 x0, SV.int IntKind.u64 x1]) ([])))
theorem mul64_ok {α : Type} : FnOk E.P 80 (fEnt (α := α) mul64_sp mul64_go) :=
  fEnt_ok E (look_none_ok) (exec_sound E E_ok (look_none_ok) (noLps_ok _) 400) fun ds Q r h => by
    unfold mul64_go at h
    obtain ⟨x, ds, rfl, h1⟩ := dI_inv h
    obtain ⟨y, ds, rfl, h2⟩ := dI_inv h1
    obtain ⟨rfl, hE⟩ := dE_inv h2
    exact ⟨[SV.int IntKind.u64 x, SV.int IntKind.u64 y], [], fun vs => by kernel_rfl, (mul64_eq x y Q).trans hE⟩
noncomputable def look_mul64 {α : Type} : LookF α := addFn 80 (fEnt mul64_sp mul64_c) look_none
theorem look_mul64_ok {α : Type} : LookOk E.P (look_mul64 (α := α)) := addFn_ok mul64_c_ok (look_none_ok)
noncomputable def _root_.Go.Proofs.Ytkjellhkamfciaa.M.times {α : Type} (a : Int) (b : Int) (k0 : Int → Int → Option α) : Option α :=
  if cLt a (0 : Int) = true then
  if cLt b (0 : Int) = true then k0 (IntKind.wrap IntKind.u64 (IntKind.wrap IntKind.u64 (V.mul64_r0 (IntKind.wrap IntKind.u64 a) (IntKind.wrap IntKind.u64 b) - IntKind.wrap IntKind.u64 b) - IntKind.wrap IntKind.u64 a)) (V.mul64_r1 (IntKind.wrap IntKind.u64 a) (IntKind.wrap IntKind.u64 b)) else k0 (IntKind.wrap IntKind.u64 (V.mul64_r0 (IntKind.wrap IntKind.u64 a) (IntKind.wrap IntKind.u64 b) - IntKind.wrap IntKind.u64 b)) (V.mul64_r1 (IntKind.wrap IntKind.u64 a) (IntKind.wrap IntKind.u64 b))
else if cLt b (0 : Int) = true then k0 (IntKind.wrap IntKind.u64 (V.mul64_r0 (IntKind.wrap IntKind.u64 a) (IntKind.wrap IntKind.u64 b) - IntKind.wrap IntKind.u64 a)) (V.mul64_r1 (IntKind.wrap IntKind.u64 a) (IntKind.wrap IntKind.u64 b)) else k0 (V.mul64_r0 (IntKind.wrap IntKind.u64 a) (IntKind.wrap IntKind.u64 b)) (V.mul64_r1 (IntKind.wrap IntKind.u64 a) (IntKind.wrap IntKind.u64 b))
theorem times_eq {α : Type} (a : Int) (b : Int) (Q : SV → Hp → Option α) : callI E look_mul64 (exec E look_mul64 noLps 400) 66 ([SV.int .i64 a, SV.int .i64 b]) ([]) Q = M.times a b (fun (x2 : Int) (x3 : Int) => Q (SV.agg [SV.int IntKind.u64 x2, SV.int IntKind.u64 x3]) ([])) := by kernel_rfl
def times_sp : List AS := [.val (.int .i64 0), .val (.int .i64 0)]
noncomputable def _root_.Go.Proofs.Ytkjellhkamfciaa.V.times_r0 (a : Int) (b : Int) : Int :=
  if cLt a (0 : Int) = true then if cLt b (0 : Int) = true then IntKind.wrap IntKind.u64 (IntKind.wrap IntKind.u64 (V.mul64_r0 (IntKind.wrap IntKind.u64 a) (IntKind.wrap IntKind.u64 b) - IntKind.wrap IntKind.u64 b) - IntKind.wrap IntKind.u64 a) else IntKind.wrap IntKind.u64 (V.mul64_r0 (IntKind.wrap IntKind.u64 a) (IntKind.wrap IntKind.u64 b) - IntKind.wrap IntKind.u64 b)
else if cLt b (0 : Int) = true then IntKind.wrap IntKind.u64 (V.mul64_r0 (IntKind.wrap IntKind.u64 a) (IntKind.wrap IntKind.u64 b) - IntKind.wrap IntKind.u64 a) else V.mul64_r0 (IntKind.wrap IntKind.u64 a) (IntKind.wrap IntKind.u64 b)
noncomputable def _root_.Go.Proofs.Ytkjellhkamfciaa.V.times_r1 (a : Int) (b : Int) : Int :=
  if cLt a (0 : Int) = true then if cLt b (0 : Int) = true then V.mul64_r1 (IntKind.wrap IntKind.u64 a) (IntKind.wrap IntKind.u64 b) else V.mul64_r1 (IntKind.wrap IntKind.u64 a) (IntKind.wrap IntKind.u64 b) else if cLt b (0 : Int) = true then V.mul64_r1 (IntKind.wrap IntKind.u64 a) (IntKind.wrap IntKind.u64 b) else V.mul64_r1 (IntKind.wrap IntKind.u64 a) (IntKind.wrap IntKind.u64 b)
theorem times_val {α : Type} (a : Int) (b : Int) (k0 : Int → Int → Option α) : M.times a b k0 = k0 (V.times_r0 a b) (V.times_r1 a b) := by
  unfold M.times V.times_r0 V.times_r1
  repeat' first | rfl | (split <;> rename_i h <;> first | simp only [if_pos h] | simp only [if_neg h] | skip)
noncomputable def times_c {α : Type} (ds : List D) (Q : SV → Hp → Option α) : Option α :=
  dI ds fun a ds => dI ds fun b ds => dE ds (Q (SV.agg [SV.int IntKind.u64 (V.times_r0 a b), SV.int IntKind.u64 (V.times_r1 a b)]) ([]))
theorem times_c_ok {α : Type} : FnOk E.P 66 (fEnt (α := α) times_sp times_c) :=
  fEnt_ok E (look_mul64_ok) (exec_sound E E_ok (look_mul64_ok) (noLps_ok _) 400) fun ds Q r h => by
    unfold times_c at h
    obtain ⟨a, ds, rfl, h1⟩ := dI_inv h
    obtain ⟨b, ds, rfl, h2⟩ := dI_inv h1
    obtain ⟨rfl, hE⟩ := dE_inv h2
    exact ⟨[SV.int .i64 a, SV.int .i64 b], [], fun vs => by kernel_rfl, (times_eq a b Q).trans ((times_val a b (fun (x2 : Int) (x3 : Int) => Q (SV.agg [SV.int IntKind.u64 x2, SV.int IntKind.u64 x3]) ([]))).trans hE)⟩
noncomputable def times_go {α : Type} (ds : List D) (Q : SV → Hp → Option α) : Option α :=
  dI ds fun a ds => dI ds fun b ds => dE ds (M.times a b (fun (x2 : Int) (x3 : Int) => Q (SV.agg [SV.int IntKind.u64 x2, SV.int IntKind.u64 x3]) ([])))
theorem times_ok {α : Type} : FnOk E.P 66 (fEnt (α := α) times_sp times_go) :=
  fEnt_ok E (look_mul64_ok) (exec_sound E E_ok (look_mul64_ok) (noLps_ok _) 400) fun ds Q r h => by
    unfold times_go at h
    obtain ⟨a, ds, rfl, h1⟩ := dI_inv h
    obtain ⟨b, ds, rfl, h2⟩ := dI_inv h1
    obtain ⟨rfl, hE⟩ := dE_inv h2
    exact ⟨[SV.int .i64 a, SV.int .i64 b], [], fun vs => by kernel_rfl, (times_eq a b Q).trans hE⟩
noncomputable def look_times {α : Type} : LookF α := addFn 66 (fEnt times_sp times_c) look_mul64
theorem look_times_ok {α : Type} : LookOk E.P (look_times (α := α)) := addFn_ok times_c_ok (look_mul64_ok)
noncomputable def _root_.Go.Proofs.Ytkjellhkamfciaa.M.neg {α : Type} (hi : Int) (lo : Int) (k0 : Bool → Option α) : Option α :=
  k0 (cEq (Int.fdiv hi (9223372036854775808 : Int)) (1 : Int))
theorem neg_eq {α : Type} (hi : Int) (lo : Int) (Q : SV → Hp → Option α) : callI E look_times (exec E look_times noLps 400) 68 ([SV.agg [SV.int IntKind.u64 hi, SV.int IntKind.u64 lo]]) ([]) Q = M.neg hi lo (fun (x4 : Bool) => Q (SV.bool x4) ([])) := by kernel_rfl
def neg_sp : List AS := [.val (.agg [.int .u64 0, .int .u64 0])]
noncomputable def _root_.Go.Proofs.Ytkjellhkamfciaa.V.neg_r0 (hi : Int) (lo : Int) : Bool :=
  cEq (Int.fdiv hi (9223372036854775808 : Int)) (1 : Int)
theorem neg_val {α : Type} (hi : Int) (lo : Int) (k0 : Bool → Option α) : M.neg hi lo k0 = k0 (V.neg_r0 hi lo) := by
  unfold M.neg V.neg_r0
  repeat' first | rfl | (split <;> rename_i h <;> first | simp only [if_pos h] | simp only [if_neg h] | skip)
noncomputable def neg_c {α : Type} (ds : List D) (Q : SV → Hp → Option α) : Option α :=
  dI ds fun hi ds => dI ds fun lo ds => dE ds (Q (SV.bool (V.neg_r0 hi lo)) ([]))
theorem neg_c_ok {α : Type} : FnOk E.P 68 (fEnt (α := α) neg_sp neg_c) :=
  fEnt_ok E (look_times_ok) (exec_sound E E_ok (look_times_ok) (noLps_ok _) 400) fun ds Q r h => by
    unfold neg_c at h
    obtain ⟨hi, ds, rfl, h1⟩ := dI_inv h
    obtain ⟨lo, ds, rfl, h2⟩ := dI_inv h1
    obtain ⟨rfl, hE⟩ := dE_inv h2
    exact ⟨[SV.agg [SV.int IntKind.u64 hi, SV.int IntKind.u64 lo]], [], fun vs => by kernel_rfl, (neg_eq hi lo Q).trans ((neg_val hi lo (fun (x4 : Bool) => Q (SV.bool x4) ([]))).trans hE)⟩
noncomputable def neg_go {α : Type} (ds : List D) (Q : SV → Hp → Option α) : Option α :=
  dI ds fun hi ds => dI ds fun lo ds => dE ds (M.neg hi lo (fun (x4 : Bool) => Q (SV.bool x4) ([])))
theorem neg_ok {α : Type} : FnOk E.P 68 (fEnt (α := α) neg_sp neg_go) :=
  fEnt_ok E (look_times_ok) (exec_sound E E_ok (look_times_ok) (noLps_ok _) 400) fun ds Q r h => by
    unfold neg_go at h
    obtain ⟨hi, ds, rfl, h1⟩ := dI_inv h
    obtain ⟨lo, ds, rfl, h2⟩ := dI_inv h1
    obtain ⟨rfl, hE⟩ := dE_inv h2
    exact ⟨[SV.agg [SV.int IntKind.u64 hi, SV.int IntKind.u64 lo]], [], fun vs => by kernel_rfl, (neg_eq hi lo Q).trans hE⟩
noncomputable def look_neg {α : Type} : LookF α := addFn 68 (fEnt neg_sp neg_c) look_times
theorem look_neg_ok {α : Type} : LookOk E.P (look_neg (α := α)) := addFn_ok neg_c_ok (look_times_ok)
noncomputable def _root_.Go.Proofs.Ytkjellhkamfciaa.M.minus {α : Type} (hi : Int) (lo : Int) (k0 : Int → Int → Option α) : Option α :=
  if Int.toNat (Int.ofNat (if (0 : Nat) < Int.toNat lo + (0 : Nat) then (1 : Nat) else (0 : Nat))) > (1 : Nat) then none else k0 (Int.ofNat (((18446744073709551616 : Nat) - Int.toNat hi - Int.toNat (Int.ofNat (if (0 : Nat) < Int.toNat lo + (0 : Nat) then (1 : Nat) else (0 : Nat)))) % (18446744073709551616 : Nat))) (Int.ofNat (((18446744073709551616 : Nat) - Int.toNat lo - (0 : Nat)) % (18446744073709551616 : Nat)))
theorem minus_eq {α : Type} (hi : Int) (lo : Int) (Q : SV → Hp → Option α) : callI E look_neg (exec E look_neg noLps 400) 67 ([SV.agg [SV.int IntKind.u64 hi, SV.int IntKind.u64 lo]]) ([]) Q = M.minus hi lo (fun (x5 : Int) (x6 : Int) => Q (SV.agg [SV.int IntKind.u64 x5, SV.int IntKind.u64 x6]) ([])) := by kernel_rfl
def minus_sp : List AS := [.val (.agg [.int .u64 0, .int .u64 0])]
noncomputable def _root_.Go.Proofs.Ytkjellhkamfciaa.V.minus_g (hi : Int) (lo : Int) : Bool :=
  if Int.toNat (Int.ofNat (if (0 : Nat) < Int.toNat lo + (0 : Nat) then (1 : Nat) else (0 : Nat))) > (1 : Nat) then false else true
noncomputable def _root_.Go.Proofs.Ytkjellhkamfciaa.V.minus_r0 (hi : Int) (lo : Int) : Int :=
  if Int.toNat (Int.ofNat (if (0 : Nat) < Int.toNat lo + (0 : Nat) then (1 : Nat) else (0 : Nat))) > (1 : Nat) then (0 : Int) else Int.ofNat (((18446744073709551616 : Nat) - Int.toNat hi - Int.toNat (Int.ofNat (if (0 : Nat) < Int.toNat lo + (0 : Nat) then (1 : Nat) else (0 : Nat)))) % (18446744073709551616 : Nat))
noncomputable def _root_.Go.Proofs.Ytkjellhkamfciaa.V.minus_r1 (hi : Int) (lo : Int) : Int :=
  if Int.toNat (Int.ofNat (if (0 : Nat) < Int.toNat lo + (0 : Nat) then (1 : Nat) else (0 : Nat))) > (1 : Nat) then (0 : Int) else Int.ofNat (((18446744073709551616 : Nat) - Int.toNat lo - (0 : Nat)) % (18446744073709551616 : Nat))
theorem minus_val {α : Type} (hi : Int) (lo : Int) (k0 : Int → Int → Option α) : M.minus hi lo k0 = if V.minus_g hi lo = true then k0 (V.minus_r0 hi lo) (V.minus_r1 hi lo) else none := by
  unfold M.minus V.minus_g V.minus_r0 V.minus_r1
  repeat' first | rfl | (split <;> rename_i h <;> first | simp only [if_pos h] | simp only [if_neg h] | skip)
noncomputable def minus_c {α : Type} (ds : List D) (Q : SV → Hp → Option α) : Option α :=
  dI ds fun hi ds => dI ds fun lo ds => dE ds (if V.minus_g hi lo = true then Q (SV.agg [SV.int IntKind.u64 (V.minus_r0 hi lo), SV.int IntKind.u64 (V.minus_r1 hi lo)]) ([]) else none)
theorem minus_c_ok {α : Type} : FnOk E.P 67 (fEnt (α := α) minus_sp minus_c) :=
  fEnt_ok E (look_neg_ok) (exec_sound E E_ok (look_neg_ok) (noLps_ok _) 400) fun ds Q r h => by
    unfold minus_c at h
    obtain ⟨hi, ds, rfl, h1⟩ := dI_inv h
    obtain ⟨lo, ds, rfl, h2⟩ := dI_inv h1
    obtain ⟨rfl, hE⟩ := dE_inv h2
    exact ⟨[SV.agg [SV.int IntKind.u64 hi, SV.int IntKind.u64 lo]], [], fun vs => by kernel_rfl, (minus_eq hi lo Q).trans ((minus_val hi lo (fun (x5 : Int) (x6 : Int) => Q (SV.agg [SV.int IntKind.u64 x5, SV.int IntKind.u64 x6]) ([]))).trans hE)⟩
noncomputable def minus_go {α : Type} (ds : List D) (Q : SV → Hp → Option α) : Option α :=
  dI ds fun hi ds => dI ds fun lo ds => dE ds (M.minus hi lo (fun (x5 : Int) (x6 : Int) => Q (SV.agg [SV.int IntKind.u64 x5, SV.int IntKind.u64 x6]) ([])))
theorem minus_ok {α : Type} : FnOk E.P 67 (fEnt (α := α) minus_sp minus_go) :=
  fEnt_ok E (look_neg_ok) (exec_sound E E_ok (look_neg_ok) (noLps_ok _) 400) fun ds Q r h => by
    unfold minus_go at h
    obtain ⟨hi, ds, rfl, h1⟩ := dI_inv h
    obtain ⟨lo, ds, rfl, h2⟩ := dI_inv h1
    obtain ⟨rfl, hE⟩ := dE_inv h2
    exact ⟨[SV.agg [SV.int IntKind.u64 hi, SV.int IntKind.u64 lo]], [], fun vs => by kernel_rfl, (minus_eq hi lo Q).trans hE⟩
noncomputable def look_minus {α : Type} : LookF α := addFn 67 (fEnt minus_sp minus_c) look_neg
theorem look_minus_ok {α : Type} : LookOk E.P (look_minus (α := α)) := addFn_ok minus_c_ok (look_neg_ok)
noncomputable def _root_.Go.Proofs.Ytkjellhkamfciaa.M.tells {α : Type} (bad : Bool) (n : Int) (ok : Bool) (k0 : Int → Bool → Option α) : Option α :=
  if (!ok) = true then k0 (0 : Int) true else if cLt n (-4611686018427387903 : Int) = true then k0 (0 : Int) true else if cLt (4611686018427387903 : Int) n = true then k0 (0 : Int) true else k0 n bad
theorem tells_eq {α : Type} (bad : Bool) (n : Int) (ok : Bool) (Q : SV → Hp → Option α) : callI E look_minus (exec E look_minus noLps 400) 72 ([SV.ptr (nat_lit 0) (nat_lit 0), SV.int .i64 n, SV.bool ok]) ([.cells [SV.bool bad] (nat_lit 68)]) Q = M.tells bad n ok (fun (x7 : Int) (x8 : Bool) => Q (SV.int .i64 x7) ([.cells [SV.bool x8] (nat_lit 68)])) := by kernel_rfl
def tells_sp : List AS := [.ptr 68 [.bool false], .val (.int .i64 0), .val (.bool false)]
noncomputable def _root_.Go.Proofs.Ytkjellhkamfciaa.V.tells_r0 (bad : Bool) (n : Int) (ok : Bool) : Int :=
  if (!ok) = true then (0 : Int) else if cLt n (-4611686018427387903 : Int) = true then (0 : Int) else if cLt (4611686018427387903 : Int) n = true then (0 : Int) else n
noncomputable def _root_.Go.Proofs.Ytkjellhkamfciaa.V.tells_r1 (bad : Bool) (n : Int) (ok : Bool) : Bool :=
  if (!ok) = true then true else if cLt n (-4611686018427387903 : Int) = true then true else if cLt (4611686018427387903 : Int) n = true then true else bad
theorem tells_val {α : Type} (bad : Bool) (n : Int) (ok : Bool) (k0 : Int → Bool → Option α) : M.tells bad n ok k0 = k0 (V.tells_r0 bad n ok) (V.tells_r1 bad n ok) := by
  unfold M.tells V.tells_r0 V.tells_r1
  repeat' first | rfl | (split <;> rename_i h <;> first | simp only [if_pos h] | simp only [if_neg h] | skip)
noncomputable def tells_c {α : Type} (ds : List D) (Q : SV → Hp → Option α) : Option α :=
  dB ds fun bad ds => dI ds fun n ds => dB ds fun ok ds => dE ds (Q (SV.int .i64 (V.tells_r0 bad n ok)) ([.cells [SV.bool (V.tells_r1 bad n ok)] (nat_lit 68)]))
theorem tells_c_ok {α : Type} : FnOk E.P 72 (fEnt (α := α) tells_sp tells_c) :=
  fEnt_ok E (look_minus_ok) (exec_sound E E_ok (look_minus_ok) (noLps_ok _) 400) fun ds Q r h => by
    unfold tells_c at h
    obtain ⟨bad, ds, rfl, h1⟩ := dB_inv h
    obtain ⟨n, ds, rfl, h2⟩ := dI_inv h1
    obtain ⟨ok, ds, rfl, h3⟩ := dB_inv h2
    obtain ⟨rfl, hE⟩ := dE_inv h3
    exact ⟨[SV.ptr (nat_lit 0) (nat_lit 0), SV.int .i64 n, SV.bool ok], [.cells [SV.bool bad] (nat_lit 68)], fun vs => by kernel_rfl, (tells_eq bad n ok Q).trans ((tells_val bad n ok (fun (x7 : Int) (x8 : Bool) => Q (SV.int .i64 x7) ([.cells [SV.bool x8] (nat_lit 68)]))).trans hE)⟩
noncomputable def tells_go {α : Type} (ds : List D) (Q : SV → Hp → Option α) : Option α :=
  dB ds fun bad ds => dI ds fun n ds => dB ds fun ok ds => dE ds (M.tells bad n ok (fun (x7 : Int) (x8 : Bool) => Q (SV.int .i64 x7) ([.cells [SV.bool x8] (nat_lit 68)])))
theorem tells_ok {α : Type} : FnOk E.P 72 (fEnt (α := α) tells_sp tells_go) :=
  fEnt_ok E (look_minus_ok) (exec_sound E E_ok (look_minus_ok) (noLps_ok _) 400) fun ds Q r h => by
    unfold tells_go at h
    obtain ⟨bad, ds, rfl, h1⟩ := dB_inv h
    obtain ⟨n, ds, rfl, h2⟩ := dI_inv h1
    obtain ⟨ok, ds, rfl, h3⟩ := dB_inv h2
    obtain ⟨rfl, hE⟩ := dE_inv h3
    exact ⟨[SV.ptr (nat_lit 0) (nat_lit 0), SV.int .i64 n, SV.bool ok], [.cells [SV.bool bad] (nat_lit 68)], fun vs => by kernel_rfl, (tells_eq bad n ok Q).trans hE⟩
noncomputable def look_tells {α : Type} : LookF α := addFn 72 (fEnt tells_sp tells_c) look_minus
theorem look_tells_ok {α : Type} : LookOk E.P (look_tells (α := α)) := addFn_ok tells_c_ok (look_minus_ok)
end Go.Proofs.Ytkjellhkamfciaa.Sx
end

section
/- The loops that look for a great number. -/
namespace Go.Proofs.Ytkjellhkamfciaa.Sx
open Go
set_option maxRecDepth 20000
set_option linter.unusedVariables false
set_option linter.unusedSimpArgs false
def isG (n : Int) : Bool := decide (n < -4611686018427387903) || decide (4611686018427387903 < n)
def _root_.Go.Proofs.Ytkjellhkamfciaa.V.anyG (l : List Int) : Bool := l.any isG
theorem drop_any (l : List Int) (i : Nat) (h : i < l.length) : (l.drop i).any isG = (isG (l.getD i 0) || (l.drop (i + 1)).any isG) := by
  rw [List.drop_eq_getElem_cons h, List.any_cons]; simp [List.getD_eq_getElem?_getD, h]
theorem getD_toNat (l : List Int) (i : Nat) : l.getD (Int.toNat (i : Int)) 0 = l.getD i 0 := by simp
noncomputable def _root_.Go.Proofs.Ytkjellhkamfciaa.M.great_l0_step {α : Type} (x6 : List Int) (x7 : Int) (kn : Int → Option α) (k0 : Option α) (k2 : Option α) (x8 : Int) : Option α :=
  if cLt x8 x7 = true then if (0 : Int) ≤ x8 ∧ x8 < (↑(List.length x6) : Int) then if cLt (List.getD x6 (Int.toNat x8) (0 : Int)) (-4611686018427387903 : Int) = true then k0 else if cLt (4611686018427387903 : Int) (List.getD x6 (Int.toNat x8) (0 : Int)) = true then k0 else kn (IntKind.wrap .i64 (x8 + (1 : Int))) else none else k2
noncomputable def _root_.Go.Proofs.Ytkjellhkamfciaa.M.great_l0 {α : Type} (x6 : List Int) (x7 : Int) (k0 : Option α) (k2 : Option α) : Nat → Int → Option α
  | 0, _ => none
  | n + 1, x8 => M.great_l0_step x6 x7 (M.great_l0 x6 x7 k0 k2 n) k0 k2 x8
theorem great_l0_step_eq {α : Type} (x5 : Value) (x6 : List Int) (x7 : Int) (x8 : Int) (Q : Ex → St → Option α) : (loopStep E (exec E look_tells noLps 400) 63 [false, true, false, true] 0 (codeAt E.P 63 [false, true, false, true])) (St.mk (nn 5 (some (SV.ros x5 (K.int IntKind.i64) x6) :: some (SV.int .i64 x7) :: some (SV.int .i64 x8) :: nn 10 ([]))) []) Q = M.great_l0_step x6 x7 (fun (x9 : Int) => Q .normal (St.mk (nn 5 (some (SV.ros x5 (K.int IntKind.i64) x6) :: some (SV.int .i64 x7) :: some (SV.int .i64 x9) :: nn 10 ([]))) [])) (Q .ret (St.mk (none :: none :: some (SV.bool true) :: nn 15 ([])) [])) (Q (.exit 0) (St.mk (nn 18 ([])) [])) x8 := by kernel_rfl
theorem great_l0_iter {α : Type} (x5 : Value) (x6 : List Int) (x7 : Int) (Q : Ex → St → Option α) : ∀ (n : Nat) (x8 : Int), iter (loopStep E (exec E look_tells noLps 400) 63 [false, true, false, true] 0 (codeAt E.P 63 [false, true, false, true])) n (St.mk (nn 5 (some (SV.ros x5 (K.int IntKind.i64) x6) :: some (SV.int .i64 x7) :: some (SV.int .i64 x8) :: nn 10 ([]))) []) Q = M.great_l0 x6 x7 (Q .ret (St.mk (none :: none :: some (SV.bool true) :: nn 15 ([])) [])) (Q (.exit 0) (St.mk (nn 18 ([])) [])) n x8
  | 0, _ => rfl
  | n + 1, x8 => (great_l0_step_eq x5 x6 x7 x8 (iterK (loopStep E (exec E look_tells noLps 400) 63 [false, true, false, true] 0 (codeAt E.P 63 [false, true, false, true])) n Q)).trans (congrArg (fun kn => M.great_l0_step x6 x7 kn (Q .ret (St.mk (none :: none :: some (SV.bool true) :: nn 15 ([])) [])) (Q (.exit 0) (St.mk (nn 18 ([])) [])) x8) (funext fun x8 => great_l0_iter x5 x6 x7 Q n x8))
noncomputable def great_l0_go {α : Type} (ds : List D) (Q : Ex → St → Option α) : Option α :=
  dV ds fun x5 ds => dL (K.int IntKind.i64) ds fun x6 ds => dI ds fun x7 ds => dI ds fun x8 ds => dE ds (M.great_l0 x6 x7 (Q .ret (St.mk (none :: none :: some (SV.bool true) :: nn 15 ([])) [])) (Q (.exit 0) (St.mk (nn 18 ([])) [])) (100 + x6.length) x8)
theorem great_l0_ok {α : Type} : LoopOk E.P 63 [false, true, false, true] 0 (lEnt (α := α) (St.mk (nn 5 (some (SV.ros undef (K.int IntKind.i64) []) :: some (SV.int .i64 (0 : Int)) :: some (SV.int .i64 (0 : Int)) :: nn 10 ([]))) []) great_l0_go) :=
  lEnt_ok E (exec_sound E E_ok (look_tells_ok) (noLps_ok _) 400) fun ds Q r h S hS => by
    unfold great_l0_go at h
    obtain ⟨x5, ds, rfl, h1⟩ := dV_inv h
    obtain ⟨x6, ds, rfl, h2⟩ := dL_inv h1
    obtain ⟨x7, ds, rfl, h3⟩ := dI_inv h2
    obtain ⟨x8, ds, rfl, h4⟩ := dI_inv h3
    obtain ⟨rfl, hE⟩ := dE_inv h4
    have e : fillS (St.mk (nn 5 (some (SV.ros undef (K.int IntKind.i64) []) :: some (SV.int .i64 (0 : Int)) :: some (SV.int .i64 (0 : Int)) :: nn 10 ([]))) []) [.v x5, .l (K.int IntKind.i64) x6, .i x7, .i x8] = some (St.mk (nn 5 (some (SV.ros x5 (K.int IntKind.i64) x6) :: some (SV.int .i64 x7) :: some (SV.int .i64 x8) :: nn 10 ([]))) []) := by kernel_rfl
    rw [e] at hS
    cases hS
    exact ⟨_, (great_l0_iter x5 x6 x7 Q _ x8).trans hE⟩
noncomputable def great_l0_lps {α : Type} : LookL α := addLp 63 [false, true, false, true] 0 (lEnt (St.mk (nn 5 (some (SV.ros undef (K.int IntKind.i64) []) :: some (SV.int .i64 (0 : Int)) :: some (SV.int .i64 (0 : Int)) :: nn 10 ([]))) []) great_l0_go) noLps
theorem great_l0_lps_ok {α : Type} : LoopsOk E.P (great_l0_lps (α := α)) := addLp_ok great_l0_ok (noLps_ok _)

noncomputable def _root_.Go.Proofs.Ytkjellhkamfciaa.M.great {α : Type} (l : List Int) (k0 : Bool → Option α) : Option α :=
  M.great_l0 l (↑(List.length l) : Int) (k0 true) (k0 false) ((100 : Nat) + List.length l) (0 : Int)
theorem great_eq {α : Type} (l : List Int) (v10 : Value) (Q : SV → Hp → Option α) : callI E look_tells (exec E look_tells great_l0_lps 400) 63 ([SV.ros v10 (K.int IntKind.i64) l]) ([]) Q = M.great l (fun (x11 : Bool) => Q (SV.bool x11) ([])) := by kernel_rfl
def great_sp : List AS := [.ro (.int .i64)]
theorem great_l0_val {α : Type} (l : List Int) (hl : l.length < 9223372036854775808) (k0 : Option α) (k2 : Option α) : ∀ (fuel i : Nat), i ≤ l.length → l.length - i < fuel →
    M.great_l0 l (l.length : Int) k0 k2 fuel (i : Int) = if (l.drop i).any isG = true then k0 else k2
  | 0, i, h1, h2 => by omega
  | n + 1, i, h1, h2 => by
    unfold M.great_l0 M.great_l0_step
    by_cases hi : i < l.length
    · have ih := great_l0_val l hl k0 k2 n (i + 1) (by omega) (by omega)
      rw [IntWalk.i64_in _ (by omega : -9223372036854775808 ≤ (i : Int) + 1 ∧ (i : Int) + 1 ≤ 9223372036854775807), drop_any l i hi]
      push_cast at ih
      rw [ih]
      simp only [cLt_eq, getD_toNat, isG]
      have : (i : Int) < (l.length : Int) := by omega
      simp only [this, decide_true, if_true, Int.natCast_nonneg, and_self]
      generalize l.getD i 0 = y
      generalize (l.drop (i + 1)).any isG = z
      by_cases a : y < -4611686018427387903
      · simp [a]
      · by_cases b : 4611686018427387903 < y <;> simp [a, b]
    · have : i = l.length := by omega
      subst this
      simp [cLt_eq]
theorem great_val {α : Type} (l : List Int) (hl : l.length < 9223372036854775808) (k0 : Bool → Option α) : M.great l k0 = k0 (V.anyG l) := by
  unfold M.great
  have := great_l0_val l hl (k0 true) (k0 false) (100 + l.length) 0 (by omega) (by omega)
  rw [Int.natCast_zero] at this
  rw [this, V.anyG, List.drop_zero]
  cases l.any isG <;> rfl
noncomputable def great_c {α : Type} (ds : List D) (Q : SV → Hp → Option α) : Option α :=
  dL (.int .i64) ds fun l ds => dE ds (if l.length < 9223372036854775808 then Q (.bool (V.anyG l)) [] else none)
theorem great_c_ok {α : Type} : FnOk E.P 63 (fEnt (α := α) great_sp great_c) :=
  fEntR_ok E look_tells_ok (exec_sound E E_ok look_tells_ok great_l0_lps_ok 400) fun ds Q r h => by
    unfold great_c at h
    obtain ⟨l, ds, rfl, h1⟩ := dL_inv h
    obtain ⟨rfl, hE⟩ := dE_inv h1
    split at hE
    · rename_i hl
      exact ⟨_, _, hE, fun vs => ⟨[.ros (vs.headD undef) (.int .i64) l], [], by kernel_rfl, (great_eq l _ _).trans (great_val l hl _)⟩⟩
    · cases hE
noncomputable def look_great {α : Type} : LookF α := addFn 63 (fEnt great_sp great_c) look_tells
theorem look_great_ok {α : Type} : LookOk E.P (look_great (α := α)) := addFn_ok great_c_ok (look_tells_ok)
noncomputable def _root_.Go.Proofs.Ytkjellhkamfciaa.M.rgreat_l0_step {α : Type} (x17 : List Int) (kn : Int → Option α) (k0 : Option α) (k2 : Option α) (x18 : Int) : Option α :=
  if cLt x18 (↑(List.length x17) : Int) = true then if (0 : Int) ≤ x18 ∧ x18 < (↑(List.length x17) : Int) then if cLt (List.getD x17 (Int.toNat x18) (0 : Int)) (-4611686018427387903 : Int) = true then k0 else if (0 : Int) ≤ x18 ∧ x18 < (↑(List.length x17) : Int) then if cLt (4611686018427387903 : Int) (List.getD x17 (Int.toNat x18) (0 : Int)) = true then k0 else kn (IntKind.wrap .i64 (x18 + (1 : Int))) else none else none else k2
noncomputable def _root_.Go.Proofs.Ytkjellhkamfciaa.M.rgreat_l0 {α : Type} (x17 : List Int) (k0 : Option α) (k2 : Option α) : Nat → Int → Option α
  | 0, _ => none
  | n + 1, x18 => M.rgreat_l0_step x17 (M.rgreat_l0 x17 k0 k2 n) k0 k2 x18
theorem rgreat_l0_step_eq {α : Type} (x16 : Value) (x17 : List Int) (x18 : Int) (Q : Ex → St → Option α) : (loopStep E (exec E look_great noLps 400) 71 [false, true, false, true] 0 (codeAt E.P 71 [false, true, false, true])) (St.mk (some (SV.ros x16 (K.int IntKind.i64) x17) :: none :: none :: some (SV.int .i64 x18) :: nn 18 ([])) []) Q = M.rgreat_l0_step x17 (fun (x19 : Int) => Q .normal (St.mk (some (SV.ros x16 (K.int IntKind.i64) x17) :: none :: none :: some (SV.int .i64 x19) :: nn 18 ([])) [])) (Q .ret (St.mk (none :: none :: some (SV.bool true) :: nn 19 ([])) [])) (Q (.exit 0) (St.mk (nn 22 ([])) [])) x18 := by kernel_rfl
theorem rgreat_l0_iter {α : Type} (x16 : Value) (x17 : List Int) (Q : Ex → St → Option α) : ∀ (n : Nat) (x18 : Int), iter (loopStep E (exec E look_great noLps 400) 71 [false, true, false, true] 0 (codeAt E.P 71 [false, true, false, true])) n (St.mk (some (SV.ros x16 (K.int IntKind.i64) x17) :: none :: none :: some (SV.int .i64 x18) :: nn 18 ([])) []) Q = M.rgreat_l0 x17 (Q .ret (St.mk (none :: none :: some (SV.bool true) :: nn 19 ([])) [])) (Q (.exit 0) (St.mk (nn 22 ([])) [])) n x18
  | 0, _ => rfl
  | n + 1, x18 => (rgreat_l0_step_eq x16 x17 x18 (iterK (loopStep E (exec E look_great noLps 400) 71 [false, true, false, true] 0 (codeAt E.P 71 [false, true, false, true])) n Q)).trans (congrArg (fun kn => M.rgreat_l0_step x17 kn (Q .ret (St.mk (none :: none :: some (SV.bool true) :: nn 19 ([])) [])) (Q (.exit 0) (St.mk (nn 22 ([])) [])) x18) (funext fun x18 => rgreat_l0_iter x16 x17 Q n x18))
noncomputable def rgreat_l0_go {α : Type} (ds : List D) (Q : Ex → St → Option α) : Option α :=
  dV ds fun x16 ds => dL (K.int IntKind.i64) ds fun x17 ds => dI ds fun x18 ds => dE ds (M.rgreat_l0 x17 (Q .ret (St.mk (none :: none :: some (SV.bool true) :: nn 19 ([])) [])) (Q (.exit 0) (St.mk (nn 22 ([])) [])) (100 + x17.length) x18)
theorem rgreat_l0_ok {α : Type} : LoopOk E.P 71 [false, true, false, true] 0 (lEnt (α := α) (St.mk (some (SV.ros undef (K.int IntKind.i64) []) :: none :: none :: some (SV.int .i64 (0 : Int)) :: nn 18 ([])) []) rgreat_l0_go) :=
  lEnt_ok E (exec_sound E E_ok (look_great_ok) (noLps_ok _) 400) fun ds Q r h S hS => by
    unfold rgreat_l0_go at h
    obtain ⟨x16, ds, rfl, h1⟩ := dV_inv h
    obtain ⟨x17, ds, rfl, h2⟩ := dL_inv h1
    obtain ⟨x18, ds, rfl, h3⟩ := dI_inv h2
    obtain ⟨rfl, hE⟩ := dE_inv h3
    have e : fillS (St.mk (some (SV.ros undef (K.int IntKind.i64) []) :: none :: none :: some (SV.int .i64 (0 : Int)) :: nn 18 ([])) []) [.v x16, .l (K.int IntKind.i64) x17, .i x18] = some (St.mk (some (SV.ros x16 (K.int IntKind.i64) x17) :: none :: none :: some (SV.int .i64 x18) :: nn 18 ([])) []) := by kernel_rfl
    rw [e] at hS
    cases hS
    exact ⟨_, (rgreat_l0_iter x16 x17 Q _ x18).trans hE⟩
noncomputable def rgreat_l0_lps {α : Type} : LookL α := addLp 71 [false, true, false, true] 0 (lEnt (St.mk (some (SV.ros undef (K.int IntKind.i64) []) :: none :: none :: some (SV.int .i64 (0 : Int)) :: nn 18 ([])) []) rgreat_l0_go) noLps
theorem rgreat_l0_lps_ok {α : Type} : LoopsOk E.P (rgreat_l0_lps (α := α)) := addLp_ok rgreat_l0_ok (noLps_ok _)

noncomputable def _root_.Go.Proofs.Ytkjellhkamfciaa.M.rgreat {α : Type} (l : List Int) (k0 : Bool → Option α) : Option α :=
  M.rgreat_l0 l (k0 true) (k0 false) ((100 : Nat) + List.length l) (0 : Int)
theorem rgreat_eq {α : Type} (l : List Int) (v20 : Value) (Q : SV → Hp → Option α) : callI E look_great (exec E look_great rgreat_l0_lps 400) 71 ([SV.ros v20 (K.int IntKind.i64) l]) ([]) Q = M.rgreat l (fun (x21 : Bool) => Q (SV.bool x21) ([])) := by kernel_rfl
def rgreat_sp : List AS := [.ro (.int .i64)]
theorem rgreat_l0_val {α : Type} (l : List Int) (hl : l.length < 9223372036854775808) (k0 : Option α) (k2 : Option α) : ∀ (fuel i : Nat), i ≤ l.length → l.length - i < fuel →
    M.rgreat_l0 l k0 k2 fuel (i : Int) = if (l.drop i).any isG = true then k0 else k2
  | 0, i, h1, h2 => by omega
  | n + 1, i, h1, h2 => by
    unfold M.rgreat_l0 M.rgreat_l0_step
    by_cases hi : i < l.length
    · have ih := rgreat_l0_val l hl k0 k2 n (i + 1) (by omega) (by omega)
      rw [IntWalk.i64_in _ (by omega : -9223372036854775808 ≤ (i : Int) + 1 ∧ (i : Int) + 1 ≤ 9223372036854775807), drop_any l i hi]
      push_cast at ih
      rw [ih]
      simp only [cLt_eq, getD_toNat, isG]
      have : (i : Int) < (l.length : Int) := by omega
      simp only [this, decide_true, if_true, Int.natCast_nonneg, and_self]
      generalize l.getD i 0 = y
      generalize (l.drop (i + 1)).any isG = z
      by_cases a : y < -4611686018427387903
      · simp [a]
      · by_cases b : 4611686018427387903 < y <;> simp [a, b]
    · have : i = l.length := by omega
      subst this
      simp [cLt_eq]
theorem rgreat_val {α : Type} (l : List Int) (hl : l.length < 9223372036854775808) (k0 : Bool → Option α) : M.rgreat l k0 = k0 (V.anyG l) := by
  unfold M.rgreat
  have := rgreat_l0_val l hl (k0 true) (k0 false) (100 + l.length) 0 (by omega) (by omega)
  rw [Int.natCast_zero] at this
  rw [this, V.anyG, List.drop_zero]
  cases l.any isG <;> rfl
theorem rgreat_c_ok {α : Type} : FnOk E.P 71 (fEnt (α := α) rgreat_sp great_c) :=
  fEntR_ok E look_great_ok (exec_sound E E_ok look_great_ok rgreat_l0_lps_ok 400) fun ds Q r h => by
    unfold great_c at h
    obtain ⟨l, ds, rfl, h1⟩ := dL_inv h
    obtain ⟨rfl, hE⟩ := dE_inv h1
    split at hE
    · rename_i hl
      exact ⟨_, _, hE, fun vs => ⟨[.ros (vs.headD undef) (.int .i64) l], [], by kernel_rfl, (rgreat_eq l _ _).trans (rgreat_val l hl _)⟩⟩
    · cases hE
noncomputable abbrev rgreat_c {α : Type} := great_c (α := α)
noncomputable def look_rgreat {α : Type} : LookF α := addFn 71 (fEnt rgreat_sp rgreat_c) look_great
theorem look_rgreat_ok {α : Type} : LookOk E.P (look_rgreat (α := α)) := addFn_ok rgreat_c_ok (look_great_ok)
end Go.Proofs.Ytkjellhkamfciaa.Sx
end

section
/- The quotient of a double word. -/
namespace Go.Proofs.Ytkjellhkamfciaa.Sx
open Go
set_option maxRecDepth 20000
set_option linter.unusedVariables false
set_option linter.unusedSimpArgs false
noncomputable def _root_.Go.Proofs.Ytkjellhkamfciaa.M.len64 {α : Type} (x : Int) (k0 : Int → Option α) : Option α :=
  if cLe (4294967296 : Int) x = true then
  if cLe (65536 : Int) (Int.fdiv x (4294967296 : Int)) = true then
    if cLe (256 : Int) (Int.fdiv (Int.fdiv x (4294967296 : Int)) (65536 : Int)) = true then
      if (0 : Int) ≤ IntKind.wrap IntKind.u8 (Int.fdiv (Int.fdiv (Int.fdiv x (4294967296 : Int)) (65536 : Int)) (256 : Int)) ∧ IntKind.wrap IntKind.u8 (Int.fdiv (Int.fdiv (Int.fdiv x (4294967296 : Int)) (65536 : Int)) (256 : Int)) < (256 : Int) then k0 (IntKind.wrap .i64 ((56 : Int) + IntKind.wrap .i64 (strAt len8 (IntKind.wrap IntKind.u8 (Int.fdiv (Int.fdiv (Int.fdiv x (4294967296 : Int)) (65536 : Int)) (256 : Int)))))) else none
    else if (0 : Int) ≤ IntKind.wrap IntKind.u8 (Int.fdiv (Int.fdiv x (4294967296 : Int)) (65536 : Int)) ∧ IntKind.wrap IntKind.u8 (Int.fdiv (Int.fdiv x (4294967296 : Int)) (65536 : Int)) < (256 : Int) then k0 (IntKind.wrap .i64 ((48 : Int) + IntKind.wrap .i64 (strAt len8 (IntKind.wrap IntKind.u8 (Int.fdiv (Int.fdiv x (4294967296 : Int)) (65536 : Int)))))) else none
  else
    if cLe (256 : Int) (Int.fdiv x (4294967296 : Int)) = true then if (0 : Int) ≤ IntKind.wrap IntKind.u8 (Int.fdiv (Int.fdiv x (4294967296 : Int)) (256 : Int)) ∧ IntKind.wrap IntKind.u8 (Int.fdiv (Int.fdiv x (4294967296 : Int)) (256 : Int)) < (256 : Int) then k0 (IntKind.wrap .i64 ((40 : Int) + IntKind.wrap .i64 (strAt len8 (IntKind.wrap IntKind.u8 (Int.fdiv (Int.fdiv x (4294967296 : Int)) (256 : Int)))))) else none
    else if (0 : Int) ≤ IntKind.wrap IntKind.u8 (Int.fdiv x (4294967296 : Int)) ∧ IntKind.wrap IntKind.u8 (Int.fdiv x (4294967296 : Int)) < (256 : Int) then k0 (IntKind.wrap .i64 ((32 : Int) + IntKind.wrap .i64 (strAt len8 (IntKind.wrap IntKind.u8 (Int.fdiv x (4294967296 : Int)))))) else none
else
  if cLe (65536 : Int) x = true then
    if cLe (256 : Int) (Int.fdiv x (65536 : Int)) = true then if (0 : Int) ≤ IntKind.wrap IntKind.u8 (Int.fdiv (Int.fdiv x (65536 : Int)) (256 : Int)) ∧ IntKind.wrap IntKind.u8 (Int.fdiv (Int.fdiv x (65536 : Int)) (256 : Int)) < (256 : Int) then k0 (IntKind.wrap .i64 ((24 : Int) + IntKind.wrap .i64 (strAt len8 (IntKind.wrap IntKind.u8 (Int.fdiv (Int.fdiv x (65536 : Int)) (256 : Int)))))) else none
    else if (0 : Int) ≤ IntKind.wrap IntKind.u8 (Int.fdiv x (65536 : Int)) ∧ IntKind.wrap IntKind.u8 (Int.fdiv x (65536 : Int)) < (256 : Int) then k0 (IntKind.wrap .i64 ((16 : Int) + IntKind.wrap .i64 (strAt len8 (IntKind.wrap IntKind.u8 (Int.fdiv x (65536 : Int)))))) else none
  else
    if cLe (256 : Int) x = true then if (0 : Int) ≤ IntKind.wrap IntKind.u8 (Int.fdiv x (256 : Int)) ∧ IntKind.wrap IntKind.u8 (Int.fdiv x (256 : Int)) < (256 : Int) then k0 (IntKind.wrap .i64 ((8 : Int) + IntKind.wrap .i64 (strAt len8 (IntKind.wrap IntKind.u8 (Int.fdiv x (256 : Int)))))) else none
    else if (0 : Int) ≤ IntKind.wrap IntKind.u8 x ∧ IntKind.wrap IntKind.u8 x < (256 : Int) then k0 (IntKind.wrap .i64 ((0 : Int) + IntKind.wrap .i64 (strAt len8 (IntKind.wrap IntKind.u8 x)))) else none
theorem len64_eq {α : Type} (x : Int) (Q : SV → Hp → Option α) : callI E look_rgreat (exec E look_rgreat noLps 400) 83 ([SV.int IntKind.u64 x]) ([]) Q = M.len64 x (fun (x0 : Int) => Q (SV.int .i64 x0) ([])) := by kernel_rfl
def len64_sp : List AS := [.val (.int .u64 0)]
noncomputable def _root_.Go.Proofs.Ytkjellhkamfciaa.V.len64_g (x : Int) : Bool :=
  if cLe (4294967296 : Int) x = true then
  if cLe (65536 : Int) (Int.fdiv x (4294967296 : Int)) = true then
    if cLe (256 : Int) (Int.fdiv (Int.fdiv x (4294967296 : Int)) (65536 : Int)) = true then if (0 : Int) ≤ IntKind.wrap IntKind.u8 (Int.fdiv (Int.fdiv (Int.fdiv x (4294967296 : Int)) (65536 : Int)) (256 : Int)) ∧ IntKind.wrap IntKind.u8 (Int.fdiv (Int.fdiv (Int.fdiv x (4294967296 : Int)) (65536 : Int)) (256 : Int)) < (256 : Int) then true else false
    else if (0 : Int) ≤ IntKind.wrap IntKind.u8 (Int.fdiv (Int.fdiv x (4294967296 : Int)) (65536 : Int)) ∧ IntKind.wrap IntKind.u8 (Int.fdiv (Int.fdiv x (4294967296 : Int)) (65536 : Int)) < (256 : Int) then true else false
  else if cLe (256 : Int) (Int.fdiv x (4294967296 : Int)) = true then if (0 : Int) ≤ IntKind.wrap IntKind.u8 (Int.fdiv (Int.fdiv x (4294967296 : Int)) (256 : Int)) ∧ IntKind.wrap IntKind.u8 (Int.fdiv (Int.fdiv x (4294967296 : Int)) (256 : Int)) < (256 : Int) then true else false else if (0 : Int) ≤ IntKind.wrap IntKind.u8 (Int.fdiv x (4294967296 : Int)) ∧ IntKind.wrap IntKind.u8 (Int.fdiv x (4294967296 : Int)) < (256 : Int) then true else false
else
  if cLe (65536 : Int) x = true then if cLe (256 : Int) (Int.fdiv x (65536 : Int)) = true then if (0 : Int) ≤ IntKind.wrap IntKind.u8 (Int.fdiv (Int.fdiv x (65536 : Int)) (256 : Int)) ∧ IntKind.wrap IntKind.u8 (Int.fdiv (Int.fdiv x (65536 : Int)) (256 : Int)) < (256 : Int) then true else false else if (0 : Int) ≤ IntKind.wrap IntKind.u8 (Int.fdiv x (65536 : Int)) ∧ IntKind.wrap IntKind.u8 (Int.fdiv x (65536 : Int)) < (256 : Int) then true else false
  else if cLe (256 : Int) x = true then if (0 : Int) ≤ IntKind.wrap IntKind.u8 (Int.fdiv x (256 : Int)) ∧ IntKind.wrap IntKind.u8 (Int.fdiv x (256 : Int)) < (256 : Int) then true else false else if (0 : Int) ≤ IntKind.wrap IntKind.u8 x ∧ IntKind.wrap IntKind.u8 x < (256 : Int) then true else false
noncomputable def _root_.Go.Proofs.Ytkjellhkamfciaa.V.len64_r0 (x : Int) : Int :=
  if cLe (4294967296 : Int) x = true then
  if cLe (65536 : Int) (Int.fdiv x (4294967296 : Int)) = true then
    if cLe (256 : Int) (Int.fdiv (Int.fdiv x (4294967296 : Int)) (65536 : Int)) = true then
      if (0 : Int) ≤ IntKind.wrap IntKind.u8 (Int.fdiv (Int.fdiv (Int.fdiv x (4294967296 : Int)) (65536 : Int)) (256 : Int)) ∧ IntKind.wrap IntKind.u8 (Int.fdiv (Int.fdiv (Int.fdiv x (4294967296 : Int)) (65536 : Int)) (256 : Int)) < (256 : Int) then IntKind.wrap .i64 ((56 : Int) + IntKind.wrap .i64 (strAt len8 (IntKind.wrap IntKind.u8 (Int.fdiv (Int.fdiv (Int.fdiv x (4294967296 : Int)) (65536 : Int)) (256 : Int))))) else (0 : Int)
    else if (0 : Int) ≤ IntKind.wrap IntKind.u8 (Int.fdiv (Int.fdiv x (4294967296 : Int)) (65536 : Int)) ∧ IntKind.wrap IntKind.u8 (Int.fdiv (Int.fdiv x (4294967296 : Int)) (65536 : Int)) < (256 : Int) then IntKind.wrap .i64 ((48 : Int) + IntKind.wrap .i64 (strAt len8 (IntKind.wrap IntKind.u8 (Int.fdiv (Int.fdiv x (4294967296 : Int)) (65536 : Int))))) else (0 : Int)
  else
    if cLe (256 : Int) (Int.fdiv x (4294967296 : Int)) = true then if (0 : Int) ≤ IntKind.wrap IntKind.u8 (Int.fdiv (Int.fdiv x (4294967296 : Int)) (256 : Int)) ∧ IntKind.wrap IntKind.u8 (Int.fdiv (Int.fdiv x (4294967296 : Int)) (256 : Int)) < (256 : Int) then IntKind.wrap .i64 ((40 : Int) + IntKind.wrap .i64 (strAt len8 (IntKind.wrap IntKind.u8 (Int.fdiv (Int.fdiv x (4294967296 : Int)) (256 : Int))))) else (0 : Int)
    else if (0 : Int) ≤ IntKind.wrap IntKind.u8 (Int.fdiv x (4294967296 : Int)) ∧ IntKind.wrap IntKind.u8 (Int.fdiv x (4294967296 : Int)) < (256 : Int) then IntKind.wrap .i64 ((32 : Int) + IntKind.wrap .i64 (strAt len8 (IntKind.wrap IntKind.u8 (Int.fdiv x (4294967296 : Int))))) else (0 : Int)
else
  if cLe (65536 : Int) x = true then
    if cLe (256 : Int) (Int.fdiv x (65536 : Int)) = true then if (0 : Int) ≤ IntKind.wrap IntKind.u8 (Int.fdiv (Int.fdiv x (65536 : Int)) (256 : Int)) ∧ IntKind.wrap IntKind.u8 (Int.fdiv (Int.fdiv x (65536 : Int)) (256 : Int)) < (256 : Int) then IntKind.wrap .i64 ((24 : Int) + IntKind.wrap .i64 (strAt len8 (IntKind.wrap IntKind.u8 (Int.fdiv (Int.fdiv x (65536 : Int)) (256 : Int))))) else (0 : Int)
    else if (0 : Int) ≤ IntKind.wrap IntKind.u8 (Int.fdiv x (65536 : Int)) ∧ IntKind.wrap IntKind.u8 (Int.fdiv x (65536 : Int)) < (256 : Int) then IntKind.wrap .i64 ((16 : Int) + IntKind.wrap .i64 (strAt len8 (IntKind.wrap IntKind.u8 (Int.fdiv x (65536 : Int))))) else (0 : Int)
  else
    if cLe (256 : Int) x = true then if (0 : Int) ≤ IntKind.wrap IntKind.u8 (Int.fdiv x (256 : Int)) ∧ IntKind.wrap IntKind.u8 (Int.fdiv x (256 : Int)) < (256 : Int) then IntKind.wrap .i64 ((8 : Int) + IntKind.wrap .i64 (strAt len8 (IntKind.wrap IntKind.u8 (Int.fdiv x (256 : Int))))) else (0 : Int)
    else if (0 : Int) ≤ IntKind.wrap IntKind.u8 x ∧ IntKind.wrap IntKind.u8 x < (256 : Int) then IntKind.wrap .i64 ((0 : Int) + IntKind.wrap .i64 (strAt len8 (IntKind.wrap IntKind.u8 x))) else (0 : Int)
theorem len64_val {α : Type} (x : Int) (k0 : Int → Option α) : M.len64 x k0 = if V.len64_g x = true then k0 (V.len64_r0 x) else none := by
  unfold M.len64 V.len64_g V.len64_r0
  repeat' first | rfl | (split <;> rename_i h <;> first | simp only [if_pos h] | simp only [if_neg h] | skip)
noncomputable def len64_c {α : Type} (ds : List D) (Q : SV → Hp → Option α) : Option α :=
  dI ds fun x ds => dE ds (if V.len64_g x = true then Q (SV.int .i64 (V.len64_r0 x)) ([]) else none)
theorem len64_c_ok {α : Type} : FnOk E.P 83 (fEnt (α := α) len64_sp len64_c) :=
  fEnt_ok E (look_rgreat_ok) (exec_sound E E_ok (look_rgreat_ok) (noLps_ok _) 400) fun ds Q r h => by
    unfold len64_c at h
    obtain ⟨x, ds, rfl, h1⟩ := dI_inv h
    obtain ⟨rfl, hE⟩ := dE_inv h1
    exact ⟨[SV.int IntKind.u64 x], [], fun vs => by kernel_rfl, (len64_eq x Q).trans ((len64_val x (fun (x0 : Int) => Q (SV.int .i64 x0) ([]))).trans hE)⟩
noncomputable def len64_go {α : Type} (ds : List D) (Q : SV → Hp → Option α) : Option α :=
  dI ds fun x ds => dE ds (M.len64 x (fun (x0 : Int) => Q (SV.int .i64 x0) ([])))
theorem len64_ok {α : Type} : FnOk E.P 83 (fEnt (α := α) len64_sp len64_go) :=
  fEnt_ok E (look_rgreat_ok) (exec_sound E E_ok (look_rgreat_ok) (noLps_ok _) 400) fun ds Q r h => by
    unfold len64_go at h
    obtain ⟨x, ds, rfl, h1⟩ := dI_inv h
    obtain ⟨rfl, hE⟩ := dE_inv h1
    exact ⟨[SV.int IntKind.u64 x], [], fun vs => by kernel_rfl, (len64_eq x Q).trans hE⟩
noncomputable def look_len64 {α : Type} : LookF α := addFn 83 (fEnt len64_sp len64_c) look_rgreat
theorem look_len64_ok {α : Type} : LookOk E.P (look_len64 (α := α)) := addFn_ok len64_c_ok (look_rgreat_ok)
noncomputable def _root_.Go.Proofs.Ytkjellhkamfciaa.M.lz64 {α : Type} (x : Int) (k0 : Int → Option α) : Option α :=
  if V.len64_g x = true then k0 (IntKind.wrap .i64 ((64 : Int) - V.len64_r0 x)) else none
theorem lz64_eq {α : Type} (x : Int) (Q : SV → Hp → Option α) : callI E look_len64 (exec E look_len64 noLps 400) 82 ([SV.int IntKind.u64 x]) ([]) Q = M.lz64 x (fun (x1 : Int) => Q (SV.int .i64 x1) ([])) := by kernel_rfl
def lz64_sp : List AS := [.val (.int .u64 0)]
noncomputable def _root_.Go.Proofs.Ytkjellhkamfciaa.V.lz64_g (x : Int) : Bool :=
  if V.len64_g x = true then true else false
noncomputable def _root_.Go.Proofs.Ytkjellhkamfciaa.V.lz64_r0 (x : Int) : Int :=
  if V.len64_g x = true then IntKind.wrap .i64 ((64 : Int) - V.len64_r0 x) else (0 : Int)
theorem lz64_val {α : Type} (x : Int) (k0 : Int → Option α) : M.lz64 x k0 = if V.lz64_g x = true then k0 (V.lz64_r0 x) else none := by
  unfold M.lz64 V.lz64_g V.lz64_r0
  repeat' first | rfl | (split <;> rename_i h <;> first | simp only [if_pos h] | simp only [if_neg h] | skip)
noncomputable def lz64_c {α : Type} (ds : List D) (Q : SV → Hp → Option α) : Option α :=
  dI ds fun x ds => dE ds (if V.lz64_g x = true then Q (SV.int .i64 (V.lz64_r0 x)) ([]) else none)
theorem lz64_c_ok {α : Type} : FnOk E.P 82 (fEnt (α := α) lz64_sp lz64_c) :=
  fEnt_ok E (look_len64_ok) (exec_sound E E_ok (look_len64_ok) (noLps_ok _) 400) fun ds Q r h => by
    unfold lz64_c at h
    obtain ⟨x, ds, rfl, h1⟩ := dI_inv h
    obtain ⟨rfl, hE⟩ := dE_inv h1
    exact ⟨[SV.int IntKind.u64 x], [], fun vs => by kernel_rfl, (lz64_eq x Q).trans ((lz64_val x (fun (x1 : Int) => Q (SV.int .i64 x1) ([]))).trans hE)⟩
noncomputable def lz64_go {α : Type} (ds : List D) (Q : SV → Hp → Option α) : Option α :=
  dI ds fun x ds => dE ds (M.lz64 x (fun (x1 : Int) => Q (SV.int .i64 x1) ([])))
theorem lz64_ok {α : Type} : FnOk E.P 82 (fEnt (α := α) lz64_sp lz64_go) :=
  fEnt_ok E (look_len64_ok) (exec_sound E E_ok (look_len64_ok) (noLps_ok _) 400) fun ds Q r h => by
    unfold lz64_go at h
    obtain ⟨x, ds, rfl, h1⟩ := dI_inv h
    obtain ⟨rfl, hE⟩ := dE_inv h1
    exact ⟨[SV.int IntKind.u64 x], [], fun vs => by kernel_rfl, (lz64_eq x Q).trans hE⟩
noncomputable def look_lz64 {α : Type} : LookF α := addFn 82 (fEnt lz64_sp lz64_c) look_len64
theorem look_lz64_ok {α : Type} : LookOk E.P (look_lz64 (α := α)) := addFn_ok lz64_c_ok (look_len64_ok)
noncomputable def _root_.Go.Proofs.Ytkjellhkamfciaa.M.div64_l0_step {α : Type} (x13 : Int) (x14 : Int) (x16 : Int) (kn : Int → Int → Option α) (k0 : Int → Option α) (x18 : Int) (x19 : Int) : Option α :=
  if cLe (4294967296 : Int) x18 = true then if cLe (4294967296 : Int) (IntKind.wrap IntKind.u64 (x19 + x13)) = true then k0 (IntKind.wrap IntKind.u64 (x18 - (1 : Int))) else kn (IntKind.wrap IntKind.u64 (x18 - (1 : Int))) (IntKind.wrap IntKind.u64 (x19 + x13))
else if cLt (IntKind.wrap IntKind.u64 (IntKind.wrap IntKind.u64 ((4294967296 : Int) * x19) + x16)) (IntKind.wrap IntKind.u64 (x18 * x14)) = true then if cLe (4294967296 : Int) (IntKind.wrap IntKind.u64 (x19 + x13)) = true then k0 (IntKind.wrap IntKind.u64 (x18 - (1 : Int))) else kn (IntKind.wrap IntKind.u64 (x18 - (1 : Int))) (IntKind.wrap IntKind.u64 (x19 + x13)) else k0 x18
noncomputable def _root_.Go.Proofs.Ytkjellhkamfciaa.M.div64_l0 {α : Type} (x13 : Int) (x14 : Int) (x16 : Int) (k0 : Int → Option α) : Nat → Int → Int → Option α
  | 0, _, _ => none
  | n + 1, x18, x19 => M.div64_l0_step x13 x14 x16 (M.div64_l0 x13 x14 x16 k0 n) k0 x18 x19
theorem div64_l0_step_eq {α : Type} (x11 : Int) (x12 : Int) (x13 : Int) (x14 : Int) (x15 : Int) (x16 : Int) (x17 : Int) (x18 : Int) (x19 : Int) (Q : Ex → St → Option α) : (loopStep E (exec E look_lz64 noLps 400) 69 [false, false, true, true, true, true, true, true, true, true, true, true, true, true, true, true] 0 (codeAt E.P 69 [false, false, true, true, true, true, true, true, true, true, true, true, true, true, true, true])) (St.mk (none :: none :: some (SV.int IntKind.u64 x11) :: nn 5 (some (SV.int IntKind.u64 x12) :: some (SV.int IntKind.u64 x13) :: some (SV.int IntKind.u64 x14) :: some (SV.int IntKind.u64 x15) :: none :: some (SV.int IntKind.u64 x16) :: some (SV.int IntKind.u64 x17) :: some (SV.int IntKind.u64 x18) :: some (SV.int IntKind.u64 x19) :: nn 118 ([])))
  []) Q = M.div64_l0_step x13 x14 x16 (fun (x21 : Int) (x22 : Int) => Q .normal (St.mk (none :: none :: some (SV.int IntKind.u64 x11) :: nn 5 (some (SV.int IntKind.u64 x12) :: some (SV.int IntKind.u64 x13) :: some (SV.int IntKind.u64 x14) :: some (SV.int IntKind.u64 x15) :: none :: some (SV.int IntKind.u64 x16) :: some (SV.int IntKind.u64 x17) :: some (SV.int IntKind.u64 x21) :: some (SV.int IntKind.u64 x22) :: nn 118 ([])))
  [])) (fun (x20 : Int) => Q (.exit 0) (St.mk (none :: none :: some (SV.int IntKind.u64 x11) :: nn 5 (some (SV.int IntKind.u64 x12) :: some (SV.int IntKind.u64 x13) :: some (SV.int IntKind.u64 x14) :: some (SV.int IntKind.u64 x15) :: none :: some (SV.int IntKind.u64 x16) :: some (SV.int IntKind.u64 x17) :: some (SV.int IntKind.u64 x20) :: nn 119 ([])))
  [])) x18 x19 := by kernel_rfl
theorem div64_l0_iter {α : Type} (x11 : Int) (x12 : Int) (x13 : Int) (x14 : Int) (x15 : Int) (x16 : Int) (x17 : Int) (Q : Ex → St → Option α) : ∀ (n : Nat) (x18 : Int) (x19 : Int), iter (loopStep E (exec E look_lz64 noLps 400) 69 [false, false, true, true, true, true, true, true, true, true, true, true, true, true, true, true] 0 (codeAt E.P 69 [false, false, true, true, true, true, true, true, true, true, true, true, true, true, true, true])) n (St.mk (none :: none :: some (SV.int IntKind.u64 x11) :: nn 5 (some (SV.int IntKind.u64 x12) :: some (SV.int IntKind.u64 x13) :: some (SV.int IntKind.u64 x14) :: some (SV.int IntKind.u64 x15) :: none :: some (SV.int IntKind.u64 x16) :: some (SV.int IntKind.u64 x17) :: some (SV.int IntKind.u64 x18) :: some (SV.int IntKind.u64 x19) :: nn 118 ([])))
  []) Q = M.div64_l0 x13 x14 x16 (fun (x20 : Int) => Q (.exit 0) (St.mk (none :: none :: some (SV.int IntKind.u64 x11) :: nn 5 (some (SV.int IntKind.u64 x12) :: some (SV.int IntKind.u64 x13) :: some (SV.int IntKind.u64 x14) :: some (SV.int IntKind.u64 x15) :: none :: some (SV.int IntKind.u64 x16) :: some (SV.int IntKind.u64 x17) :: some (SV.int IntKind.u64 x20) :: nn 119 ([])))
  [])) n x18 x19
  | 0, _, _ => rfl
  | n + 1, x18, x19 => (div64_l0_step_eq x11 x12 x13 x14 x15 x16 x17 x18 x19 (iterK (loopStep E (exec E look_lz64 noLps 400) 69 [false, false, true, true, true, true, true, true, true, true, true, true, true, true, true, true] 0 (codeAt E.P 69 [false, false, true, true, true, true, true, true, true, true, true, true, true, true, true, true])) n Q)).trans (congrArg (fun kn => M.div64_l0_step x13 x14 x16 kn (fun (x20 : Int) => Q (.exit 0) (St.mk (none :: none :: some (SV.int IntKind.u64 x11) :: nn 5 (some (SV.int IntKind.u64 x12) :: some (SV.int IntKind.u64 x13) :: some (SV.int IntKind.u64 x14) :: some (SV.int IntKind.u64 x15) :: none :: some (SV.int IntKind.u64 x16) :: some (SV.int IntKind.u64 x17) :: some (SV.int IntKind.u64 x20) :: nn 119 ([])))
  [])) x18 x19) (funext fun x18 => funext fun x19 => div64_l0_iter x11 x12 x13 x14 x15 x16 x17 Q n x18 x19))
noncomputable def div64_l0_go {α : Type} (ds : List D) (Q : Ex → St → Option α) : Option α :=
  dI ds fun x11 ds => dI ds fun x12 ds => dI ds fun x13 ds => dI ds fun x14 ds => dI ds fun x15 ds => dI ds fun x16 ds => dI ds fun x17 ds => dI ds fun x18 ds => dI ds fun x19 ds => dE ds (M.div64_l0 x13 x14 x16 (fun (x20 : Int) => Q (.exit 0) (St.mk (none :: none :: some (SV.int IntKind.u64 x11) :: nn 5 (some (SV.int IntKind.u64 x12) :: some (SV.int IntKind.u64 x13) :: some (SV.int IntKind.u64 x14) :: some (SV.int IntKind.u64 x15) :: none :: some (SV.int IntKind.u64 x16) :: some (SV.int IntKind.u64 x17) :: some (SV.int IntKind.u64 x20) :: nn 119 ([])))
  [])) (100) x18 x19)
theorem div64_l0_ok {α : Type} : LoopOk E.P 69 [false, false, true, true, true, true, true, true, true, true, true, true, true, true, true, true] 0 (lEnt (α := α) (St.mk (none :: none :: some (SV.int IntKind.u64 (0 : Int)) :: nn 5 (some (SV.int IntKind.u64 (0 : Int)) :: some (SV.int IntKind.u64 (0 : Int)) :: some (SV.int IntKind.u64 (0 : Int)) :: some (SV.int IntKind.u64 (0 : Int)) :: none :: some (SV.int IntKind.u64 (0 : Int)) :: some (SV.int IntKind.u64 (0 : Int)) :: some (SV.int IntKind.u64 (0 : Int)) :: some (SV.int IntKind.u64 (0 : Int)) :: nn 118 ([])))
  []) div64_l0_go) :=
  lEnt_ok E (exec_sound E E_ok (look_lz64_ok) (noLps_ok _) 400) fun ds Q r h S hS => by
    unfold div64_l0_go at h
    obtain ⟨x11, ds, rfl, h1⟩ := dI_inv h
    obtain ⟨x12, ds, rfl, h2⟩ := dI_inv h1
    obtain ⟨x13, ds, rfl, h3⟩ := dI_inv h2
    obtain ⟨x14, ds, rfl, h4⟩ := dI_inv h3
    obtain ⟨x15, ds, rfl, h5⟩ := dI_inv h4
    obtain ⟨x16, ds, rfl, h6⟩ := dI_inv h5
    obtain ⟨x17, ds, rfl, h7⟩ := dI_inv h6
    obtain ⟨x18, ds, rfl, h8⟩ := dI_inv h7
    obtain ⟨x19, ds, rfl, h9⟩ := dI_inv h8
    obtain ⟨rfl, hE⟩ := dE_inv h9
    have e : fillS (St.mk (none :: none :: some (SV.int IntKind.u64 (0 : Int)) :: nn 5 (some (SV.int IntKind.u64 (0 : Int)) :: some (SV.int IntKind.u64 (0 : Int)) :: some (SV.int IntKind.u64 (0 : Int)) :: some (SV.int IntKind.u64 (0 : Int)) :: none :: some (SV.int IntKind.u64 (0 : Int)) :: some (SV.int IntKind.u64 (0 : Int)) :: some (SV.int IntKind.u64 (0 : Int)) :: some (SV.int IntKind.u64 (0 : Int)) :: nn 118 ([])))
  []) [.i x11, .i x12, .i x13, .i x14, .i x15, .i x16, .i x17, .i x18, .i x19] = some (St.mk (none :: none :: some (SV.int IntKind.u64 x11) :: nn 5 (some (SV.int IntKind.u64 x12) :: some (SV.int IntKind.u64 x13) :: some (SV.int IntKind.u64 x14) :: some (SV.int IntKind.u64 x15) :: none :: some (SV.int IntKind.u64 x16) :: some (SV.int IntKind.u64 x17) :: some (SV.int IntKind.u64 x18) :: some (SV.int IntKind.u64 x19) :: nn 118 ([])))
  []) := by kernel_rfl
    rw [e] at hS
    cases hS
    exact ⟨_, (div64_l0_iter x11 x12 x13 x14 x15 x16 x17 Q _ x18 x19).trans hE⟩
noncomputable def div64_l0_lps {α : Type} : LookL α := addLp 69 [false, false, true, true, true, true, true, true, true, true, true, true, true, true, true, true] 0 (lEnt (St.mk (none :: none :: some (SV.int IntKind.u64 (0 : Int)) :: nn 5 (some (SV.int IntKind.u64 (0 : Int)) :: some (SV.int IntKind.u64 (0 : Int)) :: some (SV.int IntKind.u64 (0 : Int)) :: some (SV.int IntKind.u64 (0 : Int)) :: none :: some (SV.int IntKind.u64 (0 : Int)) :: some (SV.int IntKind.u64 (0 : Int)) :: some (SV.int IntKind.u64 (0 : Int)) :: some (SV.int IntKind.u64 (0 : Int)) :: nn 118 ([])))
  []) div64_l0_go) noLps
theorem div64_l0_lps_ok {α : Type} : LoopsOk E.P (div64_l0_lps (α := α)) := addLp_ok div64_l0_ok (noLps_ok _)

noncomputable def _root_.Go.Proofs.Ytkjellhkamfciaa.M.div64_l1_step {α : Type} (x35 : Int) (x36 : Int) (x37 : Int) (kn : Int → Int → Option α) (k0 : Int → Option α) (x39 : Int) (x41 : Int) : Option α :=
  if cLe (4294967296 : Int) x41 = true then if cLe (4294967296 : Int) (IntKind.wrap IntKind.u64 (x39 + x35)) = true then k0 (IntKind.wrap IntKind.u64 (x41 - (1 : Int))) else kn (IntKind.wrap IntKind.u64 (x39 + x35)) (IntKind.wrap IntKind.u64 (x41 - (1 : Int)))
else if cLt (IntKind.wrap IntKind.u64 (IntKind.wrap IntKind.u64 ((4294967296 : Int) * x39) + x37)) (IntKind.wrap IntKind.u64 (x41 * x36)) = true then if cLe (4294967296 : Int) (IntKind.wrap IntKind.u64 (x39 + x35)) = true then k0 (IntKind.wrap IntKind.u64 (x41 - (1 : Int))) else kn (IntKind.wrap IntKind.u64 (x39 + x35)) (IntKind.wrap IntKind.u64 (x41 - (1 : Int))) else k0 x41
noncomputable def _root_.Go.Proofs.Ytkjellhkamfciaa.M.div64_l1 {α : Type} (x35 : Int) (x36 : Int) (x37 : Int) (k0 : Int → Option α) : Nat → Int → Int → Option α
  | 0, _, _ => none
  | n + 1, x39, x41 => M.div64_l1_step x35 x36 x37 (M.div64_l1 x35 x36 x37 k0 n) k0 x39 x41
theorem div64_l1_step_eq {α : Type} (x33 : Int) (x34 : Int) (x35 : Int) (x36 : Int) (x37 : Int) (x38 : Int) (x39 : Int) (x40 : Int) (x41 : Int) (Q : Ex → St → Option α) : (loopStep E (exec E look_lz64 div64_l0_lps 400) 69 [false, false, true, true, true, true, true, true, true, true, true, true, true, true, true, true, true, true, true, true] 0 (codeAt E.P 69 [false, false, true, true, true, true, true, true, true, true, true, true, true, true, true, true, true, true, true, true])) (St.mk (none :: none :: some (SV.int IntKind.u64 x33) :: nn 5 (some (SV.int IntKind.u64 x34) :: some (SV.int IntKind.u64 x35) :: some (SV.int IntKind.u64 x36) :: nn 3 (some (SV.int IntKind.u64 x37) :: some (SV.int IntKind.u64 x38) :: some (SV.int IntKind.u64 x39) :: some (SV.int IntKind.u64 x40) :: some (SV.int IntKind.u64 x41) :: nn 116 ([]))))
  []) Q = M.div64_l1_step x35 x36 x37 (fun (x43 : Int) (x44 : Int) => Q .normal (St.mk (none :: none :: some (SV.int IntKind.u64 x33) :: nn 5 (some (SV.int IntKind.u64 x34) :: some (SV.int IntKind.u64 x35) :: some (SV.int IntKind.u64 x36) :: nn 3 (some (SV.int IntKind.u64 x37) :: some (SV.int IntKind.u64 x38) :: some (SV.int IntKind.u64 x43) :: some (SV.int IntKind.u64 x40) :: some (SV.int IntKind.u64 x44) :: nn 116 ([]))))
  [])) (fun (x42 : Int) => Q (.exit 2) (St.mk (none :: none :: some (SV.int IntKind.u64 x33) :: nn 5 (some (SV.int IntKind.u64 x34) :: nn 5 (some (SV.int IntKind.u64 x37) :: some (SV.int IntKind.u64 x38) :: none :: some (SV.int IntKind.u64 x40) :: some (SV.int IntKind.u64 x42) :: nn 116 ([]))))
  [])) x39 x41 := by kernel_rfl
theorem div64_l1_iter {α : Type} (x33 : Int) (x34 : Int) (x35 : Int) (x36 : Int) (x37 : Int) (x38 : Int) (x40 : Int) (Q : Ex → St → Option α) : ∀ (n : Nat) (x39 : Int) (x41 : Int), iter (loopStep E (exec E look_lz64 div64_l0_lps 400) 69 [false, false, true, true, true, true, true, true, true, true, true, true, true, true, true, true, true, true, true, true] 0 (codeAt E.P 69 [false, false, true, true, true, true, true, true, true, true, true, true, true, true, true, true, true, true, true, true])) n (St.mk (none :: none :: some (SV.int IntKind.u64 x33) :: nn 5 (some (SV.int IntKind.u64 x34) :: some (SV.int IntKind.u64 x35) :: some (SV.int IntKind.u64 x36) :: nn 3 (some (SV.int IntKind.u64 x37) :: some (SV.int IntKind.u64 x38) :: some (SV.int IntKind.u64 x39) :: some (SV.int IntKind.u64 x40) :: some (SV.int IntKind.u64 x41) :: nn 116 ([]))))
  []) Q = M.div64_l1 x35 x36 x37 (fun (x42 : Int) => Q (.exit 2) (St.mk (none :: none :: some (SV.int IntKind.u64 x33) :: nn 5 (some (SV.int IntKind.u64 x34) :: nn 5 (some (SV.int IntKind.u64 x37) :: some (SV.int IntKind.u64 x38) :: none :: some (SV.int IntKind.u64 x40) :: some (SV.int IntKind.u64 x42) :: nn 116 ([]))))
  [])) n x39 x41
  | 0, _, _ => rfl
  | n + 1, x39, x41 => (div64_l1_step_eq x33 x34 x35 x36 x37 x38 x39 x40 x41 (iterK (loopStep E (exec E look_lz64 div64_l0_lps 400) 69 [false, false, true, true, true, true, true, true, true, true, true, true, true, true, true, true, true, true, true, true] 0 (codeAt E.P 69 [false, false, true, true, true, true, true, true, true, true, true, true, true, true, true, true, true, true, true, true])) n Q)).trans (congrArg (fun kn => M.div64_l1_step x35 x36 x37 kn (fun (x42 : Int) => Q (.exit 2) (St.mk (none :: none :: some (SV.int IntKind.u64 x33) :: nn 5 (some (SV.int IntKind.u64 x34) :: nn 5 (some (SV.int IntKind.u64 x37) :: some (SV.int IntKind.u64 x38) :: none :: some (SV.int IntKind.u64 x40) :: some (SV.int IntKind.u64 x42) :: nn 116 ([]))))
  [])) x39 x41) (funext fun x39 => funext fun x41 => div64_l1_iter x33 x34 x35 x36 x37 x38 x40 Q n x39 x41))
noncomputable def div64_l1_go {α : Type} (ds : List D) (Q : Ex → St → Option α) : Option α :=
  dI ds fun x33 ds => dI ds fun x34 ds => dI ds fun x35 ds => dI ds fun x36 ds => dI ds fun x37 ds => dI ds fun x38 ds => dI ds fun x39 ds => dI ds fun x40 ds => dI ds fun x41 ds => dE ds (M.div64_l1 x35 x36 x37 (fun (x42 : Int) => Q (.exit 2) (St.mk (none :: none :: some (SV.int IntKind.u64 x33) :: nn 5 (some (SV.int IntKind.u64 x34) :: nn 5 (some (SV.int IntKind.u64 x37) :: some (SV.int IntKind.u64 x38) :: none :: some (SV.int IntKind.u64 x40) :: some (SV.int IntKind.u64 x42) :: nn 116 ([]))))
  [])) (100) x39 x41)
theorem div64_l1_ok {α : Type} : LoopOk E.P 69 [false, false, true, true, true, true, true, true, true, true, true, true, true, true, true, true, true, true, true, true] 0 (lEnt (α := α) (St.mk (none :: none :: some (SV.int IntKind.u64 (0 : Int)) :: nn 5 (some (SV.int IntKind.u64 (0 : Int)) :: some (SV.int IntKind.u64 (0 : Int)) :: some (SV.int IntKind.u64 (0 : Int)) :: nn 3 (some (SV.int IntKind.u64 (0 : Int)) :: some (SV.int IntKind.u64 (0 : Int)) :: some (SV.int IntKind.u64 (0 : Int)) :: some (SV.int IntKind.u64 (0 : Int)) :: some (SV.int IntKind.u64 (0 : Int)) :: nn 116 ([]))))
  []) div64_l1_go) :=
  lEnt_ok E (exec_sound E E_ok (look_lz64_ok) (div64_l0_lps_ok) 400) fun ds Q r h S hS => by
    unfold div64_l1_go at h
    obtain ⟨x33, ds, rfl, h1⟩ := dI_inv h
    obtain ⟨x34, ds, rfl, h2⟩ := dI_inv h1
    obtain ⟨x35, ds, rfl, h3⟩ := dI_inv h2
    obtain ⟨x36, ds, rfl, h4⟩ := dI_inv h3
    obtain ⟨x37, ds, rfl, h5⟩ := dI_inv h4
    obtain ⟨x38, ds, rfl, h6⟩ := dI_inv h5
    obtain ⟨x39, ds, rfl, h7⟩ := dI_inv h6
    obtain ⟨x40, ds, rfl, h8⟩ := dI_inv h7
    obtain ⟨x41, ds, rfl, h9⟩ := dI_inv h8
    obtain ⟨rfl, hE⟩ := dE_inv h9
    have e : fillS (St.mk (none :: none :: some (SV.int IntKind.u64 (0 : Int)) :: nn 5 (some (SV.int IntKind.u64 (0 : Int)) :: some (SV.int IntKind.u64 (0 : Int)) :: some (SV.int IntKind.u64 (0 : Int)) :: nn 3 (some (SV.int IntKind.u64 (0 : Int)) :: some (SV.int IntKind.u64 (0 : Int)) :: some (SV.int IntKind.u64 (0 : Int)) :: some (SV.int IntKind.u64 (0 : Int)) :: some (SV.int IntKind.u64 (0 : Int)) :: nn 116 ([]))))
  []) [.i x33, .i x34, .i x35, .i x36, .i x37, .i x38, .i x39, .i x40, .i x41] = some (St.mk (none :: none :: some (SV.int IntKind.u64 x33) :: nn 5 (some (SV.int IntKind.u64 x34) :: some (SV.int IntKind.u64 x35) :: some (SV.int IntKind.u64 x36) :: nn 3 (some (SV.int IntKind.u64 x37) :: some (SV.int IntKind.u64 x38) :: some (SV.int IntKind.u64 x39) :: some (SV.int IntKind.u64 x40) :: some (SV.int IntKind.u64 x41) :: nn 116 ([]))))
  []) := by kernel_rfl
    rw [e] at hS
    cases hS
    exact ⟨_, (div64_l1_iter x33 x34 x35 x36 x37 x38 x40 Q _ x39 x41).trans hE⟩
noncomputable def div64_l1_lps {α : Type} : LookL α := addLp 69 [false, false, true, true, true, true, true, true, true, true, true, true, true, true, true, true, true, true, true, true] 0 (lEnt (St.mk (none :: none :: some (SV.int IntKind.u64 (0 : Int)) :: nn 5 (some (SV.int IntKind.u64 (0 : Int)) :: some (SV.int IntKind.u64 (0 : Int)) :: some (SV.int IntKind.u64 (0 : Int)) :: nn 3 (some (SV.int IntKind.u64 (0 : Int)) :: some (SV.int IntKind.u64 (0 : Int)) :: some (SV.int IntKind.u64 (0 : Int)) :: some (SV.int IntKind.u64 (0 : Int)) :: some (SV.int IntKind.u64 (0 : Int)) :: nn 116 ([]))))
  []) div64_l1_go) div64_l0_lps
theorem div64_l1_lps_ok {α : Type} : LoopsOk E.P (div64_l1_lps (α := α)) := addLp_ok div64_l1_ok (div64_l0_lps_ok)

noncomputable def _root_.Go.Proofs.Ytkjellhkamfciaa.M.div64 {α : Type} (hi : Int) (lo : Int) (y : Int) (k0 : Int → Int → Option α) : Option α :=
  if cEq y (0 : Int) = true then none
else
  if cLe y hi = true then none
  else
    if cEq hi (0 : Int) = true then if y = (0 : Int) then none else if y = (0 : Int) then none else k0 (IntKind.wrap IntKind.u64 (Int.tdiv lo y)) (Int.tmod lo y)
    else
      if V.lz64_g y = true then
        if IntKind.wrap IntKind.u64 (V.lz64_r0 y) < (0 : Int) then none
        else
          if IntKind.wrap IntKind.u64 (V.lz64_r0 y) < (0 : Int) then none
          else
            if IntKind.wrap IntKind.u64 ((64 : Int) - IntKind.wrap IntKind.u64 (V.lz64_r0 y)) < (0 : Int) then none
            else
              if IntKind.wrap IntKind.u64 (V.lz64_r0 y) < (0 : Int) then none
              else
                if Int.fdiv (IntKind.wrap IntKind.u64 (y * (2 : Int) ^ min (Int.toNat (IntKind.wrap IntKind.u64 (V.lz64_r0 y))) (64 : Nat))) (4294967296 : Int) = (0 : Int) then none
                else
                  M.div64_l0 (Int.fdiv (IntKind.wrap IntKind.u64 (y * (2 : Int) ^ min (Int.toNat (IntKind.wrap IntKind.u64 (V.lz64_r0 y))) (64 : Nat))) (4294967296 : Int)) (bandI IntKind.u64 (IntKind.wrap IntKind.u64 (y * (2 : Int) ^ min (Int.toNat (IntKind.wrap IntKind.u64 (V.lz64_r0 y))) (64 : Nat))) (4294967295 : Int)) (Int.fdiv (IntKind.wrap IntKind.u64 (lo * (2 : Int) ^ min (Int.toNat (IntKind.wrap IntKind.u64 (V.lz64_r0 y))) (64 : Nat))) (4294967296 : Int))
                    (fun (x45 : Int) ↦
                      if Int.fdiv (IntKind.wrap IntKind.u64 (y * (2 : Int) ^ min (Int.toNat (IntKind.wrap IntKind.u64 (V.lz64_r0 y))) (64 : Nat))) (4294967296 : Int) = (0 : Int) then none
                      else
                        M.div64_l1 (Int.fdiv (IntKind.wrap IntKind.u64 (y * (2 : Int) ^ min (Int.toNat (IntKind.wrap IntKind.u64 (V.lz64_r0 y))) (64 : Nat))) (4294967296 : Int)) (bandI IntKind.u64 (IntKind.wrap IntKind.u64 (y * (2 : Int) ^ min (Int.toNat (IntKind.wrap IntKind.u64 (V.lz64_r0 y))) (64 : Nat))) (4294967295 : Int)) (bandI IntKind.u64 (IntKind.wrap IntKind.u64 (lo * (2 : Int) ^ min (Int.toNat (IntKind.wrap IntKind.u64 (V.lz64_r0 y))) (64 : Nat))) (4294967295 : Int))
                          (fun (x46 : Int) ↦
                            if IntKind.wrap IntKind.u64 (V.lz64_r0 y) < (0 : Int) then none
                            else
                              k0 (IntKind.wrap IntKind.u64 (IntKind.wrap IntKind.u64 (x45 * (4294967296 : Int)) + x46))
                                (Int.fdiv
                                  (IntKind.wrap IntKind.u64
                                    (IntKind.wrap IntKind.u64
                                        (IntKind.wrap IntKind.u64
                                            (IntKind.wrap IntKind.u64
                                                (IntKind.wrap IntKind.u64
                                                    (IntKind.wrap IntKind.u64 (borI IntKind.u64 (IntKind.wrap IntKind.u64 (hi * (2 : Int) ^ min (Int.toNat (IntKind.wrap IntKind.u64 (V.lz64_r0 y))) (64 : Nat))) (Int.fdiv lo ((2 : Int) ^ min (Int.toNat (IntKind.wrap IntKind.u64 ((64 : Int) - IntKind.wrap IntKind.u64 (V.lz64_r0 y)))) (64 : Nat))) * (4294967296 : Int)) +
                                                      Int.fdiv (IntKind.wrap IntKind.u64 (lo * (2 : Int) ^ min (Int.toNat (IntKind.wrap IntKind.u64 (V.lz64_r0 y))) (64 : Nat))) (4294967296 : Int)) -
                                                  IntKind.wrap IntKind.u64 (x45 * IntKind.wrap IntKind.u64 (y * (2 : Int) ^ min (Int.toNat (IntKind.wrap IntKind.u64 (V.lz64_r0 y))) (64 : Nat)))) *
                                              (4294967296 : Int)) +
                                          bandI IntKind.u64 (IntKind.wrap IntKind.u64 (lo * (2 : Int) ^ min (Int.toNat (IntKind.wrap IntKind.u64 (V.lz64_r0 y))) (64 : Nat))) (4294967295 : Int)) -
                                      IntKind.wrap IntKind.u64 (x46 * IntKind.wrap IntKind.u64 (y * (2 : Int) ^ min (Int.toNat (IntKind.wrap IntKind.u64 (V.lz64_r0 y))) (64 : Nat)))))
                                  ((2 : Int) ^ min (Int.toNat (IntKind.wrap IntKind.u64 (V.lz64_r0 y))) (64 : Nat))))
                          (100 : Nat)
                          (IntKind.wrap IntKind.u64
                            (IntKind.wrap IntKind.u64
                                (IntKind.wrap IntKind.u64
                                    (IntKind.wrap IntKind.u64 (borI IntKind.u64 (IntKind.wrap IntKind.u64 (hi * (2 : Int) ^ min (Int.toNat (IntKind.wrap IntKind.u64 (V.lz64_r0 y))) (64 : Nat))) (Int.fdiv lo ((2 : Int) ^ min (Int.toNat (IntKind.wrap IntKind.u64 ((64 : Int) - IntKind.wrap IntKind.u64 (V.lz64_r0 y)))) (64 : Nat))) * (4294967296 : Int)) + Int.fdiv (IntKind.wrap IntKind.u64 (lo * (2 : Int) ^ min (Int.toNat (IntKind.wrap IntKind.u64 (V.lz64_r0 y))) (64 : Nat))) (4294967296 : Int)) -
                                  IntKind.wrap IntKind.u64 (x45 * IntKind.wrap IntKind.u64 (y * (2 : Int) ^ min (Int.toNat (IntKind.wrap IntKind.u64 (V.lz64_r0 y))) (64 : Nat)))) -
                              IntKind.wrap IntKind.u64
                                (IntKind.wrap IntKind.u64
                                    (Int.tdiv
                                      (IntKind.wrap IntKind.u64
                                        (IntKind.wrap IntKind.u64
                                            (IntKind.wrap IntKind.u64 (borI IntKind.u64 (IntKind.wrap IntKind.u64 (hi * (2 : Int) ^ min (Int.toNat (IntKind.wrap IntKind.u64 (V.lz64_r0 y))) (64 : Nat))) (Int.fdiv lo ((2 : Int) ^ min (Int.toNat (IntKind.wrap IntKind.u64 ((64 : Int) - IntKind.wrap IntKind.u64 (V.lz64_r0 y)))) (64 : Nat))) * (4294967296 : Int)) +
                                              Int.fdiv (IntKind.wrap IntKind.u64 (lo * (2 : Int) ^ min (Int.toNat (IntKind.wrap IntKind.u64 (V.lz64_r0 y))) (64 : Nat))) (4294967296 : Int)) -
                                          IntKind.wrap IntKind.u64 (x45 * IntKind.wrap IntKind.u64 (y * (2 : Int) ^ min (Int.toNat (IntKind.wrap IntKind.u64 (V.lz64_r0 y))) (64 : Nat)))))
                                      (Int.fdiv (IntKind.wrap IntKind.u64 (y * (2 : Int) ^ min (Int.toNat (IntKind.wrap IntKind.u64 (V.lz64_r0 y))) (64 : Nat))) (4294967296 : Int))) *
                                  Int.fdiv (IntKind.wrap IntKind.u64 (y * (2 : Int) ^ min (Int.toNat (IntKind.wrap IntKind.u64 (V.lz64_r0 y))) (64 : Nat))) (4294967296 : Int))))
                          (IntKind.wrap IntKind.u64
                            (Int.tdiv
                              (IntKind.wrap IntKind.u64
                                (IntKind.wrap IntKind.u64
                                    (IntKind.wrap IntKind.u64 (borI IntKind.u64 (IntKind.wrap IntKind.u64 (hi * (2 : Int) ^ min (Int.toNat (IntKind.wrap IntKind.u64 (V.lz64_r0 y))) (64 : Nat))) (Int.fdiv lo ((2 : Int) ^ min (Int.toNat (IntKind.wrap IntKind.u64 ((64 : Int) - IntKind.wrap IntKind.u64 (V.lz64_r0 y)))) (64 : Nat))) * (4294967296 : Int)) + Int.fdiv (IntKind.wrap IntKind.u64 (lo * (2 : Int) ^ min (Int.toNat (IntKind.wrap IntKind.u64 (V.lz64_r0 y))) (64 : Nat))) (4294967296 : Int)) -
                                  IntKind.wrap IntKind.u64 (x45 * IntKind.wrap IntKind.u64 (y * (2 : Int) ^ min (Int.toNat (IntKind.wrap IntKind.u64 (V.lz64_r0 y))) (64 : Nat)))))
                              (Int.fdiv (IntKind.wrap IntKind.u64 (y * (2 : Int) ^ min (Int.toNat (IntKind.wrap IntKind.u64 (V.lz64_r0 y))) (64 : Nat))) (4294967296 : Int)))))
                    (100 : Nat) (IntKind.wrap IntKind.u64 (Int.tdiv (borI IntKind.u64 (IntKind.wrap IntKind.u64 (hi * (2 : Int) ^ min (Int.toNat (IntKind.wrap IntKind.u64 (V.lz64_r0 y))) (64 : Nat))) (Int.fdiv lo ((2 : Int) ^ min (Int.toNat (IntKind.wrap IntKind.u64 ((64 : Int) - IntKind.wrap IntKind.u64 (V.lz64_r0 y)))) (64 : Nat)))) (Int.fdiv (IntKind.wrap IntKind.u64 (y * (2 : Int) ^ min (Int.toNat (IntKind.wrap IntKind.u64 (V.lz64_r0 y))) (64 : Nat))) (4294967296 : Int))))
                    (IntKind.wrap IntKind.u64
                      (borI IntKind.u64 (IntKind.wrap IntKind.u64 (hi * (2 : Int) ^ min (Int.toNat (IntKind.wrap IntKind.u64 (V.lz64_r0 y))) (64 : Nat))) (Int.fdiv lo ((2 : Int) ^ min (Int.toNat (IntKind.wrap IntKind.u64 ((64 : Int) - IntKind.wrap IntKind.u64 (V.lz64_r0 y)))) (64 : Nat))) -
                        IntKind.wrap IntKind.u64
                          (IntKind.wrap IntKind.u64 (Int.tdiv (borI IntKind.u64 (IntKind.wrap IntKind.u64 (hi * (2 : Int) ^ min (Int.toNat (IntKind.wrap IntKind.u64 (V.lz64_r0 y))) (64 : Nat))) (Int.fdiv lo ((2 : Int) ^ min (Int.toNat (IntKind.wrap IntKind.u64 ((64 : Int) - IntKind.wrap IntKind.u64 (V.lz64_r0 y)))) (64 : Nat)))) (Int.fdiv (IntKind.wrap IntKind.u64 (y * (2 : Int) ^ min (Int.toNat (IntKind.wrap IntKind.u64 (V.lz64_r0 y))) (64 : Nat))) (4294967296 : Int))) *
                            Int.fdiv (IntKind.wrap IntKind.u64 (y * (2 : Int) ^ min (Int.toNat (IntKind.wrap IntKind.u64 (V.lz64_r0 y))) (64 : Nat))) (4294967296 : Int))))
      else none
theorem div64_eq {α : Type} (hi : Int) (lo : Int) (y : Int) (Q : SV → Hp → Option α) : callI E look_lz64 (exec E look_lz64 div64_l1_lps 400) 69 ([SV.int IntKind.u64 hi, SV.int IntKind.u64 lo, SV.int IntKind.u64 y]) ([]) Q = M.div64 hi lo y (fun (x47 : Int) (x48 : Int) => Q (SV.tup [SV.int IntKind.u64 x47, SV.int IntKind.u64 x48]) ([])) := by kernel_rfl
def div64_sp : List AS := [.val (.int .u64 0), .val (.int .u64 0), .val (.int .u64 0)]
noncomputable def div64_go {α : Type} (ds : List D) (Q : SV → Hp → Option α) : Option α :=
  dI ds fun hi ds => dI ds fun lo ds => dI ds fun y ds => dE ds (M.div64 hi lo y (fun (x47 : Int) (x48 : Int) => Q (SV.tup [SV.int IntKind.u64 x47, SV.int IntKind.u64 x48]) ([])))
theorem div64_ok {α : Type} : FnOk E.P 69 (fEnt (α := α) div64_sp div64_go) :=
  fEnt_ok E (look_lz64_ok) (exec_sound E E_ok (look_lz64_ok) (div64_l1_lps_ok) 400) fun ds Q r h => by
    unfold div64_go at h
    obtain ⟨hi, ds, rfl, h1⟩ := dI_inv h
    obtain ⟨lo, ds, rfl, h2⟩ := dI_inv h1
    obtain ⟨y, ds, rfl, h3⟩ := dI_inv h2
    obtain ⟨rfl, hE⟩ := dE_inv h3
    exact ⟨[SV.int IntKind.u64 hi, SV.int IntKind.u64 lo, SV.int IntKind.u64 y], [], fun vs => by kernel_rfl, (div64_eq hi lo y Q).trans hE⟩
theorem u64_in' {n : Int} (h0 : 0 ≤ n) (h1 : n < 18446744073709551616) : IntKind.u64.wrap n = n := IntWalk.u64_in n ⟨h0, by omega⟩
theorem div64_l0_val {α : Type} (yn1 yn0 un1 : Int) (k0 : Int → Option α) (h1 : 2147483648 ≤ yn1) (h1' : yn1 < 4294967296) (h2 : 0 ≤ yn0) (h2' : yn0 < 4294967296) (h3 : 0 ≤ un1) (h3' : un1 < 4294967296)
    (u : Int) (hu : u < yn1 * 4294967296 + yn0) : ∀ (fuel : Nat) (q r : Int), 0 ≤ q → q ≤ 4294967297 → 0 ≤ r → r < 4294967296 → 4294967296 ≤ r + fuel * 2147483648 → q * yn1 + r = u → (u * 4294967296 + un1) / (yn1 * 4294967296 + yn0) ≤ q →
    M.div64_l0 yn1 yn0 un1 k0 fuel q r = k0 ((u * 4294967296 + un1) / (yn1 * 4294967296 + yn0))
  | 0, q, r, a1, a2, a3, a4, a5, a6, a7 => by omega
  | n + 1, q, r, a1, a2, a3, a4, a5, a6, a7 => by
    unfold M.div64_l0 M.div64_l0_step
    have hY : 0 < yn1 * 4294967296 + yn0 := by omega
    generalize hN : u * 4294967296 + un1 = N at *
    have e1 : q * (yn1 * 4294967296 + yn0) = q * yn1 * 4294967296 + q * yn0 := by grind
    have e2 : (q - 1) * (yn1 * 4294967296 + yn0) = q * yn1 * 4294967296 + q * yn0 - yn1 * 4294967296 - yn0 := by grind
    have hrec : N < q * (yn1 * 4294967296 + yn0) → (if cLe (4294967296 : Int) (IntKind.wrap IntKind.u64 (r + yn1)) = true then k0 (IntKind.wrap IntKind.u64 (q - (1 : Int)))
        else M.div64_l0 yn1 yn0 un1 k0 n (IntKind.wrap IntKind.u64 (q - (1 : Int))) (IntKind.wrap IntKind.u64 (r + yn1))) = k0 (N / (yn1 * 4294967296 + yn0)) := by
      intro hlt
      have b1 : N / (yn1 * 4294967296 + yn0) < q := Int.ediv_lt_of_lt_mul hY hlt
      have b0 : 0 ≤ N / (yn1 * 4294967296 + yn0) := by
        by_cases hq : 0 ≤ N
        · exact Int.ediv_nonneg hq (by omega)
        · exfalso
          have : 0 ≤ q * yn1 := Int.mul_nonneg a1 (by omega)
          omega
      rw [u64_in' (by omega : 0 ≤ r + yn1) (by omega), u64_in' (by omega : 0 ≤ q - 1) (by omega), cLe_eq]
      by_cases hb : 4294967296 ≤ r + yn1
      · simp only [hb, decide_true, if_true]
        congr 1
        have : q - 1 ≤ N / (yn1 * 4294967296 + yn0) := by
          apply Int.le_ediv_of_mul_le hY
          rw [e2]
          have : (q - 1) * yn0 ≤ 4294967296 * yn0 := Int.mul_le_mul_of_nonneg_right (by omega) h2
          have e3 : (q - 1) * yn0 = q * yn0 - yn0 := by grind
          omega
        omega
      · simp only [hb, decide_false, Bool.false_eq_true, if_false]
        have := div64_l0_val yn1 yn0 un1 k0 h1 h1' h2 h2' h3 h3' u hu n (q - 1) (r + yn1) (by omega) (by omega) (by omega) (by omega) (by omega) (by grind) (by rw [hN]; omega)
        rw [this, hN]
    simp only [cLe_eq, cLt_eq]
    rw [cLe_eq] at hrec
    have hq0 : 0 ≤ q * yn1 := Int.mul_nonneg a1 (by omega)
    by_cases c1 : 4294967296 ≤ q
    · have hlt : N < q * (yn1 * 4294967296 + yn0) := by
        have : 4294967296 * (yn1 * 4294967296 + yn0) ≤ q * (yn1 * 4294967296 + yn0) := Int.mul_le_mul_of_nonneg_right c1 (by omega)
        omega
      simp only [c1, decide_true, if_true]
      simpa using hrec hlt
    · simp only [c1, decide_false, Bool.false_eq_true, if_false]
      have hm : q * yn0 ≤ 4294967295 * 4294967295 := Int.mul_le_mul (by omega) (by omega) h2 (by omega)
      have hm0 : 0 ≤ q * yn0 := Int.mul_nonneg a1 h2
      rw [u64_in' (by omega : 0 ≤ 4294967296 * r) (by omega), u64_in' (by omega : 0 ≤ 4294967296 * r + un1) (by omega), u64_in' hm0 (by omega)]
      by_cases c2 : 4294967296 * r + un1 < q * yn0
      · simp only [c2, decide_true, if_true]
        simpa using hrec (by rw [e1]; omega)
      · simp only [c2, decide_false, Bool.false_eq_true, if_false]
        congr 1
        have : q ≤ N / (yn1 * 4294967296 + yn0) := by
          apply Int.le_ediv_of_mul_le hY
          rw [e1]; omega
        omega
theorem div64_l1_val {α : Type} (yn1 yn0 un1 : Int) (k0 : Int → Option α) : ∀ (fuel : Nat) (q r : Int), M.div64_l1 yn1 yn0 un1 k0 fuel r q = M.div64_l0 yn1 yn0 un1 k0 fuel q r
  | 0, _, _ => rfl
  | n + 1, q, r => by
    unfold M.div64_l1 M.div64_l0 M.div64_l1_step M.div64_l0_step
    simp only [div64_l1_val yn1 yn0 un1 k0 n]
end Go.Proofs.Ytkjellhkamfciaa.Sx
end

section
/- The quotient of a double word: what it is. -/
namespace Go.Proofs.Ytkjellhkamfciaa.Sx
open Go
set_option linter.unusedVariables false
set_option linter.unusedSimpArgs false
theorem p56 : (2 : Int) ^ 56 = 72057594037927936 := by kernel_rfl
theorem tabAll : (List.range 256).all (fun b => b == 0 || (let n := (strAt len8 (b : Int)).toNat; strAt len8 (b : Int) == (n : Int) && decide (1 ≤ n) && decide (n ≤ 8) && decide ((128 : Int) ≤ (b : Int) * 2 ^ (8 - n)) && decide (((b : Int) + 1) * 2 ^ (8 - n) ≤ 256))) = true := by kernel_rfl
theorem tab (b : Int) (h0 : 1 ≤ b) (h1 : b < 256) : ∃ n : Nat, strAt len8 b = n ∧ 1 ≤ n ∧ n ≤ 8 ∧ 128 ≤ b * 2 ^ (8 - n) ∧ (b + 1) * 2 ^ (8 - n) ≤ 256 := by
  obtain ⟨m, rfl⟩ := Int.eq_ofNat_of_zero_le (by omega : 0 ≤ b)
  have := List.all_eq_true.1 tabAll m (List.mem_range.2 (by omega))
  clear h1
  generalize strAt len8 (m : Int) = t at *
  simp only [Bool.or_eq_true, Bool.and_eq_true, beq_iff_eq, decide_eq_true_eq] at this
  rcases this with h | ⟨⟨⟨⟨a1, a2⟩, a3⟩, a4⟩, a5⟩
  · omega
  · exact ⟨_, a1, a2, a3, a4, a5⟩
theorem lz_branch {y b : Int} {k : Nat} (h1 : b * 2 ^ k ≤ y) (h2 : y < (b + 1) * 2 ^ k) (hk : k ≤ 56) (h0 : 1 ≤ b) (h3 : b < 256) :
    ∃ s : Nat, IntKind.wrap .i64 (64 - IntKind.wrap .i64 ((k : Int) + IntKind.wrap .i64 (strAt len8 b))) = s ∧ s ≤ 63 ∧ 9223372036854775808 ≤ y * 2 ^ s ∧ y * 2 ^ s < 18446744073709551616 := by
  obtain ⟨n, e, n1, n2, n3, n4⟩ := tab b h0 h3
  refine ⟨64 - (k + n), ?_, by omega, ?_, ?_⟩
  · rw [e, IntWalk.i64_in (n : Int) (by omega), IntWalk.i64_in ((k : Int) + n) (by omega), IntWalk.i64_in _ (by omega)]; omega
  · have e1 : (2 : Int) ^ k * 2 ^ (64 - (k + n)) = 2 ^ (8 - n) * 2 ^ 56 := by
      rw [← Int.pow_add, ← Int.pow_add]; exact congrArg (fun e : Nat => (2 : Int) ^ e) (by omega)
    rw [p56] at e1
    have p : (0 : Int) ≤ 2 ^ (64 - (k + n)) := Int.le_of_lt (Int.pow_pos (by decide))
    have := Int.mul_le_mul_of_nonneg_right h1 p
    have e2 : b * 2 ^ k * 2 ^ (64 - (k + n)) = b * 2 ^ (8 - n) * 72057594037927936 := by rw [Int.mul_assoc, e1, Int.mul_assoc]
    omega
  · have e1 : (2 : Int) ^ k * 2 ^ (64 - (k + n)) = 2 ^ (8 - n) * 2 ^ 56 := by
      rw [← Int.pow_add, ← Int.pow_add]; exact congrArg (fun e : Nat => (2 : Int) ^ e) (by omega)
    rw [p56] at e1
    have p : (0 : Int) < 2 ^ (64 - (k + n)) := Int.pow_pos (by decide)
    have := Int.mul_lt_mul_of_pos_right h2 p
    have e2 : (b + 1) * 2 ^ k * 2 ^ (64 - (k + n)) = (b + 1) * 2 ^ (8 - n) * 72057594037927936 := by rw [Int.mul_assoc, e1, Int.mul_assoc]
    omega
theorem u8_in' {n : Int} (h0 : 0 ≤ n) (h1 : n < 256) : IntKind.u8.wrap n = n := IntWalk.u8_in n ⟨h0, by omega⟩
theorem fdiv_pos (a b : Int) (h : 0 < b) : Int.fdiv a b = a / b := Int.fdiv_eq_ediv_of_nonneg a (by omega)
theorem lz64_spec (y : Int) (h0 : 0 < y) (h1 : y < 18446744073709551616) : V.lz64_g y = true ∧ ∃ s : Nat, V.lz64_r0 y = s ∧ s ≤ 63 ∧ 9223372036854775808 ≤ y * 2 ^ s ∧ y * 2 ^ s < 18446744073709551616 := by
  unfold V.lz64_g V.lz64_r0 V.len64_g V.len64_r0
  simp only [cLe_eq, fdiv_pos _ 4294967296 (by decide), fdiv_pos _ 65536 (by decide), fdiv_pos _ 256 (by decide)]
  have key : ∀ (k : Nat) (b : Int), k ≤ 56 → b = y / 2 ^ k → 1 ≤ b → b < 256 → ∃ s : Nat, IntKind.wrap .i64 (64 - IntKind.wrap .i64 ((k : Int) + IntKind.wrap .i64 (strAt len8 b))) = s ∧ s ≤ 63 ∧ 9223372036854775808 ≤ y * 2 ^ s ∧ y * 2 ^ s < 18446744073709551616 := by
    intro k b hk hb h2 h3
    have p : (0 : Int) < 2 ^ k := Int.pow_pos (by decide)
    refine lz_branch ?_ ?_ hk h2 h3
    · rw [hb]; exact Int.ediv_mul_le y (by omega)
    · rw [hb]; exact Int.lt_ediv_add_one_mul_self y p
  by_cases c1 : 4294967296 ≤ y
  · by_cases c2 : 65536 ≤ y / 4294967296
    · by_cases c3 : 256 ≤ y / 4294967296 / 65536
      · have := key 56 (y / 4294967296 / 65536 / 256) (by omega) (by rw [show (2 : Int) ^ 56 = 72057594037927936 from (by kernel_rfl)]; omega) (by omega) (by omega)
        simp only [c1, c2, c3, decide_true, if_true, u8_in' (by omega : 0 ≤ y / 4294967296 / 65536 / 256) (by omega)]
        have h : 0 ≤ y / 4294967296 / 65536 / 256 ∧ y / 4294967296 / 65536 / 256 < 256 := by omega
        simpa [h] using this
      · have := key 48 (y / 4294967296 / 65536) (by omega) (by rw [show (2 : Int) ^ 48 = 281474976710656 from (by kernel_rfl)]; omega) (by omega) (by omega)
        simp only [c1, c2, c3, decide_true, decide_false, Bool.false_eq_true, if_false, if_true, u8_in' (by omega : 0 ≤ y / 4294967296 / 65536) (by omega)]
        have h : 0 ≤ y / 4294967296 / 65536 ∧ y / 4294967296 / 65536 < 256 := by omega
        simpa [h] using this
    · by_cases c3 : 256 ≤ y / 4294967296
      · have := key 40 (y / 4294967296 / 256) (by omega) (by rw [show (2 : Int) ^ 40 = 1099511627776 from (by kernel_rfl)]; omega) (by omega) (by omega)
        simp only [c1, c2, c3, decide_true, decide_false, Bool.false_eq_true, if_false, if_true, u8_in' (by omega : 0 ≤ y / 4294967296 / 256) (by omega)]
        have h : 0 ≤ y / 4294967296 / 256 ∧ y / 4294967296 / 256 < 256 := by omega
        simpa [h] using this
      · have := key 32 (y / 4294967296) (by omega) (by rw [show (2 : Int) ^ 32 = 4294967296 from (by kernel_rfl)]) (by omega) (by omega)
        simp only [c1, c2, c3, decide_true, decide_false, Bool.false_eq_true, if_false, if_true, u8_in' (by omega : 0 ≤ y / 4294967296) (by omega)]
        have h : 0 ≤ y / 4294967296 ∧ y / 4294967296 < 256 := by omega
        simpa [h] using this
  · by_cases c2 : 65536 ≤ y
    · by_cases c3 : 256 ≤ y / 65536
      · have := key 24 (y / 65536 / 256) (by omega) (by rw [show (2 : Int) ^ 24 = 16777216 from (by kernel_rfl)]; omega) (by omega) (by omega)
        simp only [c1, c2, c3, decide_true, decide_false, Bool.false_eq_true, if_false, if_true, u8_in' (by omega : 0 ≤ y / 65536 / 256) (by omega)]
        have h : 0 ≤ y / 65536 / 256 ∧ y / 65536 / 256 < 256 := by omega
        simpa [h] using this
      · have := key 16 (y / 65536) (by omega) (by rw [show (2 : Int) ^ 16 = 65536 from (by kernel_rfl)]) (by omega) (by omega)
        simp only [c1, c2, c3, decide_true, decide_false, Bool.false_eq_true, if_false, if_true, u8_in' (by omega : 0 ≤ y / 65536) (by omega)]
        have h : 0 ≤ y / 65536 ∧ y / 65536 < 256 := by omega
        simpa [h] using this
    · by_cases c3 : 256 ≤ y
      · have := key 8 (y / 256) (by omega) (by rw [show (2 : Int) ^ 8 = 256 from (by kernel_rfl)]) (by omega) (by omega)
        simp only [c1, c2, c3, decide_true, decide_false, Bool.false_eq_true, if_false, if_true, u8_in' (by omega : 0 ≤ y / 256) (by omega)]
        have h : 0 ≤ y / 256 ∧ y / 256 < 256 := by omega
        simpa [h] using this
      · have := key 0 y (by omega) (by simp) (by omega) (by omega)
        simp only [c1, c2, c3, decide_true, decide_false, Bool.false_eq_true, if_false, if_true, u8_in' (by omega : 0 ≤ y) (by omega)]
        have h : 0 ≤ y ∧ y < 256 := by omega
        simpa [h] using this
end Go.Proofs.Ytkjellhkamfciaa.Sx
end

section
/- The quotient of a double word is the quotient. -/
namespace Go.Proofs.Ytkjellhkamfciaa.Sx
open Go
set_option linter.unusedVariables false
set_option linter.unusedSimpArgs false
theorem ofInt_toNat {x : Int} (h0 : 0 ≤ x) (h1 : x < 18446744073709551616) : (BitVec.ofInt 64 x).toNat = x.toNat := by
  rw [BitVec.toNat_ofInt]
  congr 1
  exact Int.emod_eq_of_lt h0 (by simpa using h1)
theorem band32 {x : Int} (h0 : 0 ≤ x) (h1 : x < 18446744073709551616) : bandI .u64 x 4294967295 = x % 4294967296 := by
  unfold bandI
  have e1 : (BitVec.ofInt IntKind.u64.bits x &&& BitVec.ofInt IntKind.u64.bits 4294967295).toNat = x.toNat % 4294967296 := by
    show (BitVec.ofInt 64 x &&& BitVec.ofInt 64 4294967295).toNat = _
    rw [BitVec.toNat_and, ofInt_toNat h0 h1, ofInt_toNat (by decide) (by decide)]
    exact Nat.and_two_pow_sub_one_eq_mod x.toNat 32
  rw [e1, u64_in' (by omega) (by omega)]
  omega
theorem bor_add {a b : Int} {s : Nat} (h0 : 0 ≤ a) (h1 : a * 2 ^ s < 18446744073709551616) (h2 : 0 ≤ b) (h3 : b < 2 ^ s) (h4 : a * 2 ^ s + b < 18446744073709551616) : borI .u64 (a * 2 ^ s) b = a * 2 ^ s + b := by
  unfold borI
  have hp : (0 : Int) < 2 ^ s := Int.pow_pos (by decide)
  have h5 : 0 ≤ a * 2 ^ s := Int.mul_nonneg h0 (by omega)
  obtain ⟨m, rfl⟩ := Int.eq_ofNat_of_zero_le h0
  obtain ⟨n, rfl⟩ := Int.eq_ofNat_of_zero_le h2
  have e2 : ((m : Int) * 2 ^ s) = ((m * 2 ^ s : Nat) : Int) := by push_cast; rfl
  have h3' : n < 2 ^ s := by
    have : ((2 ^ s : Nat) : Int) = (2 : Int) ^ s := by push_cast; rfl
    omega
  have e1 : (BitVec.ofInt IntKind.u64.bits ((m : Int) * 2 ^ s) ||| BitVec.ofInt IntKind.u64.bits (n : Int)).toNat = m * 2 ^ s + n := by
    show (BitVec.ofInt 64 ((m : Int) * 2 ^ s) ||| BitVec.ofInt 64 (n : Int)).toNat = _
    rw [BitVec.toNat_or, ofInt_toNat h5 h1, ofInt_toNat h2 (by omega), e2, Int.toNat_natCast, Int.toNat_natCast, Nat.mul_comm m]
    exact (Nat.two_pow_add_eq_or_of_lt h3' m).symm
  rw [e1, e2]
  exact u64_in' (by omega) (by omega)
theorem wsub {a b : Int} (h0 : 0 ≤ a - b) (h1 : a - b < 18446744073709551616) : IntKind.wrap .u64 (IntKind.wrap .u64 a - IntKind.wrap .u64 b) = a - b := by
  simp only [IntKind.wrap_u64]; omega
theorem wsub3 {a b c : Int} (h0 : 0 ≤ a + b - c) (h1 : a + b - c < 18446744073709551616) : IntKind.wrap .u64 (IntKind.wrap .u64 (IntKind.wrap .u64 a + b) - IntKind.wrap .u64 c) = a + b - c := by
  simp only [IntKind.wrap_u64]; omega
/-- A digit's quotient is found from a guess by the divisor's upper half. -/
theorem guess (Y u : Int) (un1 : Int) (hY0 : 9223372036854775808 ≤ Y) (hY1 : Y < 18446744073709551616) (hu0 : 0 ≤ u) (hu : u < Y) (h3 : 0 ≤ un1) (h3' : un1 < 4294967296) {α : Type} (k0 : Int → Option α) :
    M.div64_l0 (Y / 4294967296) (Y % 4294967296) un1 k0 100 (IntKind.wrap .u64 (Int.tdiv u (Y / 4294967296))) (IntKind.wrap .u64 (u - IntKind.wrap .u64 (IntKind.wrap .u64 (Int.tdiv u (Y / 4294967296)) * (Y / 4294967296)))) = k0 ((u * 4294967296 + un1) / Y) := by
  have e : Y / 4294967296 * 4294967296 + Y % 4294967296 = Y := by omega
  generalize ha : Y / 4294967296 = a at *
  generalize hb : Y % 4294967296 = b at *
  have ha1 : 2147483648 ≤ a := by omega
  have ha2 : a < 4294967296 := by omega
  rw [Int.tdiv_eq_ediv_of_nonneg hu0]
  have q0 : 0 ≤ u / a := Int.ediv_nonneg hu0 (by omega)
  have hr : u / a * a + u % a = u := Int.ediv_mul_add_emod u a
  have hr0 : 0 ≤ u % a := Int.emod_nonneg u (by omega)
  have hr1 : u % a < a := Int.emod_lt_of_pos u (by omega)
  have q1 : u / a ≤ 4294967297 := by
    apply Int.le_of_lt_add_one
    apply Int.ediv_lt_of_lt_mul (by omega)
    have : u < a * 4294967296 + b := by omega
    omega
  have qa : 0 ≤ u / a * a := Int.mul_nonneg q0 (by omega)
  rw [u64_in' q0 (by omega), u64_in' qa (by omega), u64_in' (by omega : 0 ≤ u - u / a * a) (by omega)]
  have := div64_l0_val a b un1 k0 ha1 ha2 (by omega) (by omega) h3 h3' u (by omega) 100 (u / a) (u - u / a * a) q0 q1 (by omega) (by omega) (by omega) (by omega) (by
    apply Int.le_of_lt_add_one
    apply Int.ediv_lt_of_lt_mul (by omega)
    have e1 : (u / a + 1) * (a * 4294967296 + b) = (u / a * a + a) * 4294967296 + u / a * b + b := by grind
    have : 0 ≤ u / a * b := Int.mul_nonneg q0 (by omega)
    omega)
  rw [this, e]
theorem div64_val {α : Type} (hi lo y : Int) (h0 : 0 ≤ hi) (h1 : hi < y) (h2 : y < 18446744073709551616) (h3 : 0 ≤ lo) (h4 : lo < 18446744073709551616) (k0 : Int → Int → Option α) :
    M.div64 hi lo y k0 = k0 ((hi * 18446744073709551616 + lo) / y) ((hi * 18446744073709551616 + lo) % y) := by
  unfold M.div64
  have a1 : ¬ y = 0 := by omega
  have a2 : ¬ y ≤ hi := by omega
  simp only [cEq_eq, cLe_eq, a1, a2, beq_iff_eq, decide_false, Bool.false_eq_true, if_false]
  by_cases hh : hi = 0
  · subst hh
    simp only [if_true, Int.zero_mul, Int.zero_add]
    rw [Int.tdiv_eq_ediv_of_nonneg h3, Int.tmod_eq_emod_of_nonneg h3, u64_in' (Int.ediv_nonneg h3 (by omega))]
    exact Int.lt_of_le_of_lt (Int.ediv_le_self y h3) h4
  · simp only [hh, if_false]
    obtain ⟨g, s, hs, hs63, hY0, hY1⟩ := lz64_spec y (by omega) h2
    have hP : (0 : Int) < 2 ^ s := Int.pow_pos (by decide)
    have hQ : (0 : Int) < 2 ^ (64 - s) := Int.pow_pos (by decide)
    have hPQ : (2 : Int) ^ s * 2 ^ (64 - s) = 18446744073709551616 := by
      rw [← Int.pow_add, show s + (64 - s) = 64 by omega]; kernel_rfl
    have r3 : IntKind.wrap .u64 (s : Int) = s := u64_in' (by omega) (by omega)
    have r6 : IntKind.wrap .u64 ((64 : Int) - s) = 64 - s := u64_in' (by omega) (by omega)
    have r7 : Int.toNat ((64 : Int) - s) = 64 - s := by omega
    have r5 : min s 64 = s := by omega
    have r8 : min (64 - s) 64 = 64 - s := by omega
    have c1 : ¬ (s : Int) < 0 := by omega
    have c2 : ¬ (64 : Int) - s < 0 := by omega
    simp only [g, hs, r3, r6, r7, r5, r8, c1, c2, Int.toNat_natCast, if_true, if_false]
    generalize hPe : (2 : Int) ^ s = P at *
    generalize hQe : (2 : Int) ^ (64 - s) = Q at *
    have hhP : hi * P < 18446744073709551616 := by
      have := Int.mul_lt_mul_of_pos_right h1 hP
      omega
    have hhP0 : 0 ≤ hi * P := Int.mul_nonneg h0 (by omega)
    have r9 : IntKind.wrap .u64 (y * P) = y * P := u64_in' (by omega) hY1
    have r11 : IntKind.wrap .u64 (hi * P) = hi * P := u64_in' hhP0 hhP
    have hL0 : 0 ≤ lo / Q := Int.ediv_nonneg h3 (by omega)
    have hL1 : lo / Q < P := by
      apply Int.ediv_lt_of_lt_mul hQ
      rw [hPQ]; exact h4
    have hlo : lo / Q * Q + lo % Q = lo := Int.ediv_mul_add_emod lo Q
    have hm0 : 0 ≤ lo % Q := Int.emod_nonneg lo (by omega)
    have hm1 : lo % Q < Q := Int.emod_lt_of_pos lo hQ
    have hv1 : lo % Q * P < 18446744073709551616 := by
      have := Int.mul_lt_mul_of_pos_right hm1 hP
      have e : Q * P = 18446744073709551616 := by rw [Int.mul_comm]; exact hPQ
      omega
    have hv0 : 0 ≤ lo % Q * P := Int.mul_nonneg hm0 (by omega)
    have hloP : lo * P = lo / Q * 18446744073709551616 + lo % Q * P := by
      rw [← hPQ]; grind
    have r12 : IntKind.wrap .u64 (lo * P) = lo % Q * P := by
      rw [IntKind.wrap_u64, hloP]; omega
    have hu : (hi * P + lo / Q) * 18446744073709551616 + lo % Q * P = (hi * 18446744073709551616 + lo) * P := by
      rw [Int.add_mul (hi * 18446744073709551616) lo P, hloP]; grind
    have huY : hi * P + lo / Q < y * P := by
      have e1 : (hi + 1) * P ≤ y * P := Int.mul_le_mul_of_nonneg_right (by omega) (by omega)
      have e2 : (hi + 1) * P = hi * P + P := by grind
      omega
    have r10 : Int.fdiv lo Q = lo / Q := fdiv_pos _ _ hQ
    have rbor : borI .u64 (hi * P) (lo / Q) = hi * P + lo / Q := by
      rw [← hPe] at hL1 hhP ⊢
      exact bor_add h0 hhP hL0 hL1 (by rw [hPe]; omega)
    simp only [r9, r11, r12, r10, rbor]
    have hYP : 0 < y * P := by omega
    have hu0 : 0 ≤ hi * P + lo / Q := by omega
    -- names
    obtain ⟨U, hU⟩ : ∃ U, U = (hi * 18446744073709551616 + lo) * P := ⟨_, rfl⟩
    have goalQ : (hi * 18446744073709551616 + lo) / y = U / (y * P) := by rw [hU, Int.mul_ediv_mul_of_pos_left _ _ hP]
    have goalR : (hi * 18446744073709551616 + lo) % y = (U % (y * P)) / P := by
      rw [hU, Int.mul_comm _ P, Int.mul_comm y P, Int.mul_emod_mul_of_pos _ _ hP, Int.mul_ediv_cancel_left _ (by omega)]
    rw [goalQ, goalR]
    rw [← hu] at hU
    clear goalQ goalR hu hloP r9 r11 r12 r10 rbor
    generalize hi * P + lo / Q = u at *
    generalize lo % Q * P = v at *
    generalize y * P = Y at *
    simp only [fdiv_pos _ 4294967296 (by decide), band32 (by omega : 0 ≤ Y) hY1, band32 hv0 hv1, show ¬ Y / 4294967296 = 0 by omega, if_false]
    rw [guess Y u (v / 4294967296) hY0 hY1 hu0 huY (by omega) (by omega)]
    -- the rest of the first step
    have hd : (u * 4294967296 + v / 4294967296) / Y * Y + (u * 4294967296 + v / 4294967296) % Y = u * 4294967296 + v / 4294967296 := Int.ediv_mul_add_emod _ _
    have hR0 : 0 ≤ (u * 4294967296 + v / 4294967296) % Y := Int.emod_nonneg _ (by omega)
    have hR1 : (u * 4294967296 + v / 4294967296) % Y < Y := Int.emod_lt_of_pos _ (by omega)
    have hq1 : 0 ≤ (u * 4294967296 + v / 4294967296) / Y := Int.ediv_nonneg (by omega) (by omega)
    have hq1' : (u * 4294967296 + v / 4294967296) / Y < 4294967296 := by
      apply Int.ediv_lt_of_lt_mul (by omega); omega
    rw [wsub3 (by omega) (by omega)]
    generalize hq : (u * 4294967296 + v / 4294967296) / Y = q1 at *
    generalize hr : (u * 4294967296 + v / 4294967296) % Y = R at *
    have eR : u * 4294967296 + v / 4294967296 - q1 * Y = R := by omega
    rw [eR, div64_l1_val, guess Y R (v % 4294967296) hY0 hY1 hR0 hR1 (by omega) (by omega)]
    have hd2 : (R * 4294967296 + v % 4294967296) / Y * Y + (R * 4294967296 + v % 4294967296) % Y = R * 4294967296 + v % 4294967296 := Int.ediv_mul_add_emod _ _
    have hS0 : 0 ≤ (R * 4294967296 + v % 4294967296) % Y := Int.emod_nonneg _ (by omega)
    have hS1 : (R * 4294967296 + v % 4294967296) % Y < Y := Int.emod_lt_of_pos _ (by omega)
    have hq2 : 0 ≤ (R * 4294967296 + v % 4294967296) / Y := Int.ediv_nonneg (by omega) (by omega)
    have hq2' : (R * 4294967296 + v % 4294967296) / Y < 4294967296 := by
      apply Int.ediv_lt_of_lt_mul (by omega); omega
    rw [wsub3 (by omega) (by omega)]
    generalize hq' : (R * 4294967296 + v % 4294967296) / Y = q0 at *
    generalize hr' : (R * 4294967296 + v % 4294967296) % Y = T at *
    have eT : R * 4294967296 + v % 4294967296 - q0 * Y = T := by omega
    have eU : U = T + Y * (q1 * 4294967296 + q0) := by
      have : Y * (q1 * 4294967296 + q0) = q1 * Y * 4294967296 + q0 * Y := by grind
      omega
    have fQ : U / Y = q1 * 4294967296 + q0 := by
      rw [eU, Int.add_mul_ediv_left _ _ (by omega : Y ≠ 0), Int.ediv_eq_zero_of_lt hS0 hS1]; omega
    have fR : U % Y = T := by
      rw [eU, Int.add_mul_emod_self_left, Int.emod_eq_of_lt hS0 hS1]
    rw [eT, fQ, fR, fdiv_pos _ _ hP]
    congr 1
    simp only [IntKind.wrap_u64]; omega
noncomputable def div64_c {α : Type} (ds : List D) (Q : SV → Hp → Option α) : Option α :=
  dI ds fun hi ds => dI ds fun lo ds => dI ds fun y ds => dE ds (if (0 ≤ hi ∧ hi < y ∧ y < 18446744073709551616) ∧ 0 ≤ lo ∧ lo < 18446744073709551616 then
    Q (.tup [.int .u64 ((hi * 18446744073709551616 + lo) / y), .int .u64 ((hi * 18446744073709551616 + lo) % y)]) [] else none)
theorem div64_c_ok {α : Type} : FnOk E.P 69 (fEnt (α := α) div64_sp div64_c) :=
  fEnt_ok E look_lz64_ok (exec_sound E E_ok look_lz64_ok div64_l1_lps_ok 400) fun ds Q r h => by
    unfold div64_c at h
    obtain ⟨hi, ds, rfl, h1⟩ := dI_inv h
    obtain ⟨lo, ds, rfl, h2⟩ := dI_inv h1
    obtain ⟨y, ds, rfl, h3⟩ := dI_inv h2
    obtain ⟨rfl, hE⟩ := dE_inv h3
    split at hE
    · rename_i hc
      exact ⟨_, [], fun vs => by kernel_rfl, (div64_eq hi lo y Q).trans ((div64_val hi lo y hc.1.1 hc.1.2.1 hc.1.2.2 hc.2.1 hc.2.2 _).trans hE)⟩
    · cases hE
noncomputable def look_div64 {α : Type} : LookF α := addFn 69 (fEnt div64_sp div64_c) look_lz64
theorem look_div64_ok {α : Type} : LookOk E.P (look_div64 (α := α)) := addFn_ok div64_c_ok (look_lz64_ok)
end Go.Proofs.Ytkjellhkamfciaa.Sx
end

section
/- fx: what its words reckon, in whole numbers. -/
namespace Go.Proofs.Ytkjellhkamfciaa.Sx
open Go
set_option linter.unusedVariables false
set_option linter.unusedSimpArgs false
def hiW (x : Int) : Int := x / 18446744073709551616 % 18446744073709551616
def loW (x : Int) : Int := x % 18446744073709551616
theorem hiW_lo (x : Int) : 0 ≤ hiW x ∧ hiW x < 18446744073709551616 := by unfold hiW; omega
theorem loW_lo (x : Int) : 0 ≤ loW x ∧ loW x < 18446744073709551616 := by unfold loW; omega
/-- In an int's range. -/
def R64 (n : Int) : Prop := -9223372036854775808 ≤ n ∧ n < 9223372036854775808
theorem mul64_eq' {x y : Int} (h0 : 0 ≤ x) (h1 : x < 18446744073709551616) (h2 : 0 ≤ y) (h3 : y < 18446744073709551616) :
    V.mul64_r0 x y = x * y / 18446744073709551616 ∧ V.mul64_r1 x y = x * y % 18446744073709551616 := by
  refine ⟨?_, ?_⟩
  · unfold V.mul64_r0
    rw [band32 h0 h1, band32 h2 h3, fdiv_pos x _ (by decide), fdiv_pos y _ (by decide)]
    have ex : x = x / 4294967296 * 4294967296 + x % 4294967296 := by omega
    have ey : y = y / 4294967296 * 4294967296 + y % 4294967296 := by omega
    have a1 : 0 ≤ x / 4294967296 ∧ x / 4294967296 ≤ 4294967295 := by omega
    have a2 : 0 ≤ x % 4294967296 ∧ x % 4294967296 ≤ 4294967295 := by omega
    have a3 : 0 ≤ y / 4294967296 ∧ y / 4294967296 ≤ 4294967295 := by omega
    have a4 : 0 ≤ y % 4294967296 ∧ y % 4294967296 ≤ 4294967295 := by omega
    generalize x / 4294967296 = x1 at *
    generalize x % 4294967296 = x0 at *
    generalize y / 4294967296 = y1 at *
    generalize y % 4294967296 = y0 at *
    have exy : x * y = x1 * y1 * 18446744073709551616 + (x1 * y0 + x0 * y1) * 4294967296 + x0 * y0 := by rw [ex, ey]; grind
    rw [exy]
    have b1 : 0 ≤ x1 * y1 ∧ x1 * y1 ≤ 4294967295 * 4294967295 := ⟨Int.mul_nonneg a1.1 a3.1, Int.mul_le_mul a1.2 a3.2 a3.1 (by omega)⟩
    have b2 : 0 ≤ x1 * y0 ∧ x1 * y0 ≤ 4294967295 * 4294967295 := ⟨Int.mul_nonneg a1.1 a4.1, Int.mul_le_mul a1.2 a4.2 a4.1 (by omega)⟩
    have b3 : 0 ≤ x0 * y1 ∧ x0 * y1 ≤ 4294967295 * 4294967295 := ⟨Int.mul_nonneg a2.1 a3.1, Int.mul_le_mul a2.2 a3.2 a3.1 (by omega)⟩
    have b4 : 0 ≤ x0 * y0 ∧ x0 * y0 ≤ 4294967295 * 4294967295 := ⟨Int.mul_nonneg a2.1 a4.1, Int.mul_le_mul a2.2 a4.2 a4.1 (by omega)⟩
    generalize x1 * y1 = p11 at *
    generalize x1 * y0 = p10 at *
    generalize x0 * y1 = p01 at *
    generalize x0 * y0 = p00 at *
    rw [u64_in' b1.1 (by omega), u64_in' b2.1 (by omega), u64_in' b3.1 (by omega), u64_in' b4.1 (by omega), fdiv_pos p00 _ (by decide)]
    have c1 : 0 ≤ p10 + p00 / 4294967296 ∧ p10 + p00 / 4294967296 < 18446744073709551616 := by omega
    rw [u64_in' c1.1 c1.2, band32 c1.1 c1.2, fdiv_pos _ 4294967296 (by decide)]
    rw [u64_in' (by omega : 0 ≤ p11 + (p10 + p00 / 4294967296) / 4294967296) (by omega), u64_in' (by omega : 0 ≤ (p10 + p00 / 4294967296) % 4294967296 + p01) (by omega), fdiv_pos _ 4294967296 (by decide), u64_in' (by omega) (by omega)]
    omega
  · unfold V.mul64_r1; rw [IntKind.wrap_u64]
theorem times_eq' {a b : Int} (ha : R64 a) (hb : R64 b) : V.times_r0 a b = hiW (a * b) ∧ V.times_r1 a b = loW (a * b) := by
  unfold V.times_r0 V.times_r1
  unfold R64 at ha hb
  simp only [cLt_eq, decide_eq_true_eq]
  have hwa : 0 ≤ IntKind.wrap .u64 a ∧ IntKind.wrap .u64 a < 18446744073709551616 := by rw [IntKind.wrap_u64]; omega
  have hwb : 0 ≤ IntKind.wrap .u64 b ∧ IntKind.wrap .u64 b < 18446744073709551616 := by rw [IntKind.wrap_u64]; omega
  obtain ⟨e0, e1⟩ := mul64_eq' hwa.1 hwa.2 hwb.1 hwb.2
  rw [e0, e1]
  by_cases h1 : a < 0
  · by_cases h2 : b < 0
    · simp only [h1, h2, if_true]
      rw [show IntKind.wrap .u64 a = a + 18446744073709551616 by rw [IntKind.wrap_u64]; omega, show IntKind.wrap .u64 b = b + 18446744073709551616 by rw [IntKind.wrap_u64]; omega]
      have e : (a + 18446744073709551616) * (b + 18446744073709551616) = a * b + (a + b + 18446744073709551616) * 18446744073709551616 := by grind
      rw [e]
      simp only [IntKind.wrap_u64, hiW, loW]
      generalize a * b = p
      omega
    · simp only [h1, h2, if_true, if_false]
      rw [show IntKind.wrap .u64 a = a + 18446744073709551616 by rw [IntKind.wrap_u64]; omega, show IntKind.wrap .u64 b = b by rw [IntKind.wrap_u64]; omega]
      have e : (a + 18446744073709551616) * b = a * b + b * 18446744073709551616 := by grind
      rw [e]
      simp only [IntKind.wrap_u64, hiW, loW]
      generalize a * b = p
      omega
  · by_cases h2 : b < 0
    · simp only [h1, h2, if_true, if_false]
      rw [show IntKind.wrap .u64 a = a by rw [IntKind.wrap_u64]; omega, show IntKind.wrap .u64 b = b + 18446744073709551616 by rw [IntKind.wrap_u64]; omega]
      have e : a * (b + 18446744073709551616) = a * b + a * 18446744073709551616 := by grind
      rw [e]
      simp only [IntKind.wrap_u64, hiW, loW]
      generalize a * b = p
      omega
    · simp only [h1, h2, if_false]
      rw [show IntKind.wrap .u64 a = a by rw [IntKind.wrap_u64]; omega, show IntKind.wrap .u64 b = b by rw [IntKind.wrap_u64]; omega]
      have hp : a * b ≤ 9223372036854775807 * 9223372036854775807 := Int.mul_le_mul (by omega) (by omega) (by omega) (by omega)
      have hp0 : 0 ≤ a * b := Int.mul_nonneg (by omega) (by omega)
      simp only [hiW, loW, and_true]
      generalize a * b = p at *
      omega
theorem minus_eq' (x : Int) : V.minus_g (hiW x) (loW x) = true ∧ V.minus_r0 (hiW x) (loW x) = hiW (-x) ∧ V.minus_r1 (hiW x) (loW x) = loW (-x) := by
  unfold V.minus_g V.minus_r0 V.minus_r1
  have a1 := hiW_lo x
  have a2 := loW_lo x
  by_cases h : 0 < (loW x).toNat
  · simp only [Int.ofNat_eq_natCast, Int.toNat_natCast, Nat.add_zero, Int.toNat_zero, h, if_true]
    rw [if_neg (by omega), if_neg (by omega), if_neg (by omega)]
    unfold hiW loW at *
    refine ⟨rfl, ?_, ?_⟩ <;> omega
  · simp only [Int.ofNat_eq_natCast, Int.toNat_natCast, Nat.add_zero, Int.toNat_zero, h, if_false]
    rw [if_neg (by omega), if_neg (by omega), if_neg (by omega)]
    unfold hiW loW at *
    refine ⟨rfl, ?_, ?_⟩ <;> omega
theorem neg_eq' {x : Int} (h0 : -170141183460469231731687303715884105728 ≤ x) (h1 : x < 170141183460469231731687303715884105728) : V.neg_r0 (hiW x) (loW x) = decide (x < 0) := by
  unfold V.neg_r0
  rw [cEq_eq, fdiv_pos _ _ (by decide)]
  unfold hiW
  by_cases h : x < 0
  · simp only [h, decide_true, beq_iff_eq]; omega
  · simp only [h, decide_false, beq_eq_false_iff_ne, ne_eq]; omega
/-- A whole root, if there is one. -/
noncomputable def _root_.Go.Proofs.Ytkjellhkamfciaa.V.isq (x : Int) : Int := open Classical in if h : ∃ r : Int, 0 ≤ r ∧ r * r ≤ x ∧ x < (r + 1) * (r + 1) then Classical.choose h else 0
theorem isq_uniq {x r s : Int} (h1 : 0 ≤ r ∧ r * r ≤ x ∧ x < (r + 1) * (r + 1)) (h2 : 0 ≤ s ∧ s * s ≤ x ∧ x < (s + 1) * (s + 1)) : r = s := by
  rcases Int.lt_trichotomy r s with h | h | h
  · have : (r + 1) * (r + 1) ≤ s * s := Int.mul_le_mul (by omega) (by omega) (by omega) (by omega)
    omega
  · exact h
  · have : (s + 1) * (s + 1) ≤ r * r := Int.mul_le_mul (by omega) (by omega) (by omega) (by omega)
    omega
theorem isq_eq {x r : Int} (h : 0 ≤ r ∧ r * r ≤ x ∧ x < (r + 1) * (r + 1)) : V.isq x = r := by
  unfold V.isq
  have he : ∃ r : Int, 0 ≤ r ∧ r * r ≤ x ∧ x < (r + 1) * (r + 1) := ⟨r, h⟩
  rw [dif_pos he]
  exact isq_uniq (Classical.choose_spec he) h
/-- What is told: a number, or none. -/
def _root_.Go.Proofs.Ytkjellhkamfciaa.V.gv (o : Option Int) : Int := o.getD 0
def _root_.Go.Proofs.Ytkjellhkamfciaa.V.gn (o : Option Int) (bad : Bool) : Bool := o.isNone || bad
def _root_.Go.Proofs.Ytkjellhkamfciaa.V.tl (n : Int) : Option Int := if isG n then none else some n
def _root_.Go.Proofs.Ytkjellhkamfciaa.V.mAdd (a b : Int) : Option Int := if isG a || isG b then none else V.tl (a + b)
def _root_.Go.Proofs.Ytkjellhkamfciaa.V.mSub (a b : Int) : Option Int := if isG a || isG b then none else V.tl (a - b)
/-- A quotient, as fx tells it: where its size would be 2^64 and something is left over, it tells 0. -/
def _root_.Go.Proofs.Ytkjellhkamfciaa.V.qF (x c : Int) : Option Int := if x / c == -18446744073709551616 && x % c != 0 then some 0 else V.tl (x / c)
def _root_.Go.Proofs.Ytkjellhkamfciaa.V.mRatio (a b c : Int) : Option Int := if c == 0 || isG a || isG b || isG c then none else if c < 0 then V.qF (-(a * b)) (-c) else V.qF (a * b) c
def _root_.Go.Proofs.Ytkjellhkamfciaa.V.mMul (a b : Int) : Option Int := if isG a || isG b then none else V.tl (a * b / 4294967296)
def _root_.Go.Proofs.Ytkjellhkamfciaa.V.mDiv (a b : Int) : Option Int := V.mRatio a 4294967296 b
noncomputable def _root_.Go.Proofs.Ytkjellhkamfciaa.V.mRt (x : Int) : Option Int := if 4611686018427387903 < V.isq x then none else some (V.isq x)
noncomputable def _root_.Go.Proofs.Ytkjellhkamfciaa.V.mRoot (a : Int) : Option Int := if decide (a < 0) || isG a then none else V.mRt (a * 4294967296)
def _root_.Go.Proofs.Ytkjellhkamfciaa.V.dotZ (a b : List Int) : Int := (List.zipWith (· * ·) a b).sum
def _root_.Go.Proofs.Ytkjellhkamfciaa.V.mDot (a b : List Int) : Option Int := if a.length != b.length || decide (8 < a.length) || V.anyG a || V.anyG b then none else V.tl (V.dotZ a b / 4294967296)
noncomputable def _root_.Go.Proofs.Ytkjellhkamfciaa.V.mNorm (l : List Int) : Option Int := if decide (8 < l.length) || V.anyG l then none else V.mRt (V.dotZ l l)
theorem isG_iff (n : Int) : isG n = true ↔ (n < -4611686018427387903 ∨ 4611686018427387903 < n) := by simp [isG]
theorem isG_false (n : Int) : isG n = false ↔ (-4611686018427387903 ≤ n ∧ n ≤ 4611686018427387903) := by simp [isG]
end Go.Proofs.Ytkjellhkamfciaa.Sx
end

section
/- fx: roots and sums. -/
namespace Go.Proofs.Ytkjellhkamfciaa.Sx
open Go
set_option maxRecDepth 20000
set_option linter.unusedVariables false
set_option linter.unusedSimpArgs false
noncomputable def _root_.Go.Proofs.Ytkjellhkamfciaa.M.tell {α : Type} (bad : Bool) (n : Int) (k0 : Int → Bool → Option α) : Option α :=
  if V.anyG [n] = true then k0 (0 : Int) true else k0 n bad
theorem tell_eq {α : Type} (bad : Bool) (n : Int) (Q : SV → Hp → Option α) : callI E look_div64 (exec E look_div64 noLps 400) 70 ([SV.ptr (nat_lit 0) (nat_lit 0), SV.int .i64 n]) ([.cells [SV.bool bad] (nat_lit 62)]) Q = M.tell bad n (fun (x0 : Int) (x1 : Bool) => Q (SV.int .i64 x0) ([.cells [SV.bool x1] (nat_lit 62)])) := by kernel_rfl
def tell_sp : List AS := [.ptr 62 [.bool false], .val (.int .i64 0)]
noncomputable def _root_.Go.Proofs.Ytkjellhkamfciaa.V.tell_r0 (bad : Bool) (n : Int) : Int :=
  if V.anyG [n] = true then (0 : Int) else n
noncomputable def _root_.Go.Proofs.Ytkjellhkamfciaa.V.tell_r1 (bad : Bool) (n : Int) : Bool :=
  if V.anyG [n] = true then true else bad
theorem tell_val {α : Type} (bad : Bool) (n : Int) (k0 : Int → Bool → Option α) : M.tell bad n k0 = k0 (V.tell_r0 bad n) (V.tell_r1 bad n) := by
  unfold M.tell V.tell_r0 V.tell_r1
  repeat' first | rfl | (split <;> rename_i h <;> first | simp only [if_pos h] | simp only [if_neg h] | skip)
noncomputable def tell_c {α : Type} (ds : List D) (Q : SV → Hp → Option α) : Option α :=
  dB ds fun bad ds => dI ds fun n ds => dE ds (Q (SV.int .i64 (V.tell_r0 bad n)) ([.cells [SV.bool (V.tell_r1 bad n)] (nat_lit 62)]))
theorem tell_c_ok {α : Type} : FnOk E.P 70 (fEnt (α := α) tell_sp tell_c) :=
  fEnt_ok E (look_div64_ok) (exec_sound E E_ok (look_div64_ok) (noLps_ok _) 400) fun ds Q r h => by
    unfold tell_c at h
    obtain ⟨bad, ds, rfl, h1⟩ := dB_inv h
    obtain ⟨n, ds, rfl, h2⟩ := dI_inv h1
    obtain ⟨rfl, hE⟩ := dE_inv h2
    exact ⟨[SV.ptr (nat_lit 0) (nat_lit 0), SV.int .i64 n], [.cells [SV.bool bad] (nat_lit 62)], fun vs => by kernel_rfl, (tell_eq bad n Q).trans ((tell_val bad n (fun (x0 : Int) (x1 : Bool) => Q (SV.int .i64 x0) ([.cells [SV.bool x1] (nat_lit 62)]))).trans hE)⟩
noncomputable def tell_go {α : Type} (ds : List D) (Q : SV → Hp → Option α) : Option α :=
  dB ds fun bad ds => dI ds fun n ds => dE ds (M.tell bad n (fun (x0 : Int) (x1 : Bool) => Q (SV.int .i64 x0) ([.cells [SV.bool x1] (nat_lit 62)])))
theorem tell_ok {α : Type} : FnOk E.P 70 (fEnt (α := α) tell_sp tell_go) :=
  fEnt_ok E (look_div64_ok) (exec_sound E E_ok (look_div64_ok) (noLps_ok _) 400) fun ds Q r h => by
    unfold tell_go at h
    obtain ⟨bad, ds, rfl, h1⟩ := dB_inv h
    obtain ⟨n, ds, rfl, h2⟩ := dI_inv h1
    obtain ⟨rfl, hE⟩ := dE_inv h2
    exact ⟨[SV.ptr (nat_lit 0) (nat_lit 0), SV.int .i64 n], [.cells [SV.bool bad] (nat_lit 62)], fun vs => by kernel_rfl, (tell_eq bad n Q).trans hE⟩
theorem tell_v {α : Type} (bad : Bool) (n : Int) (k0 : Int → Bool → Option α) : M.tell bad n k0 = k0 (V.gv (V.tl n)) (V.gn (V.tl n) bad) := by
  unfold M.tell V.anyG V.tl V.gv V.gn
  cases h : isG n <;> simp [h]
noncomputable def tell_h {α : Type} (ds : List D) (Q : SV → Hp → Option α) : Option α :=
  dB ds fun bad ds => dI ds fun n ds => dE ds (Q (.int .i64 (V.gv (V.tl n))) ([.cells [.bool (V.gn (V.tl n) bad)] 62]))
theorem tell_h_ok {α : Type} : FnOk E.P 70 (fEnt (α := α) tell_sp tell_h) :=
  fEnt_ok E (look_div64_ok) (exec_sound E E_ok (look_div64_ok) (noLps_ok _) 400) fun ds Q r h => by
    unfold tell_h at h
    obtain ⟨bad, ds, rfl, h1⟩ := dB_inv h
    obtain ⟨n, ds, rfl, h2⟩ := dI_inv h1
    obtain ⟨rfl, hE⟩ := dE_inv h2
    exact ⟨[SV.ptr (nat_lit 0) (nat_lit 0), SV.int .i64 n], [.cells [SV.bool bad] (nat_lit 62)], fun vs => by kernel_rfl, (tell_eq bad n Q).trans ((tell_v bad n _).trans hE)⟩
noncomputable def look_tell {α : Type} : LookF α := addFn 70 (fEnt tell_sp tell_h) look_div64
theorem look_tell_ok {α : Type} : LookOk E.P (look_tell (α := α)) := addFn_ok tell_h_ok (look_div64_ok)
noncomputable def _root_.Go.Proofs.Ytkjellhkamfciaa.M.shift {α : Type} (bad : Bool) (hi : Int) (lo : Int) (k0 : Int → Bool → Option α) : Option α :=
  if (!cEq (Int.fdiv (IntKind.wrap .i64 hi) (4294967296 : Int)) (Int.fdiv (IntKind.wrap .i64 (borI IntKind.u64 (IntKind.wrap IntKind.u64 (hi * (4294967296 : Int))) (Int.fdiv lo (4294967296 : Int)))) (9223372036854775808 : Int))) = true then k0 (0 : Int) true
else k0 (V.gv (V.tl (IntKind.wrap .i64 (borI IntKind.u64 (IntKind.wrap IntKind.u64 (hi * (4294967296 : Int))) (Int.fdiv lo (4294967296 : Int)))))) (V.gn (V.tl (IntKind.wrap .i64 (borI IntKind.u64 (IntKind.wrap IntKind.u64 (hi * (4294967296 : Int))) (Int.fdiv lo (4294967296 : Int))))) bad)
theorem shift_eq {α : Type} (bad : Bool) (hi : Int) (lo : Int) (Q : SV → Hp → Option α) : callI E look_tell (exec E look_tell noLps 400) 65 ([SV.ptr (nat_lit 0) (nat_lit 0), SV.agg [SV.int IntKind.u64 hi, SV.int IntKind.u64 lo]]) ([.cells [SV.bool bad] (nat_lit 62)]) Q = M.shift bad hi lo (fun (x2 : Int) (x3 : Bool) => Q (SV.int .i64 x2) ([.cells [SV.bool x3] (nat_lit 62)])) := by kernel_rfl
def shift_sp : List AS := [.ptr 62 [.bool false], .val (.agg [.int .u64 0, .int .u64 0])]
noncomputable def _root_.Go.Proofs.Ytkjellhkamfciaa.V.shift_r0 (bad : Bool) (hi : Int) (lo : Int) : Int :=
  if (!cEq (Int.fdiv (IntKind.wrap .i64 hi) (4294967296 : Int)) (Int.fdiv (IntKind.wrap .i64 (borI IntKind.u64 (IntKind.wrap IntKind.u64 (hi * (4294967296 : Int))) (Int.fdiv lo (4294967296 : Int)))) (9223372036854775808 : Int))) = true then (0 : Int) else V.gv (V.tl (IntKind.wrap .i64 (borI IntKind.u64 (IntKind.wrap IntKind.u64 (hi * (4294967296 : Int))) (Int.fdiv lo (4294967296 : Int)))))
noncomputable def _root_.Go.Proofs.Ytkjellhkamfciaa.V.shift_r1 (bad : Bool) (hi : Int) (lo : Int) : Bool :=
  if (!cEq (Int.fdiv (IntKind.wrap .i64 hi) (4294967296 : Int)) (Int.fdiv (IntKind.wrap .i64 (borI IntKind.u64 (IntKind.wrap IntKind.u64 (hi * (4294967296 : Int))) (Int.fdiv lo (4294967296 : Int)))) (9223372036854775808 : Int))) = true then true else V.gn (V.tl (IntKind.wrap .i64 (borI IntKind.u64 (IntKind.wrap IntKind.u64 (hi * (4294967296 : Int))) (Int.fdiv lo (4294967296 : Int))))) bad
theorem shift_val {α : Type} (bad : Bool) (hi : Int) (lo : Int) (k0 : Int → Bool → Option α) : M.shift bad hi lo k0 = k0 (V.shift_r0 bad hi lo) (V.shift_r1 bad hi lo) := by
  unfold M.shift V.shift_r0 V.shift_r1
  repeat' first | rfl | (split <;> rename_i h <;> first | simp only [if_pos h] | simp only [if_neg h] | skip)
noncomputable def shift_c {α : Type} (ds : List D) (Q : SV → Hp → Option α) : Option α :=
  dB ds fun bad ds => dI ds fun hi ds => dI ds fun lo ds => dE ds (Q (SV.int .i64 (V.shift_r0 bad hi lo)) ([.cells [SV.bool (V.shift_r1 bad hi lo)] (nat_lit 62)]))
theorem shift_c_ok {α : Type} : FnOk E.P 65 (fEnt (α := α) shift_sp shift_c) :=
  fEnt_ok E (look_tell_ok) (exec_sound E E_ok (look_tell_ok) (noLps_ok _) 400) fun ds Q r h => by
    unfold shift_c at h
    obtain ⟨bad, ds, rfl, h1⟩ := dB_inv h
    obtain ⟨hi, ds, rfl, h2⟩ := dI_inv h1
    obtain ⟨lo, ds, rfl, h3⟩ := dI_inv h2
    obtain ⟨rfl, hE⟩ := dE_inv h3
    exact ⟨[SV.ptr (nat_lit 0) (nat_lit 0), SV.agg [SV.int IntKind.u64 hi, SV.int IntKind.u64 lo]], [.cells [SV.bool bad] (nat_lit 62)], fun vs => by kernel_rfl, (shift_eq bad hi lo Q).trans ((shift_val bad hi lo (fun (x2 : Int) (x3 : Bool) => Q (SV.int .i64 x2) ([.cells [SV.bool x3] (nat_lit 62)]))).trans hE)⟩
noncomputable def shift_go {α : Type} (ds : List D) (Q : SV → Hp → Option α) : Option α :=
  dB ds fun bad ds => dI ds fun hi ds => dI ds fun lo ds => dE ds (M.shift bad hi lo (fun (x2 : Int) (x3 : Bool) => Q (SV.int .i64 x2) ([.cells [SV.bool x3] (nat_lit 62)])))
theorem shift_ok {α : Type} : FnOk E.P 65 (fEnt (α := α) shift_sp shift_go) :=
  fEnt_ok E (look_tell_ok) (exec_sound E E_ok (look_tell_ok) (noLps_ok _) 400) fun ds Q r h => by
    unfold shift_go at h
    obtain ⟨bad, ds, rfl, h1⟩ := dB_inv h
    obtain ⟨hi, ds, rfl, h2⟩ := dI_inv h1
    obtain ⟨lo, ds, rfl, h3⟩ := dI_inv h2
    obtain ⟨rfl, hE⟩ := dE_inv h3
    exact ⟨[SV.ptr (nat_lit 0) (nat_lit 0), SV.agg [SV.int IntKind.u64 hi, SV.int IntKind.u64 lo]], [.cells [SV.bool bad] (nat_lit 62)], fun vs => by kernel_rfl, (shift_eq bad hi lo Q).trans hE⟩
noncomputable def look_shift {α : Type} : LookF α := addFn 65 (fEnt shift_sp shift_c) look_tell
theorem look_shift_ok {α : Type} : LookOk E.P (look_shift (α := α)) := addFn_ok shift_c_ok (look_tell_ok)
/-- A number by 2^32, down. -/
theorem shift_r {x : Int} (bad : Bool) (h0 : -170141183460469231731687303715884105728 ≤ x) (h1 : x < 170141183460469231731687303715884105728) :
    V.shift_r0 bad (hiW x) (loW x) = V.gv (V.tl (x / 4294967296)) ∧ V.shift_r1 bad (hiW x) (loW x) = V.gn (V.tl (x / 4294967296)) bad := by
  unfold V.shift_r0 V.shift_r1
  have a1 := hiW_lo x
  have a2 := loW_lo x
  have e1 : borI IntKind.u64 (IntKind.wrap IntKind.u64 (hiW x * 4294967296)) (Int.fdiv (loW x) 4294967296) = hiW x % 4294967296 * 4294967296 + loW x / 4294967296 := by
    rw [fdiv_pos _ _ (by decide), show IntKind.wrap IntKind.u64 (hiW x * 4294967296) = hiW x % 4294967296 * 2 ^ 32 by rw [IntKind.wrap_u64]; omega]
    rw [bor_add (by omega) (by omega) (by omega) (by omega) (by omega)]
    omega
  rw [e1, cEq_eq, fdiv_pos _ _ (by decide), fdiv_pos _ _ (by decide)]
  unfold V.tl V.gv V.gn
  have hG := isG_iff (x / 4294967296)
  by_cases hb : isG (x / 4294967296) = true
  · have hb' := hG.1 hb
    by_cases hc : IntKind.wrap .i64 (hiW x) / 4294967296 = IntKind.wrap .i64 (hiW x % 4294967296 * 4294967296 + loW x / 4294967296) / 9223372036854775808
    · have : IntKind.wrap .i64 (hiW x % 4294967296 * 4294967296 + loW x / 4294967296) = x / 4294967296 := by
        simp only [IntKind.wrap_i64, hiW, loW] at *; omega
      simp [hc, this, hb]
    · simp [hc, hb]
  · have hb' : isG (x / 4294967296) = false := by simpa using hb
    have hb2 := (isG_false _).1 hb'
    have hn : IntKind.wrap .i64 (hiW x % 4294967296 * 4294967296 + loW x / 4294967296) = x / 4294967296 := by
      simp only [IntKind.wrap_i64, hiW, loW] at *; omega
    have hc : IntKind.wrap .i64 (hiW x) / 4294967296 = x / 4294967296 / 9223372036854775808 := by
      simp only [IntKind.wrap_i64, hiW, loW] at *; omega
    simp [hn, hc, hb']
theorem anyG_get {l : List Int} (h : V.anyG l = false) (i : Nat) : R64 (l.getD i 0) := by
  unfold V.anyG at h
  by_cases hi : i < l.length
  · have := List.any_eq_false.1 h (l[i]) (List.getElem_mem hi)
    rw [Bool.not_eq_true, isG_false] at this
    have e : l.getD i 0 = l[i] := by simp [List.getD_eq_getElem?_getD, hi]
    rw [e]; unfold R64; omega
  · have e : l.getD i 0 = 0 := by simp [List.getD_eq_getElem?_getD, hi]
    rw [e]; unfold R64; omega
theorem dotZ_drop (a b : List Int) (i : Nat) (h1 : i < a.length) (h2 : i < b.length) : V.dotZ (a.drop i) (b.drop i) = a.getD i 0 * b.getD i 0 + V.dotZ (a.drop (i + 1)) (b.drop (i + 1)) := by
  unfold V.dotZ
  rw [List.drop_eq_getElem_cons h1, List.drop_eq_getElem_cons h2, List.zipWith_cons_cons, List.sum_cons]
  simp [List.getD_eq_getElem?_getD, h1, h2]
end Go.Proofs.Ytkjellhkamfciaa.Sx
end

section
/- fx: its words. -/
namespace Go.Proofs.Ytkjellhkamfciaa.Sx
open Go
set_option maxRecDepth 20000
set_option linter.unusedVariables false
set_option linter.unusedSimpArgs false
theorem anyG2 (a b : Int) : V.anyG [a, b] = (isG a || isG b) := by simp [V.anyG]
theorem anyG1 (a : Int) : V.anyG [a] = isG a := by simp [V.anyG]
theorem anyG3 (a b c : Int) : V.anyG [a, b, c] = (isG a || isG b || isG c) := by simp [V.anyG, Bool.or_assoc]
theorem hilo {x : Int} (h0 : 0 ≤ x) (h1 : x < 340282366920938463463374607431768211456) : hiW x * 18446744073709551616 + loW x = x := by unfold hiW loW; omega
theorem prod_G {a b : Int} (ha : isG a = false) (hb : isG b = false) : -21267647932558653957237540927630737409 ≤ a * b ∧ a * b ≤ 21267647932558653957237540927630737409 := by
  rw [isG_false] at ha hb
  have h1 : ∀ x y : Int, 0 ≤ x → x ≤ 4611686018427387903 → 0 ≤ y → y ≤ 4611686018427387903 → 0 ≤ x * y ∧ x * y ≤ 4611686018427387903 * 4611686018427387903 := fun x y hx hx' hy hy' => ⟨Int.mul_nonneg hx hy, Int.mul_le_mul hx' hy' hy (by omega)⟩
  rcases Int.le_total 0 a with p | p <;> rcases Int.le_total 0 b with q | q
  · have := h1 a b p ha.2 q hb.2; omega
  · have := h1 a (-b) p ha.2 (by omega) (by omega); rw [Int.mul_neg] at this; omega
  · have := h1 (-a) b (by omega) (by omega) q hb.2; rw [Int.neg_mul] at this; omega
  · have := h1 (-a) (-b) (by omega) (by omega) (by omega) (by omega); rw [Int.neg_mul_neg] at this; omega
noncomputable def _root_.Go.Proofs.Ytkjellhkamfciaa.M.add {α : Type} (bad : Bool) (a : Int) (b : Int) (k0 : Int → Bool → Option α) : Option α :=
  if V.anyG [a, b] = true then k0 (0 : Int) true else k0 (V.gv (V.tl (IntKind.wrap .i64 (a + b)))) (V.gn (V.tl (IntKind.wrap .i64 (a + b))) bad)
theorem add_eq {α : Type} (bad : Bool) (a : Int) (b : Int) (Q : SV → Hp → Option α) : callI E look_shift (exec E look_shift noLps 400) 39 ([SV.ptr (nat_lit 0) (nat_lit 0), SV.int .i64 a, SV.int .i64 b]) ([.cells [SV.bool bad] (nat_lit 62)]) Q = M.add bad a b (fun (x0 : Int) (x1 : Bool) => Q (SV.int .i64 x0) ([.cells [SV.bool x1] (nat_lit 62)])) := by kernel_rfl
def add_sp : List AS := [.ptr 62 [.bool false], .val (.int .i64 0), .val (.int .i64 0)]
noncomputable def _root_.Go.Proofs.Ytkjellhkamfciaa.V.add_r0 (bad : Bool) (a : Int) (b : Int) : Int :=
  if V.anyG [a, b] = true then (0 : Int) else V.gv (V.tl (IntKind.wrap .i64 (a + b)))
noncomputable def _root_.Go.Proofs.Ytkjellhkamfciaa.V.add_r1 (bad : Bool) (a : Int) (b : Int) : Bool :=
  if V.anyG [a, b] = true then true else V.gn (V.tl (IntKind.wrap .i64 (a + b))) bad
theorem add_val {α : Type} (bad : Bool) (a : Int) (b : Int) (k0 : Int → Bool → Option α) : M.add bad a b k0 = k0 (V.add_r0 bad a b) (V.add_r1 bad a b) := by
  unfold M.add V.add_r0 V.add_r1
  repeat' first | rfl | (split <;> rename_i h <;> first | simp only [if_pos h] | simp only [if_neg h] | skip)
noncomputable def add_c {α : Type} (ds : List D) (Q : SV → Hp → Option α) : Option α :=
  dB ds fun bad ds => dI ds fun a ds => dI ds fun b ds => dE ds (Q (SV.int .i64 (V.add_r0 bad a b)) ([.cells [SV.bool (V.add_r1 bad a b)] (nat_lit 62)]))
theorem add_c_ok {α : Type} : FnOk E.P 39 (fEnt (α := α) add_sp add_c) :=
  fEnt_ok E (look_shift_ok) (exec_sound E E_ok (look_shift_ok) (noLps_ok _) 400) fun ds Q r h => by
    unfold add_c at h
    obtain ⟨bad, ds, rfl, h1⟩ := dB_inv h
    obtain ⟨a, ds, rfl, h2⟩ := dI_inv h1
    obtain ⟨b, ds, rfl, h3⟩ := dI_inv h2
    obtain ⟨rfl, hE⟩ := dE_inv h3
    exact ⟨[SV.ptr (nat_lit 0) (nat_lit 0), SV.int .i64 a, SV.int .i64 b], [.cells [SV.bool bad] (nat_lit 62)], fun vs => by kernel_rfl, (add_eq bad a b Q).trans ((add_val bad a b (fun (x0 : Int) (x1 : Bool) => Q (SV.int .i64 x0) ([.cells [SV.bool x1] (nat_lit 62)]))).trans hE)⟩
noncomputable def add_go {α : Type} (ds : List D) (Q : SV → Hp → Option α) : Option α :=
  dB ds fun bad ds => dI ds fun a ds => dI ds fun b ds => dE ds (M.add bad a b (fun (x0 : Int) (x1 : Bool) => Q (SV.int .i64 x0) ([.cells [SV.bool x1] (nat_lit 62)])))
theorem add_ok {α : Type} : FnOk E.P 39 (fEnt (α := α) add_sp add_go) :=
  fEnt_ok E (look_shift_ok) (exec_sound E E_ok (look_shift_ok) (noLps_ok _) 400) fun ds Q r h => by
    unfold add_go at h
    obtain ⟨bad, ds, rfl, h1⟩ := dB_inv h
    obtain ⟨a, ds, rfl, h2⟩ := dI_inv h1
    obtain ⟨b, ds, rfl, h3⟩ := dI_inv h2
    obtain ⟨rfl, hE⟩ := dE_inv h3
    exact ⟨[SV.ptr (nat_lit 0) (nat_lit 0), SV.int .i64 a, SV.int .i64 b], [.cells [SV.bool bad] (nat_lit 62)], fun vs => by kernel_rfl, (add_eq bad a b Q).trans hE⟩
theorem add_v {α : Type} (bad : Bool) (a b : Int) (k0 : Int → Bool → Option α) : M.add bad a b k0 = k0 (V.gv (V.mAdd a b)) (V.gn (V.mAdd a b) bad) := by
  unfold M.add V.mAdd
  rw [anyG2]
  by_cases h : (isG a || isG b) = true
  · simp [h, V.gv, V.gn]
  · have h' : (isG a || isG b) = false := by simpa using h
    simp only [h', Bool.false_eq_true, if_false]
    simp only [Bool.or_eq_false_iff, isG_false] at h'
    rw [IntWalk.i64_in _ (by omega)]
noncomputable def add_h {α : Type} (ds : List D) (Q : SV → Hp → Option α) : Option α :=
  dB ds fun bad ds => dI ds fun a ds => dI ds fun b ds => dE ds (Q (.int .i64 (V.gv (V.mAdd a b))) ([.cells [.bool (V.gn (V.mAdd a b) bad)] 62]))
theorem add_h_ok {α : Type} : FnOk E.P 39 (fEnt (α := α) add_sp add_h) :=
  fEnt_ok E (look_shift_ok) (exec_sound E E_ok (look_shift_ok) (noLps_ok _) 400) fun ds Q r h => by
    unfold add_h at h
    obtain ⟨bad, ds, rfl, h1⟩ := dB_inv h
    obtain ⟨a, ds, rfl, h2⟩ := dI_inv h1
    obtain ⟨b, ds, rfl, h3⟩ := dI_inv h2
    obtain ⟨rfl, hE⟩ := dE_inv h3
    exact ⟨[SV.ptr (nat_lit 0) (nat_lit 0), SV.int .i64 a, SV.int .i64 b], [.cells [SV.bool bad] (nat_lit 62)], fun vs => by kernel_rfl, (add_eq bad a b Q).trans ((add_v bad a b _).trans hE)⟩
noncomputable def look_add {α : Type} : LookF α := addFn 39 (fEnt add_sp add_h) look_shift
theorem look_add_ok {α : Type} : LookOk E.P (look_add (α := α)) := addFn_ok add_h_ok (look_shift_ok)
noncomputable def _root_.Go.Proofs.Ytkjellhkamfciaa.M.mul {α : Type} (bad : Bool) (a : Int) (b : Int) (k0 : Int → Bool → Option α) : Option α :=
  if V.anyG [a, b] = true then k0 (0 : Int) true else k0 (V.shift_r0 bad (V.times_r0 a b) (V.times_r1 a b)) (V.shift_r1 bad (V.times_r0 a b) (V.times_r1 a b))
theorem mul_eq {α : Type} (bad : Bool) (a : Int) (b : Int) (Q : SV → Hp → Option α) : callI E look_add (exec E look_add noLps 400) 33 ([SV.ptr (nat_lit 0) (nat_lit 0), SV.int .i64 a, SV.int .i64 b]) ([.cells [SV.bool bad] (nat_lit 62)]) Q = M.mul bad a b (fun (x2 : Int) (x3 : Bool) => Q (SV.int .i64 x2) ([.cells [SV.bool x3] (nat_lit 62)])) := by kernel_rfl
def mul_sp : List AS := [.ptr 62 [.bool false], .val (.int .i64 0), .val (.int .i64 0)]
noncomputable def _root_.Go.Proofs.Ytkjellhkamfciaa.V.mul_r0 (bad : Bool) (a : Int) (b : Int) : Int :=
  if V.anyG [a, b] = true then (0 : Int) else V.shift_r0 bad (V.times_r0 a b) (V.times_r1 a b)
noncomputable def _root_.Go.Proofs.Ytkjellhkamfciaa.V.mul_r1 (bad : Bool) (a : Int) (b : Int) : Bool :=
  if V.anyG [a, b] = true then true else V.shift_r1 bad (V.times_r0 a b) (V.times_r1 a b)
theorem mul_val {α : Type} (bad : Bool) (a : Int) (b : Int) (k0 : Int → Bool → Option α) : M.mul bad a b k0 = k0 (V.mul_r0 bad a b) (V.mul_r1 bad a b) := by
  unfold M.mul V.mul_r0 V.mul_r1
  repeat' first | rfl | (split <;> rename_i h <;> first | simp only [if_pos h] | simp only [if_neg h] | skip)
noncomputable def mul_c {α : Type} (ds : List D) (Q : SV → Hp → Option α) : Option α :=
  dB ds fun bad ds => dI ds fun a ds => dI ds fun b ds => dE ds (Q (SV.int .i64 (V.mul_r0 bad a b)) ([.cells [SV.bool (V.mul_r1 bad a b)] (nat_lit 62)]))
theorem mul_c_ok {α : Type} : FnOk E.P 33 (fEnt (α := α) mul_sp mul_c) :=
  fEnt_ok E (look_add_ok) (exec_sound E E_ok (look_add_ok) (noLps_ok _) 400) fun ds Q r h => by
    unfold mul_c at h
    obtain ⟨bad, ds, rfl, h1⟩ := dB_inv h
    obtain ⟨a, ds, rfl, h2⟩ := dI_inv h1
    obtain ⟨b, ds, rfl, h3⟩ := dI_inv h2
    obtain ⟨rfl, hE⟩ := dE_inv h3
    exact ⟨[SV.ptr (nat_lit 0) (nat_lit 0), SV.int .i64 a, SV.int .i64 b], [.cells [SV.bool bad] (nat_lit 62)], fun vs => by kernel_rfl, (mul_eq bad a b Q).trans ((mul_val bad a b (fun (x2 : Int) (x3 : Bool) => Q (SV.int .i64 x2) ([.cells [SV.bool x3] (nat_lit 62)]))).trans hE)⟩
noncomputable def mul_go {α : Type} (ds : List D) (Q : SV → Hp → Option α) : Option α :=
  dB ds fun bad ds => dI ds fun a ds => dI ds fun b ds => dE ds (M.mul bad a b (fun (x2 : Int) (x3 : Bool) => Q (SV.int .i64 x2) ([.cells [SV.bool x3] (nat_lit 62)])))
theorem mul_ok {α : Type} : FnOk E.P 33 (fEnt (α := α) mul_sp mul_go) :=
  fEnt_ok E (look_add_ok) (exec_sound E E_ok (look_add_ok) (noLps_ok _) 400) fun ds Q r h => by
    unfold mul_go at h
    obtain ⟨bad, ds, rfl, h1⟩ := dB_inv h
    obtain ⟨a, ds, rfl, h2⟩ := dI_inv h1
    obtain ⟨b, ds, rfl, h3⟩ := dI_inv h2
    obtain ⟨rfl, hE⟩ := dE_inv h3
    exact ⟨[SV.ptr (nat_lit 0) (nat_lit 0), SV.int .i64 a, SV.int .i64 b], [.cells [SV.bool bad] (nat_lit 62)], fun vs => by kernel_rfl, (mul_eq bad a b Q).trans hE⟩
theorem G_R {a : Int} (h : isG a = false) : R64 a := by rw [isG_false] at h; unfold R64; omega
theorem mul_v {α : Type} (bad : Bool) (a b : Int) (k0 : Int → Bool → Option α) : M.mul bad a b k0 = k0 (V.gv (V.mMul a b)) (V.gn (V.mMul a b) bad) := by
  unfold M.mul V.mMul
  rw [anyG2]
  by_cases h : (isG a || isG b) = true
  · simp [h, V.gv, V.gn]
  · have h' : (isG a || isG b) = false := by simpa using h
    have hab := h'
    simp only [h', Bool.false_eq_true, if_false]
    simp only [Bool.or_eq_false_iff] at h'
    obtain ⟨t0, t1⟩ := times_eq' (G_R h'.1) (G_R h'.2)
    have hp := prod_G h'.1 h'.2
    obtain ⟨s0, s1⟩ := shift_r (x := a * b) bad (by omega) (by omega)
    rw [t0, t1, s0, s1]
noncomputable def mul_h {α : Type} (ds : List D) (Q : SV → Hp → Option α) : Option α :=
  dB ds fun bad ds => dI ds fun a ds => dI ds fun b ds => dE ds (Q (.int .i64 (V.gv (V.mMul a b))) ([.cells [.bool (V.gn (V.mMul a b) bad)] 62]))
theorem mul_h_ok {α : Type} : FnOk E.P 33 (fEnt (α := α) mul_sp mul_h) :=
  fEnt_ok E (look_add_ok) (exec_sound E E_ok (look_add_ok) (noLps_ok _) 400) fun ds Q r h => by
    unfold mul_h at h
    obtain ⟨bad, ds, rfl, h1⟩ := dB_inv h
    obtain ⟨a, ds, rfl, h2⟩ := dI_inv h1
    obtain ⟨b, ds, rfl, h3⟩ := dI_inv h2
    obtain ⟨rfl, hE⟩ := dE_inv h3
    exact ⟨[SV.ptr (nat_lit 0) (nat_lit 0), SV.int .i64 a, SV.int .i64 b], [.cells [SV.bool bad] (nat_lit 62)], fun vs => by kernel_rfl, (mul_eq bad a b Q).trans ((mul_v bad a b _).trans hE)⟩
noncomputable def look_mul {α : Type} : LookF α := addFn 33 (fEnt mul_sp mul_h) look_add
theorem look_mul_ok {α : Type} : LookOk E.P (look_mul (α := α)) := addFn_ok mul_h_ok (look_add_ok)
end Go.Proofs.Ytkjellhkamfciaa.Sx
end

section
/- fx: ratios, sums of products, norms. -/
namespace Go.Proofs.Ytkjellhkamfciaa.Sx
open Go
set_option maxRecDepth 20000
set_option linter.unusedVariables false
set_option linter.unusedSimpArgs false
noncomputable def _root_.Go.Proofs.Ytkjellhkamfciaa.M.ratio {α : Type} (bad : Bool) (a : Int) (b : Int) (c : Int) (k0 : Int → Bool → Option α) : Option α :=
  if cEq c (0 : Int) = true then k0 (0 : Int) true
else
  if V.anyG [a, b, c] = true then k0 (0 : Int) true
  else
    if cLt c (0 : Int) = true then
      if V.minus_g (V.times_r0 a b) (V.times_r1 a b) = true then
        if V.neg_r0 (V.minus_r0 (V.times_r0 a b) (V.times_r1 a b)) (V.minus_r1 (V.times_r0 a b) (V.times_r1 a b)) = true then
          if V.minus_g (V.minus_r0 (V.times_r0 a b) (V.times_r1 a b)) (V.minus_r1 (V.times_r0 a b) (V.times_r1 a b)) = true then
            if cLe (IntKind.wrap IntKind.u64 (IntKind.wrap .i64 ((0 : Int) - c))) (V.minus_r0 (V.minus_r0 (V.times_r0 a b) (V.times_r1 a b)) (V.minus_r1 (V.times_r0 a b) (V.times_r1 a b))) = true then k0 (0 : Int) true
            else
              if
                  ((0 : Int) ≤ V.minus_r0 (V.minus_r0 (V.times_r0 a b) (V.times_r1 a b)) (V.minus_r1 (V.times_r0 a b) (V.times_r1 a b)) ∧ V.minus_r0 (V.minus_r0 (V.times_r0 a b) (V.times_r1 a b)) (V.minus_r1 (V.times_r0 a b) (V.times_r1 a b)) < IntKind.wrap IntKind.u64 (IntKind.wrap .i64 ((0 : Int) - c)) ∧ IntKind.wrap IntKind.u64 (IntKind.wrap .i64 ((0 : Int) - c)) < (18446744073709551616 : Int)) ∧
                    (0 : Int) ≤ V.minus_r1 (V.minus_r0 (V.times_r0 a b) (V.times_r1 a b)) (V.minus_r1 (V.times_r0 a b) (V.times_r1 a b)) ∧ V.minus_r1 (V.minus_r0 (V.times_r0 a b) (V.times_r1 a b)) (V.minus_r1 (V.times_r0 a b) (V.times_r1 a b)) < (18446744073709551616 : Int) then
                if V.neg_r0 (V.minus_r0 (V.times_r0 a b) (V.times_r1 a b)) (V.minus_r1 (V.times_r0 a b) (V.times_r1 a b)) = true then
                  if cLt (0 : Int) ((V.minus_r0 (V.minus_r0 (V.times_r0 a b) (V.times_r1 a b)) (V.minus_r1 (V.times_r0 a b) (V.times_r1 a b)) * (18446744073709551616 : Int) + V.minus_r1 (V.minus_r0 (V.times_r0 a b) (V.times_r1 a b)) (V.minus_r1 (V.times_r0 a b) (V.times_r1 a b))) % IntKind.wrap IntKind.u64 (IntKind.wrap .i64 ((0 : Int) - c))) = true then
                    if cLt (4611686018427387903 : Int) (IntKind.wrap IntKind.u64 ((V.minus_r0 (V.minus_r0 (V.times_r0 a b) (V.times_r1 a b)) (V.minus_r1 (V.times_r0 a b) (V.times_r1 a b)) * (18446744073709551616 : Int) + V.minus_r1 (V.minus_r0 (V.times_r0 a b) (V.times_r1 a b)) (V.minus_r1 (V.times_r0 a b) (V.times_r1 a b))) / IntKind.wrap IntKind.u64 (IntKind.wrap .i64 ((0 : Int) - c)) + (1 : Int))) = true then k0 (0 : Int) true
                    else
                      if V.neg_r0 (V.minus_r0 (V.times_r0 a b) (V.times_r1 a b)) (V.minus_r1 (V.times_r0 a b) (V.times_r1 a b)) = true then
                        k0 (IntKind.wrap .i64 ((0 : Int) - IntKind.wrap .i64 (IntKind.wrap IntKind.u64 ((V.minus_r0 (V.minus_r0 (V.times_r0 a b) (V.times_r1 a b)) (V.minus_r1 (V.times_r0 a b) (V.times_r1 a b)) * (18446744073709551616 : Int) + V.minus_r1 (V.minus_r0 (V.times_r0 a b) (V.times_r1 a b)) (V.minus_r1 (V.times_r0 a b) (V.times_r1 a b))) / IntKind.wrap IntKind.u64 (IntKind.wrap .i64 ((0 : Int) - c)) + (1 : Int))))) bad
                      else k0 (IntKind.wrap .i64 (IntKind.wrap IntKind.u64 ((V.minus_r0 (V.minus_r0 (V.times_r0 a b) (V.times_r1 a b)) (V.minus_r1 (V.times_r0 a b) (V.times_r1 a b)) * (18446744073709551616 : Int) + V.minus_r1 (V.minus_r0 (V.times_r0 a b) (V.times_r1 a b)) (V.minus_r1 (V.times_r0 a b) (V.times_r1 a b))) / IntKind.wrap IntKind.u64 (IntKind.wrap .i64 ((0 : Int) - c)) + (1 : Int)))) bad
                  else
                    if cLt (4611686018427387903 : Int) ((V.minus_r0 (V.minus_r0 (V.times_r0 a b) (V.times_r1 a b)) (V.minus_r1 (V.times_r0 a b) (V.times_r1 a b)) * (18446744073709551616 : Int) + V.minus_r1 (V.minus_r0 (V.times_r0 a b) (V.times_r1 a b)) (V.minus_r1 (V.times_r0 a b) (V.times_r1 a b))) / IntKind.wrap IntKind.u64 (IntKind.wrap .i64 ((0 : Int) - c))) = true then k0 (0 : Int) true
                    else
                      if V.neg_r0 (V.minus_r0 (V.times_r0 a b) (V.times_r1 a b)) (V.minus_r1 (V.times_r0 a b) (V.times_r1 a b)) = true then
                        k0 (IntKind.wrap .i64 ((0 : Int) - IntKind.wrap .i64 ((V.minus_r0 (V.minus_r0 (V.times_r0 a b) (V.times_r1 a b)) (V.minus_r1 (V.times_r0 a b) (V.times_r1 a b)) * (18446744073709551616 : Int) + V.minus_r1 (V.minus_r0 (V.times_r0 a b) (V.times_r1 a b)) (V.minus_r1 (V.times_r0 a b) (V.times_r1 a b))) / IntKind.wrap IntKind.u64 (IntKind.wrap .i64 ((0 : Int) - c))))) bad
                      else k0 (IntKind.wrap .i64 ((V.minus_r0 (V.minus_r0 (V.times_r0 a b) (V.times_r1 a b)) (V.minus_r1 (V.times_r0 a b) (V.times_r1 a b)) * (18446744073709551616 : Int) + V.minus_r1 (V.minus_r0 (V.times_r0 a b) (V.times_r1 a b)) (V.minus_r1 (V.times_r0 a b) (V.times_r1 a b))) / IntKind.wrap IntKind.u64 (IntKind.wrap .i64 ((0 : Int) - c)))) bad
                else
                  if cLt (4611686018427387903 : Int) ((V.minus_r0 (V.minus_r0 (V.times_r0 a b) (V.times_r1 a b)) (V.minus_r1 (V.times_r0 a b) (V.times_r1 a b)) * (18446744073709551616 : Int) + V.minus_r1 (V.minus_r0 (V.times_r0 a b) (V.times_r1 a b)) (V.minus_r1 (V.times_r0 a b) (V.times_r1 a b))) / IntKind.wrap IntKind.u64 (IntKind.wrap .i64 ((0 : Int) - c))) = true then k0 (0 : Int) true
                  else
                    if V.neg_r0 (V.minus_r0 (V.times_r0 a b) (V.times_r1 a b)) (V.minus_r1 (V.times_r0 a b) (V.times_r1 a b)) = true then
                      k0 (IntKind.wrap .i64 ((0 : Int) - IntKind.wrap .i64 ((V.minus_r0 (V.minus_r0 (V.times_r0 a b) (V.times_r1 a b)) (V.minus_r1 (V.times_r0 a b) (V.times_r1 a b)) * (18446744073709551616 : Int) + V.minus_r1 (V.minus_r0 (V.times_r0 a b) (V.times_r1 a b)) (V.minus_r1 (V.times_r0 a b) (V.times_r1 a b))) / IntKind.wrap IntKind.u64 (IntKind.wrap .i64 ((0 : Int) - c))))) bad
                    else k0 (IntKind.wrap .i64 ((V.minus_r0 (V.minus_r0 (V.times_r0 a b) (V.times_r1 a b)) (V.minus_r1 (V.times_r0 a b) (V.times_r1 a b)) * (18446744073709551616 : Int) + V.minus_r1 (V.minus_r0 (V.times_r0 a b) (V.times_r1 a b)) (V.minus_r1 (V.times_r0 a b) (V.times_r1 a b))) / IntKind.wrap IntKind.u64 (IntKind.wrap .i64 ((0 : Int) - c)))) bad
              else none
          else none
        else
          if cLe (IntKind.wrap IntKind.u64 (IntKind.wrap .i64 ((0 : Int) - c))) (V.minus_r0 (V.times_r0 a b) (V.times_r1 a b)) = true then k0 (0 : Int) true
          else
            if ((0 : Int) ≤ V.minus_r0 (V.times_r0 a b) (V.times_r1 a b) ∧ V.minus_r0 (V.times_r0 a b) (V.times_r1 a b) < IntKind.wrap IntKind.u64 (IntKind.wrap .i64 ((0 : Int) - c)) ∧ IntKind.wrap IntKind.u64 (IntKind.wrap .i64 ((0 : Int) - c)) < (18446744073709551616 : Int)) ∧ (0 : Int) ≤ V.minus_r1 (V.times_r0 a b) (V.times_r1 a b) ∧ V.minus_r1 (V.times_r0 a b) (V.times_r1 a b) < (18446744073709551616 : Int) then
              if V.neg_r0 (V.minus_r0 (V.times_r0 a b) (V.times_r1 a b)) (V.minus_r1 (V.times_r0 a b) (V.times_r1 a b)) = true then
                if cLt (0 : Int) ((V.minus_r0 (V.times_r0 a b) (V.times_r1 a b) * (18446744073709551616 : Int) + V.minus_r1 (V.times_r0 a b) (V.times_r1 a b)) % IntKind.wrap IntKind.u64 (IntKind.wrap .i64 ((0 : Int) - c))) = true then
                  if cLt (4611686018427387903 : Int) (IntKind.wrap IntKind.u64 ((V.minus_r0 (V.times_r0 a b) (V.times_r1 a b) * (18446744073709551616 : Int) + V.minus_r1 (V.times_r0 a b) (V.times_r1 a b)) / IntKind.wrap IntKind.u64 (IntKind.wrap .i64 ((0 : Int) - c)) + (1 : Int))) = true then k0 (0 : Int) true
                  else
                    if V.neg_r0 (V.minus_r0 (V.times_r0 a b) (V.times_r1 a b)) (V.minus_r1 (V.times_r0 a b) (V.times_r1 a b)) = true then k0 (IntKind.wrap .i64 ((0 : Int) - IntKind.wrap .i64 (IntKind.wrap IntKind.u64 ((V.minus_r0 (V.times_r0 a b) (V.times_r1 a b) * (18446744073709551616 : Int) + V.minus_r1 (V.times_r0 a b) (V.times_r1 a b)) / IntKind.wrap IntKind.u64 (IntKind.wrap .i64 ((0 : Int) - c)) + (1 : Int))))) bad
                    else k0 (IntKind.wrap .i64 (IntKind.wrap IntKind.u64 ((V.minus_r0 (V.times_r0 a b) (V.times_r1 a b) * (18446744073709551616 : Int) + V.minus_r1 (V.times_r0 a b) (V.times_r1 a b)) / IntKind.wrap IntKind.u64 (IntKind.wrap .i64 ((0 : Int) - c)) + (1 : Int)))) bad
                else
                  if cLt (4611686018427387903 : Int) ((V.minus_r0 (V.times_r0 a b) (V.times_r1 a b) * (18446744073709551616 : Int) + V.minus_r1 (V.times_r0 a b) (V.times_r1 a b)) / IntKind.wrap IntKind.u64 (IntKind.wrap .i64 ((0 : Int) - c))) = true then k0 (0 : Int) true
                  else
                    if V.neg_r0 (V.minus_r0 (V.times_r0 a b) (V.times_r1 a b)) (V.minus_r1 (V.times_r0 a b) (V.times_r1 a b)) = true then k0 (IntKind.wrap .i64 ((0 : Int) - IntKind.wrap .i64 ((V.minus_r0 (V.times_r0 a b) (V.times_r1 a b) * (18446744073709551616 : Int) + V.minus_r1 (V.times_r0 a b) (V.times_r1 a b)) / IntKind.wrap IntKind.u64 (IntKind.wrap .i64 ((0 : Int) - c))))) bad
                    else k0 (IntKind.wrap .i64 ((V.minus_r0 (V.times_r0 a b) (V.times_r1 a b) * (18446744073709551616 : Int) + V.minus_r1 (V.times_r0 a b) (V.times_r1 a b)) / IntKind.wrap IntKind.u64 (IntKind.wrap .i64 ((0 : Int) - c)))) bad
              else
                if cLt (4611686018427387903 : Int) ((V.minus_r0 (V.times_r0 a b) (V.times_r1 a b) * (18446744073709551616 : Int) + V.minus_r1 (V.times_r0 a b) (V.times_r1 a b)) / IntKind.wrap IntKind.u64 (IntKind.wrap .i64 ((0 : Int) - c))) = true then k0 (0 : Int) true
                else
                  if V.neg_r0 (V.minus_r0 (V.times_r0 a b) (V.times_r1 a b)) (V.minus_r1 (V.times_r0 a b) (V.times_r1 a b)) = true then k0 (IntKind.wrap .i64 ((0 : Int) - IntKind.wrap .i64 ((V.minus_r0 (V.times_r0 a b) (V.times_r1 a b) * (18446744073709551616 : Int) + V.minus_r1 (V.times_r0 a b) (V.times_r1 a b)) / IntKind.wrap IntKind.u64 (IntKind.wrap .i64 ((0 : Int) - c))))) bad
                  else k0 (IntKind.wrap .i64 ((V.minus_r0 (V.times_r0 a b) (V.times_r1 a b) * (18446744073709551616 : Int) + V.minus_r1 (V.times_r0 a b) (V.times_r1 a b)) / IntKind.wrap IntKind.u64 (IntKind.wrap .i64 ((0 : Int) - c)))) bad
            else none
      else none
    else
      if V.neg_r0 (V.times_r0 a b) (V.times_r1 a b) = true then
        if V.minus_g (V.times_r0 a b) (V.times_r1 a b) = true then
          if cLe (IntKind.wrap IntKind.u64 c) (V.minus_r0 (V.times_r0 a b) (V.times_r1 a b)) = true then k0 (0 : Int) true
          else
            if ((0 : Int) ≤ V.minus_r0 (V.times_r0 a b) (V.times_r1 a b) ∧ V.minus_r0 (V.times_r0 a b) (V.times_r1 a b) < IntKind.wrap IntKind.u64 c ∧ IntKind.wrap IntKind.u64 c < (18446744073709551616 : Int)) ∧ (0 : Int) ≤ V.minus_r1 (V.times_r0 a b) (V.times_r1 a b) ∧ V.minus_r1 (V.times_r0 a b) (V.times_r1 a b) < (18446744073709551616 : Int) then
              if V.neg_r0 (V.times_r0 a b) (V.times_r1 a b) = true then
                if cLt (0 : Int) ((V.minus_r0 (V.times_r0 a b) (V.times_r1 a b) * (18446744073709551616 : Int) + V.minus_r1 (V.times_r0 a b) (V.times_r1 a b)) % IntKind.wrap IntKind.u64 c) = true then
                  if cLt (4611686018427387903 : Int) (IntKind.wrap IntKind.u64 ((V.minus_r0 (V.times_r0 a b) (V.times_r1 a b) * (18446744073709551616 : Int) + V.minus_r1 (V.times_r0 a b) (V.times_r1 a b)) / IntKind.wrap IntKind.u64 c + (1 : Int))) = true then k0 (0 : Int) true
                  else
                    if V.neg_r0 (V.times_r0 a b) (V.times_r1 a b) = true then k0 (IntKind.wrap .i64 ((0 : Int) - IntKind.wrap .i64 (IntKind.wrap IntKind.u64 ((V.minus_r0 (V.times_r0 a b) (V.times_r1 a b) * (18446744073709551616 : Int) + V.minus_r1 (V.times_r0 a b) (V.times_r1 a b)) / IntKind.wrap IntKind.u64 c + (1 : Int))))) bad
                    else k0 (IntKind.wrap .i64 (IntKind.wrap IntKind.u64 ((V.minus_r0 (V.times_r0 a b) (V.times_r1 a b) * (18446744073709551616 : Int) + V.minus_r1 (V.times_r0 a b) (V.times_r1 a b)) / IntKind.wrap IntKind.u64 c + (1 : Int)))) bad
                else
                  if cLt (4611686018427387903 : Int) ((V.minus_r0 (V.times_r0 a b) (V.times_r1 a b) * (18446744073709551616 : Int) + V.minus_r1 (V.times_r0 a b) (V.times_r1 a b)) / IntKind.wrap IntKind.u64 c) = true then k0 (0 : Int) true
                  else
                    if V.neg_r0 (V.times_r0 a b) (V.times_r1 a b) = true then k0 (IntKind.wrap .i64 ((0 : Int) - IntKind.wrap .i64 ((V.minus_r0 (V.times_r0 a b) (V.times_r1 a b) * (18446744073709551616 : Int) + V.minus_r1 (V.times_r0 a b) (V.times_r1 a b)) / IntKind.wrap IntKind.u64 c))) bad
                    else k0 (IntKind.wrap .i64 ((V.minus_r0 (V.times_r0 a b) (V.times_r1 a b) * (18446744073709551616 : Int) + V.minus_r1 (V.times_r0 a b) (V.times_r1 a b)) / IntKind.wrap IntKind.u64 c)) bad
              else
                if cLt (4611686018427387903 : Int) ((V.minus_r0 (V.times_r0 a b) (V.times_r1 a b) * (18446744073709551616 : Int) + V.minus_r1 (V.times_r0 a b) (V.times_r1 a b)) / IntKind.wrap IntKind.u64 c) = true then k0 (0 : Int) true
                else
                  if V.neg_r0 (V.times_r0 a b) (V.times_r1 a b) = true then k0 (IntKind.wrap .i64 ((0 : Int) - IntKind.wrap .i64 ((V.minus_r0 (V.times_r0 a b) (V.times_r1 a b) * (18446744073709551616 : Int) + V.minus_r1 (V.times_r0 a b) (V.times_r1 a b)) / IntKind.wrap IntKind.u64 c))) bad else k0 (IntKind.wrap .i64 ((V.minus_r0 (V.times_r0 a b) (V.times_r1 a b) * (18446744073709551616 : Int) + V.minus_r1 (V.times_r0 a b) (V.times_r1 a b)) / IntKind.wrap IntKind.u64 c)) bad
            else none
        else none
      else
        if cLe (IntKind.wrap IntKind.u64 c) (V.times_r0 a b) = true then k0 (0 : Int) true
        else
          if ((0 : Int) ≤ V.times_r0 a b ∧ V.times_r0 a b < IntKind.wrap IntKind.u64 c ∧ IntKind.wrap IntKind.u64 c < (18446744073709551616 : Int)) ∧ (0 : Int) ≤ V.times_r1 a b ∧ V.times_r1 a b < (18446744073709551616 : Int) then
            if V.neg_r0 (V.times_r0 a b) (V.times_r1 a b) = true then
              if cLt (0 : Int) ((V.times_r0 a b * (18446744073709551616 : Int) + V.times_r1 a b) % IntKind.wrap IntKind.u64 c) = true then
                if cLt (4611686018427387903 : Int) (IntKind.wrap IntKind.u64 ((V.times_r0 a b * (18446744073709551616 : Int) + V.times_r1 a b) / IntKind.wrap IntKind.u64 c + (1 : Int))) = true then k0 (0 : Int) true
                else if V.neg_r0 (V.times_r0 a b) (V.times_r1 a b) = true then k0 (IntKind.wrap .i64 ((0 : Int) - IntKind.wrap .i64 (IntKind.wrap IntKind.u64 ((V.times_r0 a b * (18446744073709551616 : Int) + V.times_r1 a b) / IntKind.wrap IntKind.u64 c + (1 : Int))))) bad else k0 (IntKind.wrap .i64 (IntKind.wrap IntKind.u64 ((V.times_r0 a b * (18446744073709551616 : Int) + V.times_r1 a b) / IntKind.wrap IntKind.u64 c + (1 : Int)))) bad
              else
                if cLt (4611686018427387903 : Int) ((V.times_r0 a b * (18446744073709551616 : Int) + V.times_r1 a b) / IntKind.wrap IntKind.u64 c) = true then k0 (0 : Int) true
                else if V.neg_r0 (V.times_r0 a b) (V.times_r1 a b) = true then k0 (IntKind.wrap .i64 ((0 : Int) - IntKind.wrap .i64 ((V.times_r0 a b * (18446744073709551616 : Int) + V.times_r1 a b) / IntKind.wrap IntKind.u64 c))) bad else k0 (IntKind.wrap .i64 ((V.times_r0 a b * (18446744073709551616 : Int) + V.times_r1 a b) / IntKind.wrap IntKind.u64 c)) bad
            else
              if cLt (4611686018427387903 : Int) ((V.times_r0 a b * (18446744073709551616 : Int) + V.times_r1 a b) / IntKind.wrap IntKind.u64 c) = true then k0 (0 : Int) true
              else if V.neg_r0 (V.times_r0 a b) (V.times_r1 a b) = true then k0 (IntKind.wrap .i64 ((0 : Int) - IntKind.wrap .i64 ((V.times_r0 a b * (18446744073709551616 : Int) + V.times_r1 a b) / IntKind.wrap IntKind.u64 c))) bad else k0 (IntKind.wrap .i64 ((V.times_r0 a b * (18446744073709551616 : Int) + V.times_r1 a b) / IntKind.wrap IntKind.u64 c)) bad
          else none
theorem ratio_eq {α : Type} (bad : Bool) (a : Int) (b : Int) (c : Int) (Q : SV → Hp → Option α) : callI E look_mul (exec E look_mul noLps 400) 34 ([SV.ptr (nat_lit 0) (nat_lit 0), SV.int .i64 a, SV.int .i64 b, SV.int .i64 c]) ([.cells [SV.bool bad] (nat_lit 62)]) Q = M.ratio bad a b c (fun (x0 : Int) (x1 : Bool) => Q (SV.int .i64 x0) ([.cells [SV.bool x1] (nat_lit 62)])) := by kernel_rfl
def ratio_sp : List AS := [.ptr 62 [.bool false], .val (.int .i64 0), .val (.int .i64 0), .val (.int .i64 0)]
noncomputable def ratio_go {α : Type} (ds : List D) (Q : SV → Hp → Option α) : Option α :=
  dB ds fun bad ds => dI ds fun a ds => dI ds fun b ds => dI ds fun c ds => dE ds (M.ratio bad a b c (fun (x0 : Int) (x1 : Bool) => Q (SV.int .i64 x0) ([.cells [SV.bool x1] (nat_lit 62)])))
theorem ratio_ok {α : Type} : FnOk E.P 34 (fEnt (α := α) ratio_sp ratio_go) :=
  fEnt_ok E (look_mul_ok) (exec_sound E E_ok (look_mul_ok) (noLps_ok _) 400) fun ds Q r h => by
    unfold ratio_go at h
    obtain ⟨bad, ds, rfl, h1⟩ := dB_inv h
    obtain ⟨a, ds, rfl, h2⟩ := dI_inv h1
    obtain ⟨b, ds, rfl, h3⟩ := dI_inv h2
    obtain ⟨c, ds, rfl, h4⟩ := dI_inv h3
    obtain ⟨rfl, hE⟩ := dE_inv h4
    exact ⟨[SV.ptr (nat_lit 0) (nat_lit 0), SV.int .i64 a, SV.int .i64 b, SV.int .i64 c], [.cells [SV.bool bad] (nat_lit 62)], fun vs => by kernel_rfl, (ratio_eq bad a b c Q).trans hE⟩
/-- What Ratio does once the signs are taken away. -/
noncomputable def tailF {α : Type} (neg : Bool) (hi lo cc : Int) (bad : Bool) (k0 : Int → Bool → Option α) : Option α :=
  if cLe cc hi = true then k0 (0 : Int) true
  else
    if (0 ≤ hi ∧ hi < cc ∧ cc < 18446744073709551616) ∧ 0 ≤ lo ∧ lo < 18446744073709551616 then
      if neg = true then
        if cLt (0 : Int) ((hi * 18446744073709551616 + lo) % cc) = true then
          if cLt (4611686018427387903 : Int) (IntKind.wrap IntKind.u64 ((hi * 18446744073709551616 + lo) / cc + 1)) = true then k0 (0 : Int) true
          else
            if neg = true then k0 (IntKind.wrap IntKind.i64 ((0 : Int) - IntKind.wrap IntKind.i64 (IntKind.wrap IntKind.u64 ((hi * 18446744073709551616 + lo) / cc + 1)))) bad
            else k0 (IntKind.wrap IntKind.i64 (IntKind.wrap IntKind.u64 ((hi * 18446744073709551616 + lo) / cc + 1))) bad
        else
          if cLt (4611686018427387903 : Int) ((hi * 18446744073709551616 + lo) / cc) = true then k0 (0 : Int) true
          else
            if neg = true then k0 (IntKind.wrap IntKind.i64 ((0 : Int) - IntKind.wrap IntKind.i64 ((hi * 18446744073709551616 + lo) / cc))) bad
            else k0 (IntKind.wrap IntKind.i64 ((hi * 18446744073709551616 + lo) / cc)) bad
      else
        if cLt (4611686018427387903 : Int) ((hi * 18446744073709551616 + lo) / cc) = true then k0 (0 : Int) true
        else
          if neg = true then k0 (IntKind.wrap IntKind.i64 ((0 : Int) - IntKind.wrap IntKind.i64 ((hi * 18446744073709551616 + lo) / cc))) bad
          else k0 (IntKind.wrap IntKind.i64 ((hi * 18446744073709551616 + lo) / cc)) bad
    else none
theorem tailF_v {α : Type} (neg : Bool) (x cc : Int) (bad : Bool) (k0 : Int → Bool → Option α) (hc0 : 0 < cc) (hc1 : cc ≤ 4611686018427387903) (hx0 : 0 ≤ x) (hx1 : x < 170141183460469231731687303715884105728) :
    tailF neg (hiW x) (loW x) cc bad k0 = k0 (V.gv (V.qF (if neg then -x else x) cc)) (V.gn (V.qF (if neg then -x else x) cc) bad) := by
  unfold tailF
  have a1 := hiW_lo x
  have a2 := loW_lo x
  rw [hilo hx0 (by omega)]
  have hd : x / cc * cc + x % cc = x := Int.ediv_mul_add_emod x cc
  have hm0 : 0 ≤ x % cc := Int.emod_nonneg x (by omega)
  have hm1 : x % cc < cc := Int.emod_lt_of_pos x hc0
  have hq0 : 0 ≤ x / cc := Int.ediv_nonneg hx0 (by omega)
  have hd2 : (-x) / cc * cc + (-x) % cc = -x := Int.ediv_mul_add_emod (-x) cc
  have hn0 : 0 ≤ (-x) % cc := Int.emod_nonneg (-x) (by omega)
  have hn1 : (-x) % cc < cc := Int.emod_lt_of_pos (-x) hc0
  have hneg : (-x) / cc = if 0 < x % cc then -(x / cc) - 1 else -(x / cc) := by
    split
    · rename_i h
      apply Int.ediv_eq_iff_of_pos hc0 |>.2
      have e : (-(x / cc) - 1) * cc = -(x / cc * cc) - cc := by grind
      constructor <;> grind
    · rename_i h
      have e : x = cc * (x / cc) := by rw [Int.mul_comm]; omega
      have : -x = cc * (-(x / cc)) := by rw [Int.mul_neg, ← e]
      rw [this, Int.mul_ediv_cancel_left _ (by omega)]
  have hnm : ((-x) % cc = 0) ↔ x % cc = 0 := by
    constructor
    · intro h
      rw [hneg] at hd2
      split at hd2
      · have e : (-(x / cc) - 1) * cc = -(x / cc * cc) - cc := by grind
        omega
      · omega
    · intro h
      rw [hneg, if_neg (by omega)] at hd2
      have e : (-(x / cc)) * cc = -(x / cc * cc) := by grind
      omega
  simp only [cLe_eq, cLt_eq]
  have hbig : cc ≤ hiW x → 18446744073709551616 ≤ x / cc := by
    intro h1
    apply Int.le_ediv_of_mul_le hc0
    have : 18446744073709551616 * cc ≤ 18446744073709551616 * hiW x := Int.mul_le_mul_of_nonneg_left h1 (by decide)
    unfold hiW at this
    omega
  have hsmall : ¬ cc ≤ hiW x → x / cc < 18446744073709551616 := by
    intro h1
    apply Int.ediv_lt_of_lt_mul hc0
    have : 18446744073709551616 * (hiW x + 1) ≤ 18446744073709551616 * cc := Int.mul_le_mul_of_nonneg_left (by omega) (by decide)
    unfold hiW at this
    omega
  cases neg with
  | false =>
    simp only [Bool.false_eq_true, if_false]
    unfold V.qF V.tl V.gv V.gn
    have hne : (x / cc == -18446744073709551616) = false := by
      simp only [beq_eq_false_iff_ne, ne_eq]; omega
    rw [hne]
    simp only [Bool.false_and, Bool.false_eq_true, if_false]
    by_cases h1 : cc ≤ hiW x
    · have : isG (x / cc) = true := by rw [isG_iff]; have := hbig h1; omega
      simp [h1, this]
    · have hq1 := hsmall h1
      simp only [h1, decide_false, Bool.false_eq_true, if_false]
      rw [if_pos ⟨⟨a1.1, by omega, by omega⟩, a2⟩]
      by_cases c1 : 4611686018427387903 < x / cc
      · have : isG (x / cc) = true := by rw [isG_iff]; omega
        simp [c1, this]
      · have : isG (x / cc) = false := by rw [isG_false]; omega
        rw [IntWalk.i64_in _ (by omega)]
        simp [c1, this]
  | true =>
    simp only [if_true]
    unfold V.qF V.tl V.gv V.gn
    by_cases h1 : cc ≤ hiW x
    · have hb := hbig h1
      simp only [h1, decide_true, if_true]
      have hg : isG ((-x) / cc) = true := by rw [isG_iff, hneg]; split <;> omega
      have hne : ((-x) / cc == -18446744073709551616 && (-x) % cc != 0) = false := by
        by_cases h : (-x) % cc = 0
        · simp [h]
        · have : 0 < x % cc := by
            rw [hnm] at h; omega
          rw [hneg, if_pos this]
          simp only [Bool.and_eq_false_iff, beq_eq_false_iff_ne, ne_eq]
          left; omega
      simp [hne, hg]
    · have hq1 := hsmall h1
      simp only [h1, decide_false, Bool.false_eq_true, if_false]
      rw [if_pos ⟨⟨a1.1, by omega, by omega⟩, a2⟩]
      by_cases c0 : 0 < x % cc
      · rw [hneg, if_pos c0]
        have hn : ((-x) % cc != 0) = true := by
          simp only [bne_iff_ne, ne_eq]
          rw [hnm]; omega
        rw [hn, Bool.and_true]
        simp only [c0, decide_true, if_true]
        generalize x / cc = q at *
        by_cases c2 : q = 18446744073709551615
        · subst c2
          have e : IntKind.wrap .u64 (18446744073709551615 + 1) = 0 := by rw [IntKind.wrap_u64]; rfl
          rw [e]
          have e2 : (-18446744073709551615 - 1 == (-18446744073709551616 : Int)) = true := by decide
          rw [e2, IntWalk.i64_in 0 (by omega)]
          simp only [Int.sub_zero, if_true]
          rw [IntWalk.i64_in 0 (by omega)]
          rfl
        · have e2 : (-q - 1 == (-18446744073709551616 : Int)) = false := by
            simp only [beq_eq_false_iff_ne, ne_eq]; omega
          rw [e2, u64_in' (by omega : 0 ≤ q + 1) (by omega)]
          by_cases c1 : 4611686018427387903 < q + 1
          · have : isG (-q - 1) = true := by rw [isG_iff]; omega
            simp [c1, this]
          · have : isG (-q - 1) = false := by rw [isG_false]; omega
            rw [IntWalk.i64_in (q + 1) (by omega), IntWalk.i64_in _ (by omega)]
            simp only [c1, this, decide_false, Bool.false_eq_true, if_false]
            rw [show (0 : Int) - (q + 1) = -q - 1 by omega]
            rfl
      · rw [hneg, if_neg c0]
        have hn : ((-x) % cc != 0) = false := by
          simp only [bne_eq_false_iff_eq]
          rw [hnm]; omega
        rw [hn, Bool.and_false]
        simp only [c0, decide_false, Bool.false_eq_true, if_false]
        generalize x / cc = q at *
        by_cases c1 : 4611686018427387903 < q
        · have : isG (-q) = true := by rw [isG_iff]; omega
          simp [c1, this]
        · have : isG (-q) = false := by rw [isG_false]; omega
          rw [IntWalk.i64_in q (by omega), IntWalk.i64_in _ (by omega)]
          simp only [c1, this, decide_false, Bool.false_eq_true, if_false]
          rw [show (0 : Int) - q = -q by omega]
          rfl
theorem ratio_tail {α : Type} (bad : Bool) (a b c : Int) (k0 : Int → Bool → Option α) : M.ratio bad a b c k0 =
    if cEq c 0 = true then k0 0 true else if V.anyG [a, b, c] = true then k0 0 true else
      if cLt c 0 = true then
        (if V.minus_g (V.times_r0 a b) (V.times_r1 a b) = true then
          (if V.neg_r0 (V.minus_r0 (V.times_r0 a b) (V.times_r1 a b)) (V.minus_r1 (V.times_r0 a b) (V.times_r1 a b)) = true then
            (if V.minus_g (V.minus_r0 (V.times_r0 a b) (V.times_r1 a b)) (V.minus_r1 (V.times_r0 a b) (V.times_r1 a b)) = true then
              tailF (V.neg_r0 (V.minus_r0 (V.times_r0 a b) (V.times_r1 a b)) (V.minus_r1 (V.times_r0 a b) (V.times_r1 a b))) (V.minus_r0 (V.minus_r0 (V.times_r0 a b) (V.times_r1 a b)) (V.minus_r1 (V.times_r0 a b) (V.times_r1 a b))) (V.minus_r1 (V.minus_r0 (V.times_r0 a b) (V.times_r1 a b)) (V.minus_r1 (V.times_r0 a b) (V.times_r1 a b))) (IntKind.wrap .u64 (IntKind.wrap .i64 (0 - c))) bad k0
            else none)
          else tailF (V.neg_r0 (V.minus_r0 (V.times_r0 a b) (V.times_r1 a b)) (V.minus_r1 (V.times_r0 a b) (V.times_r1 a b))) (V.minus_r0 (V.times_r0 a b) (V.times_r1 a b)) (V.minus_r1 (V.times_r0 a b) (V.times_r1 a b)) (IntKind.wrap .u64 (IntKind.wrap .i64 (0 - c))) bad k0)
        else none)
      else
        (if V.neg_r0 (V.times_r0 a b) (V.times_r1 a b) = true then
          (if V.minus_g (V.times_r0 a b) (V.times_r1 a b) = true then
            tailF (V.neg_r0 (V.times_r0 a b) (V.times_r1 a b)) (V.minus_r0 (V.times_r0 a b) (V.times_r1 a b)) (V.minus_r1 (V.times_r0 a b) (V.times_r1 a b)) (IntKind.wrap .u64 c) bad k0
          else none)
        else tailF (V.neg_r0 (V.times_r0 a b) (V.times_r1 a b)) (V.times_r0 a b) (V.times_r1 a b) (IntKind.wrap .u64 c) bad k0) := rfl
theorem ratio_v {α : Type} (bad : Bool) (a b c : Int) (k0 : Int → Bool → Option α) : M.ratio bad a b c k0 = k0 (V.gv (V.mRatio a b c)) (V.gn (V.mRatio a b c) bad) := by
  rw [ratio_tail, anyG3, cEq_eq, cLt_eq]
  unfold V.mRatio
  by_cases hc : c = 0
  · simp [hc, V.gv, V.gn]
  have hc' : (c == 0) = false := by simpa using hc
  cases hG : (isG a || isG b || isG c) with
  | true =>
    rw [hc', Bool.false_or, hG]
    simp [V.gv, V.gn]
  | false =>
    rw [hc', Bool.false_or, hG]
    simp only [Bool.false_eq_true, if_false]
    simp only [Bool.or_eq_false_iff] at hG
    obtain ⟨t0, t1⟩ := times_eq' (G_R hG.1.1) (G_R hG.1.2)
    have hp := prod_G hG.1.1 hG.1.2
    have hcb := (isG_false c).1 hG.2
    rw [t0, t1]
    generalize a * b = x at *
    obtain ⟨m0, m1, m2⟩ := minus_eq' x
    have n0 := neg_eq' (x := x) (by omega) (by omega)
    have n1 := neg_eq' (x := -x) (by omega) (by omega)
    obtain ⟨mm0, mm1, mm2⟩ := minus_eq' (-x)
    rw [Int.neg_neg] at mm1 mm2
    by_cases hn : c < 0
    · have ec : IntKind.wrap .u64 (IntKind.wrap .i64 (0 - c)) = -c := by
        rw [IntWalk.i64_in _ (by omega), u64_in' (by omega) (by omega)]; omega
      simp only [hn, decide_true, if_true, m0, m1, m2, n1, mm0, mm1, mm2, ec]
      by_cases hx : -x < 0
      · simp only [hx, decide_true, if_true]
        rw [tailF_v true x (-c) bad k0 (by omega) (by omega) (by omega) (by omega)]
        simp
      · simp only [hx, decide_false, Bool.false_eq_true, if_false]
        rw [tailF_v false (-x) (-c) bad k0 (by omega) (by omega) (by omega) (by omega)]
        simp
    · have ec : IntKind.wrap .u64 c = c := u64_in' (by omega) (by omega)
      simp only [hn, decide_false, Bool.false_eq_true, if_false, m0, m1, m2, n0, ec]
      by_cases hx : x < 0
      · simp only [hx, decide_true, if_true]
        rw [tailF_v true (-x) c bad k0 (by omega) (by omega) (by omega) (by omega)]
        simp
      · simp only [hx, decide_false, Bool.false_eq_true, if_false]
        rw [tailF_v false x c bad k0 (by omega) (by omega) (by omega) (by omega)]
        simp
noncomputable def ratio_h {α : Type} (ds : List D) (Q : SV → Hp → Option α) : Option α :=
  dB ds fun bad ds => dI ds fun a ds => dI ds fun b ds => dI ds fun c ds => dE ds (Q (.int .i64 (V.gv (V.mRatio a b c))) ([.cells [.bool (V.gn (V.mRatio a b c) bad)] 62]))
theorem ratio_h_ok {α : Type} : FnOk E.P 34 (fEnt (α := α) ratio_sp ratio_h) :=
  fEnt_ok E (look_mul_ok) (exec_sound E E_ok (look_mul_ok) (noLps_ok _) 400) fun ds Q r h => by
    unfold ratio_h at h
    obtain ⟨bad, ds, rfl, h1⟩ := dB_inv h
    obtain ⟨a, ds, rfl, h2⟩ := dI_inv h1
    obtain ⟨b, ds, rfl, h3⟩ := dI_inv h2
    obtain ⟨c, ds, rfl, h4⟩ := dI_inv h3
    obtain ⟨rfl, hE⟩ := dE_inv h4
    exact ⟨[SV.ptr (nat_lit 0) (nat_lit 0), SV.int .i64 a, SV.int .i64 b, SV.int .i64 c], [.cells [SV.bool bad] (nat_lit 62)], fun vs => by kernel_rfl, (ratio_eq bad a b c Q).trans ((ratio_v bad a b c _).trans hE)⟩
noncomputable def look_ratio {α : Type} : LookF α := addFn 34 (fEnt ratio_sp ratio_h) look_mul
theorem look_ratio_ok {α : Type} : LookOk E.P (look_ratio (α := α)) := addFn_ok ratio_h_ok (look_mul_ok)
end Go.Proofs.Ytkjellhkamfciaa.Sx
end

section
/- fx: sums of products, norms. -/
namespace Go.Proofs.Ytkjellhkamfciaa.Sx
open Go
set_option linter.unusedVariables false
set_option linter.unusedSimpArgs false
theorem anyG_cons (x : Int) (l : List Int) : V.anyG (x :: l) = (isG x || V.anyG l) := by simp [V.anyG]
theorem dotZ_cons (x y : Int) (a b : List Int) : V.dotZ (x :: a) (y :: b) = x * y + V.dotZ a b := by simp [V.dotZ]
theorem dotZ_bound : ∀ (a b : List Int), V.anyG a = false → V.anyG b = false → -21267647932558653957237540927630737409 * (a.length : Int) ≤ V.dotZ a b ∧ V.dotZ a b ≤ 21267647932558653957237540927630737409 * (a.length : Int)
  | [], b, _, _ => by simp [V.dotZ]
  | x :: a, [], _, _ => by simp [V.dotZ]; omega
  | x :: a, y :: b, ha, hb => by
    rw [anyG_cons, Bool.or_eq_false_iff] at ha hb
    have h1 := prod_G ha.1 hb.1
    have h2 := dotZ_bound a b ha.2 hb.2
    rw [dotZ_cons, List.length_cons]
    push_cast
    omega
theorem dotZ_sq : ∀ (a : List Int), 0 ≤ V.dotZ a a
  | [] => by simp [V.dotZ]
  | x :: a => by
    rw [dotZ_cons]
    have := dotZ_sq a
    have h : 0 ≤ x * x := by
      rcases Int.le_total 0 x with h | h
      · exact Int.mul_nonneg h h
      · have := Int.mul_nonneg (by omega : 0 ≤ -x) (by omega : 0 ≤ -x); rwa [Int.neg_mul_neg] at this
    omega
end Go.Proofs.Ytkjellhkamfciaa.Sx
end

section
/- fx: what its numbers are, plainly. -/
namespace Go.Proofs.Ytkjellhkamfciaa.Sx
open Go
set_option linter.unusedVariables false
set_option linter.unusedSimpArgs false
def Gd (n : Int) : Prop := -4611686018427387903 ≤ n ∧ n ≤ 4611686018427387903
instance (n : Int) : Decidable (Gd n) := inferInstanceAs (Decidable (_ ∧ _))
theorem gd_iff (n : Int) : isG n = false ↔ Gd n := isG_false n
theorem tl_some {n m : Int} : V.tl n = some m ↔ m = n ∧ Gd m := by
  unfold V.tl
  cases h : isG n with
  | true =>
    have : ¬ Gd n := by rw [← gd_iff, h]; simp
    simp; rintro rfl; exact this
  | false =>
    have : Gd n := (gd_iff n).1 h
    simp
    constructor
    · rintro rfl; exact ⟨rfl, this⟩
    · rintro ⟨rfl, _⟩; rfl
theorem guard_some {c : Bool} {o : Option Int} {m : Int} : (if c = true then none else o) = some m ↔ c = false ∧ o = some m := by cases c <;> simp
theorem mAdd_some {a b m : Int} : V.mAdd a b = some m ↔ Gd a ∧ Gd b ∧ Gd m ∧ m = a + b := by
  unfold V.mAdd; rw [guard_some, tl_some, Bool.or_eq_false_iff, gd_iff, gd_iff]; grind
theorem mSub_some {a b m : Int} : V.mSub a b = some m ↔ Gd a ∧ Gd b ∧ Gd m ∧ m = a - b := by
  unfold V.mSub; rw [guard_some, tl_some, Bool.or_eq_false_iff, gd_iff, gd_iff]; grind
theorem mMul_some {a b m : Int} : V.mMul a b = some m ↔ Gd a ∧ Gd b ∧ Gd m ∧ m = a * b / 4294967296 := by
  unfold V.mMul; rw [guard_some, tl_some, Bool.or_eq_false_iff, gd_iff, gd_iff]; grind
theorem mMulR (a b : Int) : V.mMul a b = if isG a || isG b then none else V.tl (a * b / 4294967296) := rfl
theorem qFtl {a c : Int} (ha : -4611686018427387903 ≤ a ∧ a ≤ 4611686018427387903) (hc : 0 < c) : V.qF (a * 4294967296) c = V.tl (a * 4294967296 / c) := by
  unfold V.qF
  have h1 : a * 4294967296 / c * c + a * 4294967296 % c = a * 4294967296 := Int.ediv_mul_add_emod _ c
  have h2 : 0 ≤ a * 4294967296 % c := Int.emod_nonneg _ (by omega)
  have h3 : a * 4294967296 % c < c := Int.emod_lt_of_pos _ hc
  have : (a * 4294967296 / c == -18446744073709551616 && a * 4294967296 % c != 0) = false := by
    by_cases h : a * 4294967296 / c = -18446744073709551616
    · rw [h] at h1
      have : a * 4294967296 % c = 0 := by omega
      simp [this]
    · have : (a * 4294967296 / c == -18446744073709551616) = false := by simpa using h
      simp [this]
  rw [this]
  simp
theorem mDivF (a b : Int) : V.mDiv a b = if b == 0 || isG a || isG b then none else V.tl (Int.fdiv (a * 4294967296) b) := by
  unfold V.mDiv V.mRatio
  have e : isG 4294967296 = false := by decide
  rw [e, Bool.or_false]
  cases hG : (b == 0 || isG a || isG b) with
  | true => simp
  | false =>
    simp only [Bool.false_eq_true, if_false]
    simp only [Bool.or_eq_false_iff] at hG
    have ha := (isG_false a).1 hG.1.2
    have h0 : ¬ b = 0 := by simpa using hG.1.1
    by_cases hb : b < 0
    · simp only [hb, if_true]
      rw [← Int.neg_mul, qFtl (by omega) (by omega), ← Int.neg_fdiv_neg, fdiv_pos _ _ (by omega), Int.neg_mul]
    · simp only [hb, if_false]
      rw [qFtl ha (by omega), fdiv_pos _ _ (by omega)]
theorem mDiv_some {a b m : Int} : V.mDiv a b = some m ↔ b ≠ 0 ∧ Gd a ∧ Gd b ∧ Gd m ∧ m = Int.fdiv (a * 4294967296) b := by
  rw [mDivF, guard_some, tl_some, Bool.or_eq_false_iff, Bool.or_eq_false_iff, gd_iff, gd_iff]
  have : (b == 0) = false ↔ b ≠ 0 := by simp
  rw [this]; grind
theorem mDot2_some {a b c d m : Int} : V.mDot [a, b] [c, d] = some m ↔ Gd a ∧ Gd b ∧ Gd c ∧ Gd d ∧ Gd m ∧ m = (a * c + b * d) / 4294967296 := by
  unfold V.mDot V.anyG V.dotZ
  rw [guard_some, tl_some]
  simp only [List.any_cons, List.any_nil, Bool.or_false, Bool.or_eq_false_iff, gd_iff, List.length_cons, List.length_nil, List.zipWith, List.sum_cons, List.sum_nil, Int.add_zero]
  simp; grind
theorem mDot3_some {a b c x y z m : Int} : V.mDot [a, b, c] [x, y, z] = some m ↔ Gd a ∧ Gd b ∧ Gd c ∧ Gd x ∧ Gd y ∧ Gd z ∧ Gd m ∧ m = (a * x + (b * y + c * z)) / 4294967296 := by
  unfold V.mDot V.anyG V.dotZ
  rw [guard_some, tl_some]
  simp only [List.any_cons, List.any_nil, Bool.or_false, Bool.or_eq_false_iff, gd_iff, List.length_cons, List.length_nil, List.zipWith, List.sum_cons, List.sum_nil, Int.add_zero]
  simp; grind
theorem mDot4_some {a b c d x y z w m : Int} : V.mDot [a, b, c, d] [x, y, z, w] = some m ↔ (Gd a ∧ Gd b ∧ Gd c ∧ Gd d) ∧ (Gd x ∧ Gd y ∧ Gd z ∧ Gd w) ∧ Gd m ∧ m = (a * x + (b * y + (c * z + d * w))) / 4294967296 := by
  unfold V.mDot V.anyG V.dotZ
  rw [guard_some, tl_some]
  simp only [List.any_cons, List.any_nil, Bool.or_false, Bool.or_eq_false_iff, gd_iff, List.length_cons, List.length_nil, List.zipWith, List.sum_cons, List.sum_nil, Int.add_zero]
  simp; grind
theorem mRt_some {x m : Int} : V.mRt x = some m ↔ m = V.isq x ∧ m ≤ 4611686018427387903 := by
  unfold V.mRt
  by_cases h : 4611686018427387903 < V.isq x
  · simp [h]; rintro rfl; omega
  · simp [h]; grind
theorem mNorm3_some {a b c m : Int} : V.mNorm [a, b, c] = some m ↔ Gd a ∧ Gd b ∧ Gd c ∧ m = V.isq (a * a + (b * b + c * c)) ∧ m ≤ 4611686018427387903 := by
  unfold V.mNorm V.anyG V.dotZ
  rw [guard_some, mRt_some]
  simp only [List.any_cons, List.any_nil, Bool.or_false, Bool.or_eq_false_iff, gd_iff, List.length_cons, List.length_nil, List.zipWith, List.sum_cons, List.sum_nil, Int.add_zero]
  simp; grind
theorem mNorm4_some {a b c d m : Int} : V.mNorm [a, b, c, d] = some m ↔ Gd a ∧ Gd b ∧ Gd c ∧ Gd d ∧ m = V.isq (a * a + (b * b + (c * c + d * d))) ∧ m ≤ 4611686018427387903 := by
  unfold V.mNorm V.anyG V.dotZ
  rw [guard_some, mRt_some]
  simp only [List.any_cons, List.any_nil, Bool.or_false, Bool.or_eq_false_iff, gd_iff, List.length_cons, List.length_nil, List.zipWith, List.sum_cons, List.sum_nil, Int.add_zero]
  simp; grind
theorem isqEx (n : Nat) : ∃ r : Int, 0 ≤ r ∧ r * r ≤ (n : Int) ∧ (n : Int) < (r + 1) * (r + 1) := by
  induction n with
  | zero => exact ⟨0, by decide, by decide, by decide⟩
  | succ n ih =>
    obtain ⟨r, h0, h1, h2⟩ := ih
    by_cases h : ((n + 1 : Nat) : Int) < (r + 1) * (r + 1)
    · exact ⟨r, h0, by push_cast; omega, h⟩
    · refine ⟨r + 1, by omega, by omega, ?_⟩
      have e : (r + 1 + 1) * (r + 1 + 1) = (r + 1) * (r + 1) + 2 * r + 3 := by grind
      push_cast at h ⊢
      omega
theorem isqSpec {x : Int} (h : 0 ≤ x) : 0 ≤ V.isq x ∧ V.isq x * V.isq x ≤ x ∧ x < (V.isq x + 1) * (V.isq x + 1) := by
  obtain ⟨n, rfl⟩ := Int.eq_ofNat_of_zero_le h
  obtain ⟨r, hr⟩ := isqEx n
  rw [isq_eq hr]; exact hr
theorem sq_nn (a : Int) : 0 ≤ a * a := by
  rcases Int.le_total 0 a with h | h
  · exact Int.mul_nonneg h h
  · exact Int.mul_nonneg_of_nonpos_of_nonpos h h
/-- what is squared is below a square: it lies between -r and r -/
theorem sq_le {a r : Int} (hr : 0 ≤ r) (h : a * a < (r + 1) * (r + 1)) : -r ≤ a ∧ a ≤ r := by
  constructor
  · by_cases h1 : -r ≤ a
    · exact h1
    · have : (r + 1) * (r + 1) ≤ -a * -a := Int.mul_le_mul (by omega) (by omega) (by omega) (by omega)
      have e : -a * -a = a * a := by grind
      omega
  · by_cases h1 : a ≤ r
    · exact h1
    · have : (r + 1) * (r + 1) ≤ a * a := Int.mul_le_mul (by omega) (by omega) (by omega) (by omega)
      omega
theorem gnF {o : Option Int} {bad : Bool} : V.gn o bad = false ↔ (∃ n, o = some n) ∧ bad = false := by
  unfold V.gn; cases o <;> simp
theorem gv_some (n : Int) : V.gv (some n) = n := rfl
theorem gn_some (n : Int) (b : Bool) : V.gn (some n) b = b := rfl
theorem gn_none (b : Bool) : V.gn none b = true := rfl
end Go.Proofs.Ytkjellhkamfciaa.Sx
end

section
/- shape: directions. -/
namespace Go.Proofs.Ytkjellhkamfciaa.Sx
open Go
set_option maxRecDepth 20000
set_option linter.unusedVariables false
set_option linter.unusedSimpArgs false
abbrev P3 := Int × Int × Int
/-- (Hidden, so that no checker reckons it.) -/
noncomputable def hid {τ : Type} (x : τ) : τ := Classical.choose (⟨x, rfl⟩ : ∃ r : τ, r = x)
theorem hid_eq {τ : Type} (x : τ) : hid x = x := Classical.choose_spec (⟨x, rfl⟩ : ∃ r : τ, r = x)
def _root_.Go.Proofs.Ytkjellhkamfciaa.V.pSub (a b : P3) : P3 := (IntKind.wrap .i64 (a.1 - b.1), IntKind.wrap .i64 (a.2.1 - b.2.1), IntKind.wrap .i64 (a.2.2 - b.2.2))
def _root_.Go.Proofs.Ytkjellhkamfciaa.V.pCross (a b : P3) : P3 := (IntKind.wrap .i64 (IntKind.wrap .i64 (a.2.1 * b.2.2) - IntKind.wrap .i64 (a.2.2 * b.2.1)), IntKind.wrap .i64 (IntKind.wrap .i64 (a.2.2 * b.1) - IntKind.wrap .i64 (a.1 * b.2.2)), IntKind.wrap .i64 (IntKind.wrap .i64 (a.1 * b.2.1) - IntKind.wrap .i64 (a.2.1 * b.1)))
def _root_.Go.Proofs.Ytkjellhkamfciaa.V.pDot (a b : P3) : Int := IntKind.wrap .i64 (IntKind.wrap .i64 (IntKind.wrap .i64 (a.1 * b.1) + IntKind.wrap .i64 (a.2.1 * b.2.1)) + IntKind.wrap .i64 (a.2.2 * b.2.2))
noncomputable def _root_.Go.Proofs.Ytkjellhkamfciaa.M.shminus {α : Type} (ax : Int) (ay : Int) (az : Int) (bx : Int) (b_y : Int) (bz : Int) (k0 : Int → Int → Int → Option α) : Option α :=
  k0 (IntKind.wrap .i64 (ax - bx)) (IntKind.wrap .i64 (ay - b_y)) (IntKind.wrap .i64 (az - bz))
theorem shminus_eq {α : Type} (ax : Int) (ay : Int) (az : Int) (bx : Int) (b_y : Int) (bz : Int) (Q : SV → Hp → Option α) : callI E look_ratio (exec E look_ratio noLps 400) 51 ([SV.agg [SV.int .i64 ax, SV.int .i64 ay, SV.int .i64 az], SV.agg [SV.int .i64 bx, SV.int .i64 b_y, SV.int .i64 bz]]) ([]) Q = M.shminus ax ay az bx b_y bz (fun (x0 : Int) (x1 : Int) (x2 : Int) => Q (SV.agg [SV.int .i64 x0, SV.int .i64 x1, SV.int .i64 x2]) ([])) := by kernel_rfl
def shminus_sp : List AS := [.val (.agg [.int .i64 0, .int .i64 0, .int .i64 0]), .val (.agg [.int .i64 0, .int .i64 0, .int .i64 0])]
noncomputable def shminus_go {α : Type} (ds : List D) (Q : SV → Hp → Option α) : Option α :=
  dI ds fun ax ds => dI ds fun ay ds => dI ds fun az ds => dI ds fun bx ds => dI ds fun b_y ds => dI ds fun bz ds => dE ds (M.shminus ax ay az bx b_y bz (fun (x0 : Int) (x1 : Int) (x2 : Int) => Q (SV.agg [SV.int .i64 x0, SV.int .i64 x1, SV.int .i64 x2]) ([])))
theorem shminus_ok {α : Type} : FnOk E.P 51 (fEnt (α := α) shminus_sp shminus_go) :=
  fEnt_ok E (look_ratio_ok) (exec_sound E E_ok (look_ratio_ok) (noLps_ok _) 400) fun ds Q r h => by
    unfold shminus_go at h
    obtain ⟨ax, ds, rfl, h1⟩ := dI_inv h
    obtain ⟨ay, ds, rfl, h2⟩ := dI_inv h1
    obtain ⟨az, ds, rfl, h3⟩ := dI_inv h2
    obtain ⟨bx, ds, rfl, h4⟩ := dI_inv h3
    obtain ⟨b_y, ds, rfl, h5⟩ := dI_inv h4
    obtain ⟨bz, ds, rfl, h6⟩ := dI_inv h5
    obtain ⟨rfl, hE⟩ := dE_inv h6
    exact ⟨[SV.agg [SV.int .i64 ax, SV.int .i64 ay, SV.int .i64 az], SV.agg [SV.int .i64 bx, SV.int .i64 b_y, SV.int .i64 bz]], [], fun vs => by kernel_rfl, (shminus_eq ax ay az bx b_y bz Q).trans hE⟩
noncomputable def shminus_h {α : Type} (ds : List D) (Q : SV → Hp → Option α) : Option α :=
  dI ds fun ax ds => dI ds fun ay ds => dI ds fun az ds => dI ds fun bx ds => dI ds fun b_y ds => dI ds fun bz ds => dE ds (Q (.agg [.int .i64 (V.pSub (ax, ay, az) (bx, b_y, bz)).1, .int .i64 (V.pSub (ax, ay, az) (bx, b_y, bz)).2.1, .int .i64 (V.pSub (ax, ay, az) (bx, b_y, bz)).2.2]) ([]))
theorem shminus_h_ok {α : Type} : FnOk E.P 51 (fEnt (α := α) shminus_sp shminus_h) :=
  fEnt_ok E (look_ratio_ok) (exec_sound E E_ok (look_ratio_ok) (noLps_ok _) 400) fun ds Q r h => by
    unfold shminus_h at h
    obtain ⟨ax, ds, rfl, h1⟩ := dI_inv h
    obtain ⟨ay, ds, rfl, h2⟩ := dI_inv h1
    obtain ⟨az, ds, rfl, h3⟩ := dI_inv h2
    obtain ⟨bx, ds, rfl, h4⟩ := dI_inv h3
    obtain ⟨b_y, ds, rfl, h5⟩ := dI_inv h4
    obtain ⟨bz, ds, rfl, h6⟩ := dI_inv h5
    obtain ⟨rfl, hE⟩ := dE_inv h6
    exact ⟨[SV.agg [SV.int .i64 ax, SV.int .i64 ay, SV.int .i64 az], SV.agg [SV.int .i64 bx, SV.int .i64 b_y, SV.int .i64 bz]], [], fun vs => by kernel_rfl, (shminus_eq ax ay az bx b_y bz Q).trans ((rfl).trans hE)⟩
noncomputable def look_shminus {α : Type} : LookF α := addFn 51 (fEnt shminus_sp shminus_h) look_ratio
theorem look_shminus_ok {α : Type} : LookOk E.P (look_shminus (α := α)) := addFn_ok shminus_h_ok (look_ratio_ok)
noncomputable def _root_.Go.Proofs.Ytkjellhkamfciaa.M.shcross {α : Type} (ax : Int) (ay : Int) (az : Int) (bx : Int) (b_y : Int) (bz : Int) (k0 : Int → Int → Int → Option α) : Option α :=
  k0 (IntKind.wrap .i64 (IntKind.wrap .i64 (ay * bz) - IntKind.wrap .i64 (az * b_y))) (IntKind.wrap .i64 (IntKind.wrap .i64 (az * bx) - IntKind.wrap .i64 (ax * bz))) (IntKind.wrap .i64 (IntKind.wrap .i64 (ax * b_y) - IntKind.wrap .i64 (ay * bx)))
theorem shcross_eq {α : Type} (ax : Int) (ay : Int) (az : Int) (bx : Int) (b_y : Int) (bz : Int) (Q : SV → Hp → Option α) : callI E look_shminus (exec E look_shminus noLps 400) 52 ([SV.agg [SV.int .i64 ax, SV.int .i64 ay, SV.int .i64 az], SV.agg [SV.int .i64 bx, SV.int .i64 b_y, SV.int .i64 bz]]) ([]) Q = M.shcross ax ay az bx b_y bz (fun (x3 : Int) (x4 : Int) (x5 : Int) => Q (SV.agg [SV.int .i64 x3, SV.int .i64 x4, SV.int .i64 x5]) ([])) := by kernel_rfl
def shcross_sp : List AS := [.val (.agg [.int .i64 0, .int .i64 0, .int .i64 0]), .val (.agg [.int .i64 0, .int .i64 0, .int .i64 0])]
noncomputable def shcross_go {α : Type} (ds : List D) (Q : SV → Hp → Option α) : Option α :=
  dI ds fun ax ds => dI ds fun ay ds => dI ds fun az ds => dI ds fun bx ds => dI ds fun b_y ds => dI ds fun bz ds => dE ds (M.shcross ax ay az bx b_y bz (fun (x3 : Int) (x4 : Int) (x5 : Int) => Q (SV.agg [SV.int .i64 x3, SV.int .i64 x4, SV.int .i64 x5]) ([])))
theorem shcross_ok {α : Type} : FnOk E.P 52 (fEnt (α := α) shcross_sp shcross_go) :=
  fEnt_ok E (look_shminus_ok) (exec_sound E E_ok (look_shminus_ok) (noLps_ok _) 400) fun ds Q r h => by
    unfold shcross_go at h
    obtain ⟨ax, ds, rfl, h1⟩ := dI_inv h
    obtain ⟨ay, ds, rfl, h2⟩ := dI_inv h1
    obtain ⟨az, ds, rfl, h3⟩ := dI_inv h2
    obtain ⟨bx, ds, rfl, h4⟩ := dI_inv h3
    obtain ⟨b_y, ds, rfl, h5⟩ := dI_inv h4
    obtain ⟨bz, ds, rfl, h6⟩ := dI_inv h5
    obtain ⟨rfl, hE⟩ := dE_inv h6
    exact ⟨[SV.agg [SV.int .i64 ax, SV.int .i64 ay, SV.int .i64 az], SV.agg [SV.int .i64 bx, SV.int .i64 b_y, SV.int .i64 bz]], [], fun vs => by kernel_rfl, (shcross_eq ax ay az bx b_y bz Q).trans hE⟩
noncomputable def shcross_h {α : Type} (ds : List D) (Q : SV → Hp → Option α) : Option α :=
  dI ds fun ax ds => dI ds fun ay ds => dI ds fun az ds => dI ds fun bx ds => dI ds fun b_y ds => dI ds fun bz ds => dE ds (Q (.agg [.int .i64 (V.pCross (ax, ay, az) (bx, b_y, bz)).1, .int .i64 (V.pCross (ax, ay, az) (bx, b_y, bz)).2.1, .int .i64 (V.pCross (ax, ay, az) (bx, b_y, bz)).2.2]) ([]))
theorem shcross_h_ok {α : Type} : FnOk E.P 52 (fEnt (α := α) shcross_sp shcross_h) :=
  fEnt_ok E (look_shminus_ok) (exec_sound E E_ok (look_shminus_ok) (noLps_ok _) 400) fun ds Q r h => by
    unfold shcross_h at h
    obtain ⟨ax, ds, rfl, h1⟩ := dI_inv h
    obtain ⟨ay, ds, rfl, h2⟩ := dI_inv h1
    obtain ⟨az, ds, rfl, h3⟩ := dI_inv h2
    obtain ⟨bx, ds, rfl, h4⟩ := dI_inv h3
    obtain ⟨b_y, ds, rfl, h5⟩ := dI_inv h4
    obtain ⟨bz, ds, rfl, h6⟩ := dI_inv h5
    obtain ⟨rfl, hE⟩ := dE_inv h6
    exact ⟨[SV.agg [SV.int .i64 ax, SV.int .i64 ay, SV.int .i64 az], SV.agg [SV.int .i64 bx, SV.int .i64 b_y, SV.int .i64 bz]], [], fun vs => by kernel_rfl, (shcross_eq ax ay az bx b_y bz Q).trans ((rfl).trans hE)⟩
noncomputable def look_shcross {α : Type} : LookF α := addFn 52 (fEnt shcross_sp shcross_h) look_shminus
theorem look_shcross_ok {α : Type} : LookOk E.P (look_shcross (α := α)) := addFn_ok shcross_h_ok (look_shminus_ok)
noncomputable def _root_.Go.Proofs.Ytkjellhkamfciaa.M.shdot {α : Type} (ax : Int) (ay : Int) (az : Int) (bx : Int) (b_y : Int) (bz : Int) (k0 : Int → Option α) : Option α :=
  k0 (IntKind.wrap .i64 (IntKind.wrap .i64 (IntKind.wrap .i64 (ax * bx) + IntKind.wrap .i64 (ay * b_y)) + IntKind.wrap .i64 (az * bz)))
theorem shdot_eq {α : Type} (ax : Int) (ay : Int) (az : Int) (bx : Int) (b_y : Int) (bz : Int) (Q : SV → Hp → Option α) : callI E look_shcross (exec E look_shcross noLps 400) 55 ([SV.agg [SV.int .i64 ax, SV.int .i64 ay, SV.int .i64 az], SV.agg [SV.int .i64 bx, SV.int .i64 b_y, SV.int .i64 bz]]) ([]) Q = M.shdot ax ay az bx b_y bz (fun (x6 : Int) => Q (SV.int .i64 x6) ([])) := by kernel_rfl
def shdot_sp : List AS := [.val (.agg [.int .i64 0, .int .i64 0, .int .i64 0]), .val (.agg [.int .i64 0, .int .i64 0, .int .i64 0])]
noncomputable def shdot_go {α : Type} (ds : List D) (Q : SV → Hp → Option α) : Option α :=
  dI ds fun ax ds => dI ds fun ay ds => dI ds fun az ds => dI ds fun bx ds => dI ds fun b_y ds => dI ds fun bz ds => dE ds (M.shdot ax ay az bx b_y bz (fun (x6 : Int) => Q (SV.int .i64 x6) ([])))
theorem shdot_ok {α : Type} : FnOk E.P 55 (fEnt (α := α) shdot_sp shdot_go) :=
  fEnt_ok E (look_shcross_ok) (exec_sound E E_ok (look_shcross_ok) (noLps_ok _) 400) fun ds Q r h => by
    unfold shdot_go at h
    obtain ⟨ax, ds, rfl, h1⟩ := dI_inv h
    obtain ⟨ay, ds, rfl, h2⟩ := dI_inv h1
    obtain ⟨az, ds, rfl, h3⟩ := dI_inv h2
    obtain ⟨bx, ds, rfl, h4⟩ := dI_inv h3
    obtain ⟨b_y, ds, rfl, h5⟩ := dI_inv h4
    obtain ⟨bz, ds, rfl, h6⟩ := dI_inv h5
    obtain ⟨rfl, hE⟩ := dE_inv h6
    exact ⟨[SV.agg [SV.int .i64 ax, SV.int .i64 ay, SV.int .i64 az], SV.agg [SV.int .i64 bx, SV.int .i64 b_y, SV.int .i64 bz]], [], fun vs => by kernel_rfl, (shdot_eq ax ay az bx b_y bz Q).trans hE⟩
noncomputable def shdot_h {α : Type} (ds : List D) (Q : SV → Hp → Option α) : Option α :=
  dI ds fun ax ds => dI ds fun ay ds => dI ds fun az ds => dI ds fun bx ds => dI ds fun b_y ds => dI ds fun bz ds => dE ds (Q (.int .i64 (V.pDot (ax, ay, az) (bx, b_y, bz))) ([]))
theorem shdot_h_ok {α : Type} : FnOk E.P 55 (fEnt (α := α) shdot_sp shdot_h) :=
  fEnt_ok E (look_shcross_ok) (exec_sound E E_ok (look_shcross_ok) (noLps_ok _) 400) fun ds Q r h => by
    unfold shdot_h at h
    obtain ⟨ax, ds, rfl, h1⟩ := dI_inv h
    obtain ⟨ay, ds, rfl, h2⟩ := dI_inv h1
    obtain ⟨az, ds, rfl, h3⟩ := dI_inv h2
    obtain ⟨bx, ds, rfl, h4⟩ := dI_inv h3
    obtain ⟨b_y, ds, rfl, h5⟩ := dI_inv h4
    obtain ⟨bz, ds, rfl, h6⟩ := dI_inv h5
    obtain ⟨rfl, hE⟩ := dE_inv h6
    exact ⟨[SV.agg [SV.int .i64 ax, SV.int .i64 ay, SV.int .i64 az], SV.agg [SV.int .i64 bx, SV.int .i64 b_y, SV.int .i64 bz]], [], fun vs => by kernel_rfl, (shdot_eq ax ay az bx b_y bz Q).trans ((rfl).trans hE)⟩
noncomputable def look_shdot {α : Type} : LookF α := addFn 55 (fEnt shdot_sp shdot_h) look_shcross
theorem look_shdot_ok {α : Type} : LookOk E.P (look_shdot (α := α)) := addFn_ok shdot_h_ok (look_shcross_ok)
noncomputable def _root_.Go.Proofs.Ytkjellhkamfciaa.M.shbeyond {α : Type} (ax : Int) (ay : Int) (az : Int) (n : Int) (k0 : Bool → Option α) : Option α :=
  if cLt n (if az > if ay > ax then ay else ax then az else if ay > ax then ay else ax) = true then k0 true else k0 (cLt (if az < if ay < ax then ay else ax then az else if ay < ax then ay else ax) (IntKind.wrap .i64 ((0 : Int) - n)))
theorem shbeyond_eq {α : Type} (ax : Int) (ay : Int) (az : Int) (n : Int) (Q : SV → Hp → Option α) : callI E look_shdot (exec E look_shdot noLps 400) 24 ([SV.agg [SV.int .i64 ax, SV.int .i64 ay, SV.int .i64 az], SV.int .i64 n]) ([]) Q = M.shbeyond ax ay az n (fun (x7 : Bool) => Q (SV.bool x7) ([])) := by kernel_rfl
def shbeyond_sp : List AS := [.val (.agg [.int .i64 0, .int .i64 0, .int .i64 0]), .val (.int .i64 0)]
noncomputable def _root_.Go.Proofs.Ytkjellhkamfciaa.V.shbeyond_r0 (ax : Int) (ay : Int) (az : Int) (n : Int) : Bool :=
  if cLt n (if az > if ay > ax then ay else ax then az else if ay > ax then ay else ax) = true then true else cLt (if az < if ay < ax then ay else ax then az else if ay < ax then ay else ax) (IntKind.wrap .i64 ((0 : Int) - n))
theorem shbeyond_val {α : Type} (ax : Int) (ay : Int) (az : Int) (n : Int) (k0 : Bool → Option α) : M.shbeyond ax ay az n k0 = k0 (V.shbeyond_r0 ax ay az n) := by
  unfold M.shbeyond V.shbeyond_r0
  repeat' first | rfl | (split <;> rename_i h <;> first | simp only [if_pos h] | simp only [if_neg h] | skip)
noncomputable def shbeyond_c {α : Type} (ds : List D) (Q : SV → Hp → Option α) : Option α :=
  dI ds fun ax ds => dI ds fun ay ds => dI ds fun az ds => dI ds fun n ds => dE ds (Q (SV.bool (V.shbeyond_r0 ax ay az n)) ([]))
theorem shbeyond_c_ok {α : Type} : FnOk E.P 24 (fEnt (α := α) shbeyond_sp shbeyond_c) :=
  fEnt_ok E (look_shdot_ok) (exec_sound E E_ok (look_shdot_ok) (noLps_ok _) 400) fun ds Q r h => by
    unfold shbeyond_c at h
    obtain ⟨ax, ds, rfl, h1⟩ := dI_inv h
    obtain ⟨ay, ds, rfl, h2⟩ := dI_inv h1
    obtain ⟨az, ds, rfl, h3⟩ := dI_inv h2
    obtain ⟨n, ds, rfl, h4⟩ := dI_inv h3
    obtain ⟨rfl, hE⟩ := dE_inv h4
    exact ⟨[SV.agg [SV.int .i64 ax, SV.int .i64 ay, SV.int .i64 az], SV.int .i64 n], [], fun vs => by kernel_rfl, (shbeyond_eq ax ay az n Q).trans ((shbeyond_val ax ay az n (fun (x7 : Bool) => Q (SV.bool x7) ([]))).trans hE)⟩
noncomputable def shbeyond_go {α : Type} (ds : List D) (Q : SV → Hp → Option α) : Option α :=
  dI ds fun ax ds => dI ds fun ay ds => dI ds fun az ds => dI ds fun n ds => dE ds (M.shbeyond ax ay az n (fun (x7 : Bool) => Q (SV.bool x7) ([])))
theorem shbeyond_ok {α : Type} : FnOk E.P 24 (fEnt (α := α) shbeyond_sp shbeyond_go) :=
  fEnt_ok E (look_shdot_ok) (exec_sound E E_ok (look_shdot_ok) (noLps_ok _) 400) fun ds Q r h => by
    unfold shbeyond_go at h
    obtain ⟨ax, ds, rfl, h1⟩ := dI_inv h
    obtain ⟨ay, ds, rfl, h2⟩ := dI_inv h1
    obtain ⟨az, ds, rfl, h3⟩ := dI_inv h2
    obtain ⟨n, ds, rfl, h4⟩ := dI_inv h3
    obtain ⟨rfl, hE⟩ := dE_inv h4
    exact ⟨[SV.agg [SV.int .i64 ax, SV.int .i64 ay, SV.int .i64 az], SV.int .i64 n], [], fun vs => by kernel_rfl, (shbeyond_eq ax ay az n Q).trans hE⟩
noncomputable def look_shbeyond {α : Type} : LookF α := addFn 24 (fEnt shbeyond_sp shbeyond_c) look_shdot
theorem look_shbeyond_ok {α : Type} : LookOk E.P (look_shbeyond (α := α)) := addFn_ok shbeyond_c_ok (look_shdot_ok)
noncomputable def _root_.Go.Proofs.Ytkjellhkamfciaa.M.shwithin {α : Type} (n : Int) (lo : Int) (hi : Int) (k0 : Bool → Option α) : Option α :=
  if cLe lo n = true then k0 (cLe n hi) else k0 false
theorem shwithin_eq {α : Type} (n : Int) (lo : Int) (hi : Int) (Q : SV → Hp → Option α) : callI E look_shbeyond (exec E look_shbeyond noLps 400) 23 ([SV.int .i64 n, SV.int .i64 lo, SV.int .i64 hi]) ([]) Q = M.shwithin n lo hi (fun (x8 : Bool) => Q (SV.bool x8) ([])) := by kernel_rfl
def shwithin_sp : List AS := [.val (.int .i64 0), .val (.int .i64 0), .val (.int .i64 0)]
noncomputable def _root_.Go.Proofs.Ytkjellhkamfciaa.V.shwithin_r0 (n : Int) (lo : Int) (hi : Int) : Bool :=
  if cLe lo n = true then cLe n hi else false
theorem shwithin_val {α : Type} (n : Int) (lo : Int) (hi : Int) (k0 : Bool → Option α) : M.shwithin n lo hi k0 = k0 (V.shwithin_r0 n lo hi) := by
  unfold M.shwithin V.shwithin_r0
  repeat' first | rfl | (split <;> rename_i h <;> first | simp only [if_pos h] | simp only [if_neg h] | skip)
noncomputable def shwithin_c {α : Type} (ds : List D) (Q : SV → Hp → Option α) : Option α :=
  dI ds fun n ds => dI ds fun lo ds => dI ds fun hi ds => dE ds (Q (SV.bool (V.shwithin_r0 n lo hi)) ([]))
theorem shwithin_c_ok {α : Type} : FnOk E.P 23 (fEnt (α := α) shwithin_sp shwithin_c) :=
  fEnt_ok E (look_shbeyond_ok) (exec_sound E E_ok (look_shbeyond_ok) (noLps_ok _) 400) fun ds Q r h => by
    unfold shwithin_c at h
    obtain ⟨n, ds, rfl, h1⟩ := dI_inv h
    obtain ⟨lo, ds, rfl, h2⟩ := dI_inv h1
    obtain ⟨hi, ds, rfl, h3⟩ := dI_inv h2
    obtain ⟨rfl, hE⟩ := dE_inv h3
    exact ⟨[SV.int .i64 n, SV.int .i64 lo, SV.int .i64 hi], [], fun vs => by kernel_rfl, (shwithin_eq n lo hi Q).trans ((shwithin_val n lo hi (fun (x8 : Bool) => Q (SV.bool x8) ([]))).trans hE)⟩
noncomputable def shwithin_go {α : Type} (ds : List D) (Q : SV → Hp → Option α) : Option α :=
  dI ds fun n ds => dI ds fun lo ds => dI ds fun hi ds => dE ds (M.shwithin n lo hi (fun (x8 : Bool) => Q (SV.bool x8) ([])))
theorem shwithin_ok {α : Type} : FnOk E.P 23 (fEnt (α := α) shwithin_sp shwithin_go) :=
  fEnt_ok E (look_shbeyond_ok) (exec_sound E E_ok (look_shbeyond_ok) (noLps_ok _) 400) fun ds Q r h => by
    unfold shwithin_go at h
    obtain ⟨n, ds, rfl, h1⟩ := dI_inv h
    obtain ⟨lo, ds, rfl, h2⟩ := dI_inv h1
    obtain ⟨hi, ds, rfl, h3⟩ := dI_inv h2
    obtain ⟨rfl, hE⟩ := dE_inv h3
    exact ⟨[SV.int .i64 n, SV.int .i64 lo, SV.int .i64 hi], [], fun vs => by kernel_rfl, (shwithin_eq n lo hi Q).trans hE⟩
noncomputable def look_shwithin {α : Type} : LookF α := addFn 23 (fEnt shwithin_sp shwithin_c) look_shbeyond
theorem look_shwithin_ok {α : Type} : LookOk E.P (look_shwithin (α := α)) := addFn_ok shwithin_c_ok (look_shbeyond_ok)
noncomputable def _root_.Go.Proofs.Ytkjellhkamfciaa.M.shof {α : Type} (d : Int) (ax : Int) (ay : Int) (az : Int) (k0 : Int → Int → Int → Option α) : Option α :=
  if d = (0 : Int) then none else if d = (0 : Int) then none else if d = (0 : Int) then none else k0 (IntKind.wrap .i64 (Int.tdiv ax d)) (IntKind.wrap .i64 (Int.tdiv ay d)) (IntKind.wrap .i64 (Int.tdiv az d))
theorem shof_eq {α : Type} (d : Int) (ax : Int) (ay : Int) (az : Int) (Q : SV → Hp → Option α) : callI E look_shwithin (exec E look_shwithin noLps 400) 46 ([SV.int .i64 d, SV.agg [SV.int .i64 ax, SV.int .i64 ay, SV.int .i64 az]]) ([]) Q = M.shof d ax ay az (fun (x9 : Int) (x10 : Int) (x11 : Int) => Q (SV.agg [SV.int .i64 x9, SV.int .i64 x10, SV.int .i64 x11]) ([])) := by kernel_rfl
def shof_sp : List AS := [.val (.int .i64 0), .val (.agg [.int .i64 0, .int .i64 0, .int .i64 0])]
noncomputable def _root_.Go.Proofs.Ytkjellhkamfciaa.V.shof_g (d : Int) (ax : Int) (ay : Int) (az : Int) : Bool :=
  if d = (0 : Int) then false else if d = (0 : Int) then false else if d = (0 : Int) then false else true
noncomputable def _root_.Go.Proofs.Ytkjellhkamfciaa.V.shof_r0 (d : Int) (ax : Int) (ay : Int) (az : Int) : Int :=
  if d = (0 : Int) then (0 : Int) else if d = (0 : Int) then (0 : Int) else if d = (0 : Int) then (0 : Int) else IntKind.wrap .i64 (Int.tdiv ax d)
noncomputable def _root_.Go.Proofs.Ytkjellhkamfciaa.V.shof_r1 (d : Int) (ax : Int) (ay : Int) (az : Int) : Int :=
  if d = (0 : Int) then (0 : Int) else if d = (0 : Int) then (0 : Int) else if d = (0 : Int) then (0 : Int) else IntKind.wrap .i64 (Int.tdiv ay d)
noncomputable def _root_.Go.Proofs.Ytkjellhkamfciaa.V.shof_r2 (d : Int) (ax : Int) (ay : Int) (az : Int) : Int :=
  if d = (0 : Int) then (0 : Int) else if d = (0 : Int) then (0 : Int) else if d = (0 : Int) then (0 : Int) else IntKind.wrap .i64 (Int.tdiv az d)
theorem shof_val {α : Type} (d : Int) (ax : Int) (ay : Int) (az : Int) (k0 : Int → Int → Int → Option α) : M.shof d ax ay az k0 = if V.shof_g d ax ay az = true then k0 (V.shof_r0 d ax ay az) (V.shof_r1 d ax ay az) (V.shof_r2 d ax ay az) else none := by
  unfold M.shof V.shof_g V.shof_r0 V.shof_r1 V.shof_r2
  repeat' first | rfl | (split <;> rename_i h <;> first | simp only [if_pos h] | simp only [if_neg h] | skip)
noncomputable def shof_c {α : Type} (ds : List D) (Q : SV → Hp → Option α) : Option α :=
  dI ds fun d ds => dI ds fun ax ds => dI ds fun ay ds => dI ds fun az ds => dE ds (if V.shof_g d ax ay az = true then Q (SV.agg [SV.int .i64 (V.shof_r0 d ax ay az), SV.int .i64 (V.shof_r1 d ax ay az), SV.int .i64 (V.shof_r2 d ax ay az)]) ([]) else none)
theorem shof_c_ok {α : Type} : FnOk E.P 46 (fEnt (α := α) shof_sp shof_c) :=
  fEnt_ok E (look_shwithin_ok) (exec_sound E E_ok (look_shwithin_ok) (noLps_ok _) 400) fun ds Q r h => by
    unfold shof_c at h
    obtain ⟨d, ds, rfl, h1⟩ := dI_inv h
    obtain ⟨ax, ds, rfl, h2⟩ := dI_inv h1
    obtain ⟨ay, ds, rfl, h3⟩ := dI_inv h2
    obtain ⟨az, ds, rfl, h4⟩ := dI_inv h3
    obtain ⟨rfl, hE⟩ := dE_inv h4
    exact ⟨[SV.int .i64 d, SV.agg [SV.int .i64 ax, SV.int .i64 ay, SV.int .i64 az]], [], fun vs => by kernel_rfl, (shof_eq d ax ay az Q).trans ((shof_val d ax ay az (fun (x9 : Int) (x10 : Int) (x11 : Int) => Q (SV.agg [SV.int .i64 x9, SV.int .i64 x10, SV.int .i64 x11]) ([]))).trans hE)⟩
noncomputable def shof_go {α : Type} (ds : List D) (Q : SV → Hp → Option α) : Option α :=
  dI ds fun d ds => dI ds fun ax ds => dI ds fun ay ds => dI ds fun az ds => dE ds (M.shof d ax ay az (fun (x9 : Int) (x10 : Int) (x11 : Int) => Q (SV.agg [SV.int .i64 x9, SV.int .i64 x10, SV.int .i64 x11]) ([])))
theorem shof_ok {α : Type} : FnOk E.P 46 (fEnt (α := α) shof_sp shof_go) :=
  fEnt_ok E (look_shwithin_ok) (exec_sound E E_ok (look_shwithin_ok) (noLps_ok _) 400) fun ds Q r h => by
    unfold shof_go at h
    obtain ⟨d, ds, rfl, h1⟩ := dI_inv h
    obtain ⟨ax, ds, rfl, h2⟩ := dI_inv h1
    obtain ⟨ay, ds, rfl, h3⟩ := dI_inv h2
    obtain ⟨az, ds, rfl, h4⟩ := dI_inv h3
    obtain ⟨rfl, hE⟩ := dE_inv h4
    exact ⟨[SV.int .i64 d, SV.agg [SV.int .i64 ax, SV.int .i64 ay, SV.int .i64 az]], [], fun vs => by kernel_rfl, (shof_eq d ax ay az Q).trans hE⟩
noncomputable def look_shof {α : Type} : LookF α := addFn 46 (fEnt shof_sp shof_c) look_shwithin
theorem look_shof_ok {α : Type} : LookOk E.P (look_shof (α := α)) := addFn_ok shof_c_ok (look_shwithin_ok)
noncomputable def _root_.Go.Proofs.Ytkjellhkamfciaa.M.shgcd_l0_step {α : Type} (kn : Int → Int → Option α) (k1 : Int → Option α) (x14 : Int) (x15 : Int) : Option α :=
  if (!cEq x15 (0 : Int)) = true then if x15 = (0 : Int) then none else kn x15 (Int.tmod x14 x15) else k1 x14
noncomputable def _root_.Go.Proofs.Ytkjellhkamfciaa.M.shgcd_l0 {α : Type} (k1 : Int → Option α) : Nat → Int → Int → Option α
  | 0, _, _ => none
  | n + 1, x14, x15 => M.shgcd_l0_step (M.shgcd_l0 k1 n) k1 x14 x15
theorem shgcd_l0_step_eq {α : Type} (x14 : Int) (x15 : Int) (Q : Ex → St → Option α) : (loopStep E (exec E look_shof noLps 400) 76 [false, false, true] 0 (codeAt E.P 76 [false, false, true])) (St.mk (some (SV.int .i64 x14) :: some (SV.int .i64 x15) :: nn 13 ([])) []) Q = M.shgcd_l0_step (fun (x17 : Int) (x18 : Int) => Q .normal (St.mk (some (SV.int .i64 x17) :: some (SV.int .i64 x18) :: nn 13 ([])) [])) (fun (x16 : Int) => Q (.exit 0) (St.mk (some (SV.int .i64 x16) :: nn 14 ([])) [])) x14 x15 := by kernel_rfl
theorem shgcd_l0_iter {α : Type} (Q : Ex → St → Option α) : ∀ (n : Nat) (x14 : Int) (x15 : Int), iter (loopStep E (exec E look_shof noLps 400) 76 [false, false, true] 0 (codeAt E.P 76 [false, false, true])) n (St.mk (some (SV.int .i64 x14) :: some (SV.int .i64 x15) :: nn 13 ([])) []) Q = M.shgcd_l0 (fun (x16 : Int) => Q (.exit 0) (St.mk (some (SV.int .i64 x16) :: nn 14 ([])) [])) n x14 x15
  | 0, _, _ => rfl
  | n + 1, x14, x15 => (shgcd_l0_step_eq x14 x15 (iterK (loopStep E (exec E look_shof noLps 400) 76 [false, false, true] 0 (codeAt E.P 76 [false, false, true])) n Q)).trans (congrArg (fun kn => M.shgcd_l0_step kn (fun (x16 : Int) => Q (.exit 0) (St.mk (some (SV.int .i64 x16) :: nn 14 ([])) [])) x14 x15) (funext fun x14 => funext fun x15 => shgcd_l0_iter Q n x14 x15))
noncomputable def shgcd_l0_go {α : Type} (ds : List D) (Q : Ex → St → Option α) : Option α :=
  dI ds fun x14 ds => dI ds fun x15 ds => dE ds (M.shgcd_l0 (fun (x16 : Int) => Q (.exit 0) (St.mk (some (SV.int .i64 x16) :: nn 14 ([])) [])) (100) x14 x15)
theorem shgcd_l0_ok {α : Type} : LoopOk E.P 76 [false, false, true] 0 (lEnt (α := α) (St.mk (some (SV.int .i64 (0 : Int)) :: some (SV.int .i64 (0 : Int)) :: nn 13 ([])) []) shgcd_l0_go) :=
  lEnt_ok E (exec_sound E E_ok (look_shof_ok) (noLps_ok _) 400) fun ds Q r h S hS => by
    unfold shgcd_l0_go at h
    obtain ⟨x14, ds, rfl, h1⟩ := dI_inv h
    obtain ⟨x15, ds, rfl, h2⟩ := dI_inv h1
    obtain ⟨rfl, hE⟩ := dE_inv h2
    have e : fillS (St.mk (some (SV.int .i64 (0 : Int)) :: some (SV.int .i64 (0 : Int)) :: nn 13 ([])) []) [.i x14, .i x15] = some (St.mk (some (SV.int .i64 x14) :: some (SV.int .i64 x15) :: nn 13 ([])) []) := by kernel_rfl
    rw [e] at hS
    cases hS
    exact ⟨_, (shgcd_l0_iter Q _ x14 x15).trans hE⟩
noncomputable def shgcd_l0_lps {α : Type} : LookL α := addLp 76 [false, false, true] 0 (lEnt (St.mk (some (SV.int .i64 (0 : Int)) :: some (SV.int .i64 (0 : Int)) :: nn 13 ([])) []) shgcd_l0_go) noLps
theorem shgcd_l0_lps_ok {α : Type} : LoopsOk E.P (shgcd_l0_lps (α := α)) := addLp_ok shgcd_l0_ok (noLps_ok _)

noncomputable def _root_.Go.Proofs.Ytkjellhkamfciaa.M.shgcd {α : Type} (a : Int) (b : Int) (k0 : Int → Option α) : Option α :=
  M.shgcd_l0 (fun (x19 : Int) ↦ k0 (if IntKind.wrap .i64 ((0 : Int) - x19) > x19 then IntKind.wrap .i64 ((0 : Int) - x19) else x19)) (100 : Nat) a b
theorem shgcd_eq {α : Type} (a : Int) (b : Int) (Q : SV → Hp → Option α) : callI E look_shof (exec E look_shof shgcd_l0_lps 400) 76 ([SV.int .i64 a, SV.int .i64 b]) ([]) Q = M.shgcd a b (fun (x20 : Int) => Q (SV.int .i64 x20) ([])) := by kernel_rfl
def shgcd_sp : List AS := [.val (.int .i64 0), .val (.int .i64 0)]
noncomputable def shgcd_go {α : Type} (ds : List D) (Q : SV → Hp → Option α) : Option α :=
  dI ds fun a ds => dI ds fun b ds => dE ds (M.shgcd a b (fun (x20 : Int) => Q (SV.int .i64 x20) ([])))
theorem shgcd_ok {α : Type} : FnOk E.P 76 (fEnt (α := α) shgcd_sp shgcd_go) :=
  fEnt_ok E (look_shof_ok) (exec_sound E E_ok (look_shof_ok) (shgcd_l0_lps_ok) 400) fun ds Q r h => by
    unfold shgcd_go at h
    obtain ⟨a, ds, rfl, h1⟩ := dI_inv h
    obtain ⟨b, ds, rfl, h2⟩ := dI_inv h1
    obtain ⟨rfl, hE⟩ := dE_inv h2
    exact ⟨[SV.int .i64 a, SV.int .i64 b], [], fun vs => by kernel_rfl, (shgcd_eq a b Q).trans hE⟩
theorem mod_half {b r : Nat} (h0 : 0 < r) (h1 : r < b) : 2 * (b % r) < b := by
  have h2 := Nat.mod_lt b h0
  have h3 := Nat.div_add_mod b r
  have h4 : 1 ≤ b / r := Nat.div_pos (Nat.le_of_lt h1) h0
  have h5 : r * 1 ≤ r * (b / r) := Nat.mul_le_mul_left r h4
  omega
theorem shgcd_l0_val {α : Type} (k1 : Int → Option α) : ∀ (k f : Nat) (a b : Int), b.natAbs < 2 ^ k → 2 * k + 1 ≤ f → ∃ r : Int, M.shgcd_l0 k1 f a b = k1 r ∧ r.natAbs = Nat.gcd a.natAbs b.natAbs := by
  intro k
  induction k with
  | zero =>
    intro f a b hb hf
    obtain ⟨f, rfl⟩ : ∃ g, f = g + 1 := ⟨f - 1, by omega⟩
    have h0 : b = 0 := by simp at hb; exact hb
    subst h0
    exact ⟨a, by simp [M.shgcd_l0, M.shgcd_l0_step, cEq_eq], by simp⟩
  | succ k ih =>
    intro f a b hb hf
    obtain ⟨f, rfl⟩ : ∃ g, f = g + 2 := ⟨f - 2, by omega⟩
    by_cases h0 : b = 0
    · subst h0
      exact ⟨a, by simp [M.shgcd_l0, M.shgcd_l0_step, cEq_eq], by simp⟩
    · by_cases h1 : Int.tmod a b = 0
      · refine ⟨b, by simp [M.shgcd_l0, M.shgcd_l0_step, cEq_eq, h0, h1], ?_⟩
        have e : a.natAbs % b.natAbs = 0 := by rw [← Int.natAbs_tmod, h1]; rfl
        rw [Nat.gcd_comm, Nat.gcd_rec, e, Nat.gcd_zero_left]
      · have hr1 : (Int.tmod a b).natAbs = a.natAbs % b.natAbs := Int.natAbs_tmod ..
        have hr2 : (Int.tmod b (Int.tmod a b)).natAbs = b.natAbs % (a.natAbs % b.natAbs) := by rw [Int.natAbs_tmod, hr1]
        have hb0 : 0 < b.natAbs := Int.natAbs_pos.2 h0
        have hlt := Nat.mod_lt a.natAbs hb0
        have hp : 0 < a.natAbs % b.natAbs := by rw [← hr1]; exact Int.natAbs_pos.2 h1
        have hh := mod_half hp hlt
        obtain ⟨r, e1, e2⟩ := ih f (Int.tmod a b) (Int.tmod b (Int.tmod a b)) (by rw [hr2]; rw [Nat.pow_succ] at hb; omega) (by omega)
        refine ⟨r, ?_, ?_⟩
        · rw [← e1]
          simp [M.shgcd_l0, M.shgcd_l0_step, cEq_eq, h0, h1]
        · rw [e2, hr1, hr2, Nat.gcd_comm, ← Nat.gcd_rec, ← Nat.gcd_rec, Nat.gcd_comm]
/-- (By choice, so that no checker reckons it.) -/
noncomputable def _root_.Go.Proofs.Ytkjellhkamfciaa.V.gcdI (a b : Int) : Int := Classical.choose (⟨((Nat.gcd a.natAbs b.natAbs : Nat) : Int), rfl⟩ : ∃ r : Int, r = ((Nat.gcd a.natAbs b.natAbs : Nat) : Int))
theorem gcdI_eq (a b : Int) : V.gcdI a b = ((Nat.gcd a.natAbs b.natAbs : Nat) : Int) := Classical.choose_spec (⟨((Nat.gcd a.natAbs b.natAbs : Nat) : Int), rfl⟩ : ∃ r : Int, r = ((Nat.gcd a.natAbs b.natAbs : Nat) : Int))
theorem shgcd_v {α : Type} (a b : Int) (hg : (-9223372036854775808 < a ∧ a < 9223372036854775808) ∧ -562949953421312 < b ∧ b < 562949953421312) (k0 : Int → Option α) : M.shgcd a b k0 = k0 (V.gcdI a b) := by
  unfold M.shgcd
  obtain ⟨r, e1, e2⟩ := shgcd_l0_val (fun (x19 : Int) => k0 (if IntKind.wrap IntKind.i64 ((0 : Int) - x19) > x19 then IntKind.wrap IntKind.i64 ((0 : Int) - x19) else x19)) 49 100 a b (by omega) (by omega)
  rw [e1]
  have hr : r.natAbs < 9223372036854775808 := by
    rw [e2]
    by_cases h0 : b = 0
    · subst h0; simp; omega
    · have := Nat.gcd_le_right a.natAbs (Int.natAbs_pos.2 h0); omega
  rw [IntWalk.i64_in (0 - r) (by omega)]
  rw [gcdI_eq, ← e2]
  congr 1
  split <;> omega
noncomputable def shgcd_h {α : Type} (ds : List D) (Q : SV → Hp → Option α) : Option α :=
  dI ds fun a ds => dI ds fun b ds => dE ds (if (-9223372036854775808 < a ∧ a < 9223372036854775808) ∧ -562949953421312 < b ∧ b < 562949953421312 then Q (.int .i64 (V.gcdI a b)) ([]) else none)
theorem shgcd_h_ok {α : Type} : FnOk E.P 76 (fEnt (α := α) shgcd_sp shgcd_h) :=
  fEnt_ok E (look_shof_ok) (exec_sound E E_ok (look_shof_ok) (shgcd_l0_lps_ok) 400) fun ds Q r h => by
    unfold shgcd_h at h
    obtain ⟨a, ds, rfl, h1⟩ := dI_inv h
    obtain ⟨b, ds, rfl, h2⟩ := dI_inv h1
    obtain ⟨rfl, hE⟩ := dE_inv h2
    split at hE
    · rename_i hg
      exact ⟨[SV.int .i64 a, SV.int .i64 b], [], fun vs => by kernel_rfl, (shgcd_eq a b Q).trans ((shgcd_v a b hg _).trans hE)⟩
    · cases hE
noncomputable def look_shgcd {α : Type} : LookF α := addFn 76 (fEnt shgcd_sp shgcd_h) look_shof
theorem look_shgcd_ok {α : Type} : LookOk E.P (look_shgcd (α := α)) := addFn_ok shgcd_h_ok (look_shof_ok)
end Go.Proofs.Ytkjellhkamfciaa.Sx
end

section
/- shape: short directions. -/
namespace Go.Proofs.Ytkjellhkamfciaa.Sx
open Go
set_option maxRecDepth 20000
set_option linter.unusedVariables false
set_option linter.unusedSimpArgs false
noncomputable def _root_.Go.Proofs.Ytkjellhkamfciaa.M.shbare {α : Type} (ax : Int) (ay : Int) (az : Int) (k0 : Int → Int → Int → Option α) : Option α :=
  if ((-9223372036854775808 : Int) < ax ∧ ax < (9223372036854775808 : Int)) ∧ (-562949953421312 : Int) < ay ∧ ay < (562949953421312 : Int) then
  if ((-9223372036854775808 : Int) < V.gcdI ax ay ∧ V.gcdI ax ay < (9223372036854775808 : Int)) ∧ (-562949953421312 : Int) < az ∧ az < (562949953421312 : Int) then if V.shof_g (V.gcdI (V.gcdI ax ay) az) ax ay az = true then k0 (V.shof_r0 (V.gcdI (V.gcdI ax ay) az) ax ay az) (V.shof_r1 (V.gcdI (V.gcdI ax ay) az) ax ay az) (V.shof_r2 (V.gcdI (V.gcdI ax ay) az) ax ay az) else none else none
else none
theorem shbare_eq {α : Type} (ax : Int) (ay : Int) (az : Int) (Q : SV → Hp → Option α) : callI E look_shgcd (exec E look_shgcd noLps 400) 45 ([SV.agg [SV.int .i64 ax, SV.int .i64 ay, SV.int .i64 az]]) ([]) Q = M.shbare ax ay az (fun (x0 : Int) (x1 : Int) (x2 : Int) => Q (SV.agg [SV.int .i64 x0, SV.int .i64 x1, SV.int .i64 x2]) ([])) := by kernel_rfl
def shbare_sp : List AS := [.val (.agg [.int .i64 0, .int .i64 0, .int .i64 0])]
noncomputable def _root_.Go.Proofs.Ytkjellhkamfciaa.V.shbare_g (ax : Int) (ay : Int) (az : Int) : Bool :=
  if ((-9223372036854775808 : Int) < ax ∧ ax < (9223372036854775808 : Int)) ∧ (-562949953421312 : Int) < ay ∧ ay < (562949953421312 : Int) then if ((-9223372036854775808 : Int) < V.gcdI ax ay ∧ V.gcdI ax ay < (9223372036854775808 : Int)) ∧ (-562949953421312 : Int) < az ∧ az < (562949953421312 : Int) then if V.shof_g (V.gcdI (V.gcdI ax ay) az) ax ay az = true then true else false else false else false
noncomputable def _root_.Go.Proofs.Ytkjellhkamfciaa.V.shbare_r0 (ax : Int) (ay : Int) (az : Int) : Int :=
  if ((-9223372036854775808 : Int) < ax ∧ ax < (9223372036854775808 : Int)) ∧ (-562949953421312 : Int) < ay ∧ ay < (562949953421312 : Int) then if ((-9223372036854775808 : Int) < V.gcdI ax ay ∧ V.gcdI ax ay < (9223372036854775808 : Int)) ∧ (-562949953421312 : Int) < az ∧ az < (562949953421312 : Int) then if V.shof_g (V.gcdI (V.gcdI ax ay) az) ax ay az = true then V.shof_r0 (V.gcdI (V.gcdI ax ay) az) ax ay az else (0 : Int) else (0 : Int) else (0 : Int)
noncomputable def _root_.Go.Proofs.Ytkjellhkamfciaa.V.shbare_r1 (ax : Int) (ay : Int) (az : Int) : Int :=
  if ((-9223372036854775808 : Int) < ax ∧ ax < (9223372036854775808 : Int)) ∧ (-562949953421312 : Int) < ay ∧ ay < (562949953421312 : Int) then if ((-9223372036854775808 : Int) < V.gcdI ax ay ∧ V.gcdI ax ay < (9223372036854775808 : Int)) ∧ (-562949953421312 : Int) < az ∧ az < (562949953421312 : Int) then if V.shof_g (V.gcdI (V.gcdI ax ay) az) ax ay az = true then V.shof_r1 (V.gcdI (V.gcdI ax ay) az) ax ay az else (0 : Int) else (0 : Int) else (0 : Int)
noncomputable def _root_.Go.Proofs.Ytkjellhkamfciaa.V.shbare_r2 (ax : Int) (ay : Int) (az : Int) : Int :=
  if ((-9223372036854775808 : Int) < ax ∧ ax < (9223372036854775808 : Int)) ∧ (-562949953421312 : Int) < ay ∧ ay < (562949953421312 : Int) then if ((-9223372036854775808 : Int) < V.gcdI ax ay ∧ V.gcdI ax ay < (9223372036854775808 : Int)) ∧ (-562949953421312 : Int) < az ∧ az < (562949953421312 : Int) then if V.shof_g (V.gcdI (V.gcdI ax ay) az) ax ay az = true then V.shof_r2 (V.gcdI (V.gcdI ax ay) az) ax ay az else (0 : Int) else (0 : Int) else (0 : Int)
theorem shbare_val {α : Type} (ax : Int) (ay : Int) (az : Int) (k0 : Int → Int → Int → Option α) : M.shbare ax ay az k0 = if V.shbare_g ax ay az = true then k0 (V.shbare_r0 ax ay az) (V.shbare_r1 ax ay az) (V.shbare_r2 ax ay az) else none := by
  unfold M.shbare V.shbare_g V.shbare_r0 V.shbare_r1 V.shbare_r2
  repeat' first | rfl | (split <;> rename_i h <;> first | simp only [if_pos h] | simp only [if_neg h] | skip)
noncomputable def shbare_c {α : Type} (ds : List D) (Q : SV → Hp → Option α) : Option α :=
  dI ds fun ax ds => dI ds fun ay ds => dI ds fun az ds => dE ds (if V.shbare_g ax ay az = true then Q (SV.agg [SV.int .i64 (V.shbare_r0 ax ay az), SV.int .i64 (V.shbare_r1 ax ay az), SV.int .i64 (V.shbare_r2 ax ay az)]) ([]) else none)
theorem shbare_c_ok {α : Type} : FnOk E.P 45 (fEnt (α := α) shbare_sp shbare_c) :=
  fEnt_ok E (look_shgcd_ok) (exec_sound E E_ok (look_shgcd_ok) (noLps_ok _) 400) fun ds Q r h => by
    unfold shbare_c at h
    obtain ⟨ax, ds, rfl, h1⟩ := dI_inv h
    obtain ⟨ay, ds, rfl, h2⟩ := dI_inv h1
    obtain ⟨az, ds, rfl, h3⟩ := dI_inv h2
    obtain ⟨rfl, hE⟩ := dE_inv h3
    exact ⟨[SV.agg [SV.int .i64 ax, SV.int .i64 ay, SV.int .i64 az]], [], fun vs => by kernel_rfl, (shbare_eq ax ay az Q).trans ((shbare_val ax ay az (fun (x0 : Int) (x1 : Int) (x2 : Int) => Q (SV.agg [SV.int .i64 x0, SV.int .i64 x1, SV.int .i64 x2]) ([]))).trans hE)⟩
noncomputable def shbare_go {α : Type} (ds : List D) (Q : SV → Hp → Option α) : Option α :=
  dI ds fun ax ds => dI ds fun ay ds => dI ds fun az ds => dE ds (M.shbare ax ay az (fun (x0 : Int) (x1 : Int) (x2 : Int) => Q (SV.agg [SV.int .i64 x0, SV.int .i64 x1, SV.int .i64 x2]) ([])))
theorem shbare_ok {α : Type} : FnOk E.P 45 (fEnt (α := α) shbare_sp shbare_go) :=
  fEnt_ok E (look_shgcd_ok) (exec_sound E E_ok (look_shgcd_ok) (noLps_ok _) 400) fun ds Q r h => by
    unfold shbare_go at h
    obtain ⟨ax, ds, rfl, h1⟩ := dI_inv h
    obtain ⟨ay, ds, rfl, h2⟩ := dI_inv h1
    obtain ⟨az, ds, rfl, h3⟩ := dI_inv h2
    obtain ⟨rfl, hE⟩ := dE_inv h3
    exact ⟨[SV.agg [SV.int .i64 ax, SV.int .i64 ay, SV.int .i64 az]], [], fun vs => by kernel_rfl, (shbare_eq ax ay az Q).trans hE⟩
noncomputable def look_shbare {α : Type} : LookF α := addFn 45 (fEnt shbare_sp shbare_c) look_shgcd
theorem look_shbare_ok {α : Type} : LookOk E.P (look_shbare (α := α)) := addFn_ok shbare_c_ok (look_shgcd_ok)
noncomputable def _root_.Go.Proofs.Ytkjellhkamfciaa.M.short_l0_step {α : Type} (kn : Int → Int → Int → Option α) (k1 : Int → Int → Int → Option α) (x9 : Int) (x10 : Int) (x11 : Int) : Option α :=
  if V.shbeyond_r0 x9 x10 x11 (1048576 : Int) = true then if V.shof_g (2 : Int) x9 x10 x11 = true then kn (V.shof_r0 (2 : Int) x9 x10 x11) (V.shof_r1 (2 : Int) x9 x10 x11) (V.shof_r2 (2 : Int) x9 x10 x11) else none else k1 x9 x10 x11
noncomputable def _root_.Go.Proofs.Ytkjellhkamfciaa.M.short_l0 {α : Type} (k1 : Int → Int → Int → Option α) : Nat → Int → Int → Int → Option α
  | 0, _, _, _ => none
  | n + 1, x9, x10, x11 => M.short_l0_step (M.short_l0 k1 n) k1 x9 x10 x11
theorem short_l0_step_eq {α : Type} (x9 : Int) (x10 : Int) (x11 : Int) (x12 : Int) (x13 : Int) (x14 : Int) (Q : Ex → St → Option α) : (loopStep E (exec E look_shbare noLps 400) 21 [false, false, true, true, true] 0 (codeAt E.P 21 [false, false, true, true, true])) (St.mk (none :: some (SV.ptr (nat_lit 0) (nat_lit 0)) :: some (SV.ptr (nat_lit 1) (nat_lit 0)) :: nn 16 ([])) [.cells [SV.int .i64 x9, SV.int .i64 x10, SV.int .i64 x11] (nat_lit 23), .cells [SV.int .i64 x12, SV.int .i64 x13, SV.int .i64 x14] (nat_lit 23)]) Q = M.short_l0_step (fun (x18 : Int) (x19 : Int) (x20 : Int) => Q .normal (St.mk (none :: some (SV.ptr (nat_lit 0) (nat_lit 0)) :: some (SV.ptr (nat_lit 1) (nat_lit 0)) :: nn 16 ([])) [.cells [SV.int .i64 x18, SV.int .i64 x19, SV.int .i64 x20] (nat_lit 23), .cells [SV.int .i64 x12, SV.int .i64 x13, SV.int .i64 x14] (nat_lit 23)])) (fun (x15 : Int) (x16 : Int) (x17 : Int) => Q (.exit 0) (St.mk (none :: some (SV.ptr (nat_lit 0) (nat_lit 0)) :: some (SV.ptr (nat_lit 1) (nat_lit 0)) :: nn 16 ([])) [.cells [SV.int .i64 x15, SV.int .i64 x16, SV.int .i64 x17] (nat_lit 23), .cells [SV.int .i64 x12, SV.int .i64 x13, SV.int .i64 x14] (nat_lit 23)])) x9 x10 x11 := by kernel_rfl
theorem short_l0_iter {α : Type} (x12 : Int) (x13 : Int) (x14 : Int) (Q : Ex → St → Option α) : ∀ (n : Nat) (x9 : Int) (x10 : Int) (x11 : Int), iter (loopStep E (exec E look_shbare noLps 400) 21 [false, false, true, true, true] 0 (codeAt E.P 21 [false, false, true, true, true])) n (St.mk (none :: some (SV.ptr (nat_lit 0) (nat_lit 0)) :: some (SV.ptr (nat_lit 1) (nat_lit 0)) :: nn 16 ([])) [.cells [SV.int .i64 x9, SV.int .i64 x10, SV.int .i64 x11] (nat_lit 23), .cells [SV.int .i64 x12, SV.int .i64 x13, SV.int .i64 x14] (nat_lit 23)]) Q = M.short_l0 (fun (x15 : Int) (x16 : Int) (x17 : Int) => Q (.exit 0) (St.mk (none :: some (SV.ptr (nat_lit 0) (nat_lit 0)) :: some (SV.ptr (nat_lit 1) (nat_lit 0)) :: nn 16 ([])) [.cells [SV.int .i64 x15, SV.int .i64 x16, SV.int .i64 x17] (nat_lit 23), .cells [SV.int .i64 x12, SV.int .i64 x13, SV.int .i64 x14] (nat_lit 23)])) n x9 x10 x11
  | 0, _, _, _ => rfl
  | n + 1, x9, x10, x11 => (short_l0_step_eq x9 x10 x11 x12 x13 x14 (iterK (loopStep E (exec E look_shbare noLps 400) 21 [false, false, true, true, true] 0 (codeAt E.P 21 [false, false, true, true, true])) n Q)).trans (congrArg (fun kn => M.short_l0_step kn (fun (x15 : Int) (x16 : Int) (x17 : Int) => Q (.exit 0) (St.mk (none :: some (SV.ptr (nat_lit 0) (nat_lit 0)) :: some (SV.ptr (nat_lit 1) (nat_lit 0)) :: nn 16 ([])) [.cells [SV.int .i64 x15, SV.int .i64 x16, SV.int .i64 x17] (nat_lit 23), .cells [SV.int .i64 x12, SV.int .i64 x13, SV.int .i64 x14] (nat_lit 23)])) x9 x10 x11) (funext fun x9 => funext fun x10 => funext fun x11 => short_l0_iter x12 x13 x14 Q n x9 x10 x11))
noncomputable def short_l0_go {α : Type} (ds : List D) (Q : Ex → St → Option α) : Option α :=
  dI ds fun x9 ds => dI ds fun x10 ds => dI ds fun x11 ds => dI ds fun x12 ds => dI ds fun x13 ds => dI ds fun x14 ds => dE ds (M.short_l0 (fun (x15 : Int) (x16 : Int) (x17 : Int) => Q (.exit 0) (St.mk (none :: some (SV.ptr (nat_lit 0) (nat_lit 0)) :: some (SV.ptr (nat_lit 1) (nat_lit 0)) :: nn 16 ([])) [.cells [SV.int .i64 x15, SV.int .i64 x16, SV.int .i64 x17] (nat_lit 23), .cells [SV.int .i64 x12, SV.int .i64 x13, SV.int .i64 x14] (nat_lit 23)])) (100) x9 x10 x11)
theorem short_l0_ok {α : Type} : LoopOk E.P 21 [false, false, true, true, true] 0 (lEnt (α := α) (St.mk (none :: some (SV.ptr (nat_lit 0) (nat_lit 0)) :: some (SV.ptr (nat_lit 1) (nat_lit 0)) :: nn 16 ([])) [.cells [SV.int .i64 (0 : Int), SV.int .i64 (0 : Int), SV.int .i64 (0 : Int)] (nat_lit 23), .cells [SV.int .i64 (0 : Int), SV.int .i64 (0 : Int), SV.int .i64 (0 : Int)] (nat_lit 23)]) short_l0_go) :=
  lEnt_ok E (exec_sound E E_ok (look_shbare_ok) (noLps_ok _) 400) fun ds Q r h S hS => by
    unfold short_l0_go at h
    obtain ⟨x9, ds, rfl, h1⟩ := dI_inv h
    obtain ⟨x10, ds, rfl, h2⟩ := dI_inv h1
    obtain ⟨x11, ds, rfl, h3⟩ := dI_inv h2
    obtain ⟨x12, ds, rfl, h4⟩ := dI_inv h3
    obtain ⟨x13, ds, rfl, h5⟩ := dI_inv h4
    obtain ⟨x14, ds, rfl, h6⟩ := dI_inv h5
    obtain ⟨rfl, hE⟩ := dE_inv h6
    have e : fillS (St.mk (none :: some (SV.ptr (nat_lit 0) (nat_lit 0)) :: some (SV.ptr (nat_lit 1) (nat_lit 0)) :: nn 16 ([])) [.cells [SV.int .i64 (0 : Int), SV.int .i64 (0 : Int), SV.int .i64 (0 : Int)] (nat_lit 23), .cells [SV.int .i64 (0 : Int), SV.int .i64 (0 : Int), SV.int .i64 (0 : Int)] (nat_lit 23)]) [.i x9, .i x10, .i x11, .i x12, .i x13, .i x14] = some (St.mk (none :: some (SV.ptr (nat_lit 0) (nat_lit 0)) :: some (SV.ptr (nat_lit 1) (nat_lit 0)) :: nn 16 ([])) [.cells [SV.int .i64 x9, SV.int .i64 x10, SV.int .i64 x11] (nat_lit 23), .cells [SV.int .i64 x12, SV.int .i64 x13, SV.int .i64 x14] (nat_lit 23)]) := by kernel_rfl
    rw [e] at hS
    cases hS
    exact ⟨_, (short_l0_iter x12 x13 x14 Q _ x9 x10 x11).trans hE⟩
noncomputable def short_l0_lps {α : Type} : LookL α := addLp 21 [false, false, true, true, true] 0 (lEnt (St.mk (none :: some (SV.ptr (nat_lit 0) (nat_lit 0)) :: some (SV.ptr (nat_lit 1) (nat_lit 0)) :: nn 16 ([])) [.cells [SV.int .i64 (0 : Int), SV.int .i64 (0 : Int), SV.int .i64 (0 : Int)] (nat_lit 23), .cells [SV.int .i64 (0 : Int), SV.int .i64 (0 : Int), SV.int .i64 (0 : Int)] (nat_lit 23)]) short_l0_go) noLps
theorem short_l0_lps_ok {α : Type} : LoopsOk E.P (short_l0_lps (α := α)) := addLp_ok short_l0_ok (noLps_ok _)

noncomputable def _root_.Go.Proofs.Ytkjellhkamfciaa.M.short {α : Type} (ax : Int) (ay : Int) (az : Int) (k0 : Int → Int → Int → Option α) : Option α :=
  if V.shbeyond_r0 ax ay az (4398046511104 : Int) = true then k0 (0 : Int) (0 : Int) (0 : Int)
else if (cEq ax (0 : Int) && (cEq ay (0 : Int) && (cEq az (0 : Int) && true))) = true then k0 (0 : Int) (0 : Int) (0 : Int) else if V.shbare_g ax ay az = true then M.short_l0 (fun (x21 x22 x23 : Int) ↦ if V.shbare_g x21 x22 x23 = true then k0 (V.shbare_r0 x21 x22 x23) (V.shbare_r1 x21 x22 x23) (V.shbare_r2 x21 x22 x23) else none) (100 : Nat) (V.shbare_r0 ax ay az) (V.shbare_r1 ax ay az) (V.shbare_r2 ax ay az) else none
theorem short_eq {α : Type} (ax : Int) (ay : Int) (az : Int) (Q : SV → Hp → Option α) : callI E look_shbare (exec E look_shbare short_l0_lps 400) 21 ([SV.agg [SV.int .i64 ax, SV.int .i64 ay, SV.int .i64 az]]) ([]) Q = M.short ax ay az (fun (x24 : Int) (x25 : Int) (x26 : Int) => Q (SV.agg [SV.int .i64 x24, SV.int .i64 x25, SV.int .i64 x26]) ([])) := by kernel_rfl
def short_sp : List AS := [.val (.agg [.int .i64 0, .int .i64 0, .int .i64 0])]
noncomputable def short_go {α : Type} (ds : List D) (Q : SV → Hp → Option α) : Option α :=
  dI ds fun ax ds => dI ds fun ay ds => dI ds fun az ds => dE ds (M.short ax ay az (fun (x24 : Int) (x25 : Int) (x26 : Int) => Q (SV.agg [SV.int .i64 x24, SV.int .i64 x25, SV.int .i64 x26]) ([])))
theorem short_ok {α : Type} : FnOk E.P 21 (fEnt (α := α) short_sp short_go) :=
  fEnt_ok E (look_shbare_ok) (exec_sound E E_ok (look_shbare_ok) (short_l0_lps_ok) 400) fun ds Q r h => by
    unfold short_go at h
    obtain ⟨ax, ds, rfl, h1⟩ := dI_inv h
    obtain ⟨ay, ds, rfl, h2⟩ := dI_inv h1
    obtain ⟨az, ds, rfl, h3⟩ := dI_inv h2
    obtain ⟨rfl, hE⟩ := dE_inv h3
    exact ⟨[SV.agg [SV.int .i64 ax, SV.int .i64 ay, SV.int .i64 az]], [], fun vs => by kernel_rfl, (short_eq ax ay az Q).trans hE⟩
/-! Plain words. -/
def gcd3 (p : P3) : Nat := Nat.gcd (Nat.gcd p.1.natAbs p.2.1.natAbs) p.2.2.natAbs
def divP (p : P3) (n : Int) : P3 := (p.1.tdiv n, p.2.1.tdiv n, p.2.2.tdiv n)
def bareP (p : P3) : P3 := divP p (gcd3 p)
/-- Is a part's size above n? -/
def bigP (p : P3) (n : Int) : Bool := decide (n < p.1) || decide (p.1 < -n) || decide (n < p.2.1) || decide (p.2.1 < -n) || decide (n < p.2.2) || decide (p.2.2 < -n)
def shrinkP : Nat → P3 → P3
  | 0, p => p
  | n + 1, p => if bigP p 1048576 then shrinkP n (divP p 2) else p
def shortP (p : P3) : P3 := if bigP p 4398046511104 then (0, 0, 0) else bareP (shrinkP 64 (bareP p))
noncomputable def _root_.Go.Proofs.Ytkjellhkamfciaa.V.pShort (p : P3) : P3 := hid (shortP p)
theorem max_spec (x y : Int) : ∃ m, (if y > x then y else x) = m ∧ x ≤ m ∧ y ≤ m ∧ (m = x ∨ m = y) := by
  refine ⟨_, rfl, ?_⟩
  split <;> omega
theorem min_spec (x y : Int) : ∃ m, (if y < x then y else x) = m ∧ m ≤ x ∧ m ≤ y ∧ (m = x ∨ m = y) := by
  refine ⟨_, rfl, ?_⟩
  split <;> omega
theorem beyond_eq (p : P3) (n : Int) (hn : 0 ≤ n ∧ n < 9223372036854775808) : V.shbeyond_r0 p.1 p.2.1 p.2.2 n = bigP p n := by
  obtain ⟨x, y, z⟩ := p
  unfold V.shbeyond_r0 bigP
  rw [IntWalk.i64_in (0 - n) (by omega)]
  simp only [cLt_eq]
  obtain ⟨a, e1, h1⟩ := max_spec x y
  obtain ⟨b, e2, h2⟩ := min_spec x y
  rw [e1, e2]
  obtain ⟨c, e3, h3⟩ := max_spec a z
  obtain ⟨d, e4, h4⟩ := min_spec b z
  rw [e3, e4, Bool.eq_iff_iff]
  by_cases hc : n < c
  · simp only [hc, decide_true, if_true, true_iff, Bool.or_eq_true, decide_eq_true_eq]; omega
  · simp only [hc, decide_false, Bool.false_eq_true, if_false, Bool.or_eq_true, decide_eq_true_eq]; omega
theorem bigP_false {p : P3} {n : Int} (h : bigP p n = false) : (-n ≤ p.1 ∧ p.1 ≤ n) ∧ (-n ≤ p.2.1 ∧ p.2.1 ≤ n) ∧ (-n ≤ p.2.2 ∧ p.2.2 ≤ n) := by
  simp [bigP] at h; omega
theorem bigP_eq_false {p : P3} {n : Int} (h : (-n ≤ p.1 ∧ p.1 ≤ n) ∧ (-n ≤ p.2.1 ∧ p.2.1 ≤ n) ∧ (-n ≤ p.2.2 ∧ p.2.2 ≤ n)) : bigP p n = false := by
  simp [bigP]; omega
theorem tdiv_size (x n : Int) : (x.tdiv n).natAbs ≤ x.natAbs := by
  rw [Int.natAbs_tdiv]; exact Nat.div_le_self _ _
theorem bigP_div {p : P3} {m : Int} (n : Int) (h : bigP p m = false) : bigP (divP p n) m = false := by
  have h := bigP_false h
  have h1 := tdiv_size p.1 n
  have h2 := tdiv_size p.2.1 n
  have h3 := tdiv_size p.2.2 n
  apply bigP_eq_false
  simp only [divP]
  omega
theorem of_val (p : P3) (d : Int) (hd : d ≠ 0) (hp : bigP p 4398046511104 = false) : V.shof_g d p.1 p.2.1 p.2.2 = true ∧ (V.shof_r0 d p.1 p.2.1 p.2.2, V.shof_r1 d p.1 p.2.1 p.2.2, V.shof_r2 d p.1 p.2.1 p.2.2) = divP p d := by
  have h := bigP_false (bigP_div d hp)
  unfold V.shof_g V.shof_r0 V.shof_r1 V.shof_r2
  simp only [if_neg hd, true_and]
  simp only [divP] at h ⊢
  rw [IntWalk.i64_in _ (by omega), IntWalk.i64_in _ (by omega), IntWalk.i64_in _ (by omega)]
theorem gcd3_pos {p : P3} (h : p ≠ (0, 0, 0)) : 0 < gcd3 p := by
  obtain ⟨x, y, z⟩ := p
  unfold gcd3
  simp only
  apply Nat.pos_of_ne_zero
  intro h0
  rw [Nat.gcd_eq_zero_iff, Nat.gcd_eq_zero_iff] at h0
  apply h
  simp only [Int.natAbs_eq_zero] at h0
  rw [h0.1.1, h0.1.2, h0.2]
theorem bare_val (p : P3) (h0 : p ≠ (0, 0, 0)) (hp : bigP p 4398046511104 = false) : V.shbare_g p.1 p.2.1 p.2.2 = true ∧ (V.shbare_r0 p.1 p.2.1 p.2.2, V.shbare_r1 p.1 p.2.1 p.2.2, V.shbare_r2 p.1 p.2.1 p.2.2) = bareP p := by
  have h := bigP_false hp
  have hg1 : V.gcdI p.1 p.2.1 = ((Nat.gcd p.1.natAbs p.2.1.natAbs : Nat) : Int) := gcdI_eq _ _
  have hgl : Nat.gcd p.1.natAbs p.2.1.natAbs ≤ 4398046511104 := by
    by_cases hx : p.1.natAbs = 0
    · rw [hx, Nat.gcd_zero_left]; omega
    · have := Nat.gcd_le_left p.2.1.natAbs (Nat.pos_of_ne_zero hx); omega
  have hg : V.gcdI (V.gcdI p.1 p.2.1) p.2.2 = (gcd3 p : Int) := by rw [gcdI_eq, hg1, Int.natAbs_natCast]; rfl
  have hpos := gcd3_pos h0
  obtain ⟨o1, o2⟩ := of_val p (gcd3 p) (by omega) hp
  unfold V.shbare_g V.shbare_r0 V.shbare_r1 V.shbare_r2
  rw [hg]
  have c1 : ((-9223372036854775808 : Int) < p.1 ∧ p.1 < (9223372036854775808 : Int)) ∧ (-562949953421312 : Int) < p.2.1 ∧ p.2.1 < (562949953421312 : Int) := by omega
  have c2 : ((-9223372036854775808 : Int) < V.gcdI p.1 p.2.1 ∧ V.gcdI p.1 p.2.1 < (9223372036854775808 : Int)) ∧ (-562949953421312 : Int) < p.2.2 ∧ p.2.2 < (562949953421312 : Int) := by rw [hg1]; omega
  simp only [if_pos c1, if_pos c2, if_pos o1, true_and]
  exact o2
theorem half_abs (x : Int) : (x.tdiv 2).natAbs = x.natAbs / 2 := Int.natAbs_tdiv x 2
theorem divP2_ne {p : P3} (h : bigP p 1048576 = true) : divP p 2 ≠ (0, 0, 0) := by
  intro h0
  simp only [divP, Prod.mk.injEq] at h0
  simp [bigP] at h
  have h1 := half_abs p.1
  have h2 := half_abs p.2.1
  have h3 := half_abs p.2.2
  rw [h0.1] at h1; rw [h0.2.1] at h2; rw [h0.2.2] at h3
  omega
/-- 2^20, doubled so often. -/
def lim (k : Nat) : Int := 1048576 * ((2 ^ k : Nat) : Int)
theorem lim_zero : lim 0 = 1048576 := by simp [lim]
theorem lim_succ (k : Nat) : lim (k + 1) = 2 * lim k := by
  unfold lim
  rw [Nat.pow_succ, Int.natCast_mul]
  omega
theorem lim_64 : 4398046511104 ≤ lim 64 := by
  unfold lim
  decide
theorem halved {p : P3} {k : Nat} (h : bigP p (lim (k + 1)) = false) : bigP (divP p 2) (lim k) = false := by
  have h := bigP_false h
  apply bigP_eq_false
  simp only [divP]
  rw [lim_succ] at h
  generalize lim k = q at *
  have h1 := half_abs p.1
  have h2 := half_abs p.2.1
  have h3 := half_abs p.2.2
  omega
theorem shrink_stop (n : Nat) {p : P3} (h : bigP p 1048576 = false) : shrinkP n p = p := by
  cases n with
  | zero => rfl
  | succ n => simp [shrinkP, h]
theorem shrink_less : ∀ (k n m : Nat) (p : P3), bigP p (lim k) = false → k ≤ n → k ≤ m → shrinkP n p = shrinkP m p
  | 0, n, m, p, h, _, _ => by
    have h' : bigP p 1048576 = false := by rw [← lim_zero]; exact h
    rw [shrink_stop n h', shrink_stop m h']
  | k + 1, n, m, p, h, h1, h2 => by
    obtain ⟨n, rfl⟩ : ∃ q, n = q + 1 := ⟨n - 1, by omega⟩
    obtain ⟨m, rfl⟩ : ∃ q, m = q + 1 := ⟨m - 1, by omega⟩
    simp only [shrinkP]
    split
    · exact shrink_less k n m _ (halved h) (by omega) (by omega)
    · rfl
theorem shrink_small : ∀ (k n : Nat) (p : P3), bigP p (lim k) = false → k ≤ n → bigP (shrinkP n p) 1048576 = false
  | 0, n, p, h, _ => by
    have h' : bigP p 1048576 = false := by rw [← lim_zero]; exact h
    rw [shrink_stop n h']; exact h'
  | k + 1, n, p, h, h1 => by
    obtain ⟨n, rfl⟩ : ∃ q, n = q + 1 := ⟨n - 1, by omega⟩
    simp only [shrinkP]
    split
    · exact shrink_small k n _ (halved h) (by omega)
    · rename_i hb; simpa using hb
theorem shrink_ne : ∀ (n : Nat) (p : P3), p ≠ (0, 0, 0) → shrinkP n p ≠ (0, 0, 0)
  | 0, p, h => h
  | n + 1, p, h => by
    simp only [shrinkP]
    split
    · rename_i hb; exact shrink_ne n _ (divP2_ne hb)
    · exact h
theorem shrink_big : ∀ (n : Nat) (p : P3) (m : Int), bigP p m = false → bigP (shrinkP n p) m = false
  | 0, p, m, h => h
  | n + 1, p, m, h => by
    simp only [shrinkP]
    split
    · exact shrink_big n _ m (bigP_div 2 h)
    · exact h
theorem short_l0_val {α : Type} (k1 : Int → Int → Int → Option α) : ∀ (k fuel : Nat) (p : P3), bigP p (lim k) = false → bigP p 4398046511104 = false → k < fuel →
    M.short_l0 k1 fuel p.1 p.2.1 p.2.2 = k1 (shrinkP k p).1 (shrinkP k p).2.1 (shrinkP k p).2.2
  | k, 0, p, h, h2, h3 => by omega
  | k, f + 1, p, h, h2, h3 => by
    unfold M.short_l0 M.short_l0_step
    rw [beyond_eq p 1048576 (by omega)]
    by_cases hb : bigP p 1048576 = true
    · obtain ⟨o1, o2⟩ := of_val p 2 (by decide) h2
      rw [if_pos hb, if_pos o1]
      cases k with
      | zero => exact absurd hb (by rw [← lim_zero, h]; decide)
      | succ k =>
        have ih := short_l0_val k1 k f (divP p 2) (halved h) (bigP_div 2 h2) (by omega)
        have e : shrinkP (k + 1) p = shrinkP k (divP p 2) := by simp [shrinkP, hb]
        rw [e, ← ih, ← o2]
    · rw [if_neg hb, shrink_stop k (by simpa using hb)]
theorem divP_ne {p : P3} (h0 : p ≠ (0, 0, 0)) : bareP p ≠ (0, 0, 0) := by
  intro h
  apply h0
  have d1 : (gcd3 p : Int) ∣ p.1 := Int.ofNat_dvd_left.2 (Nat.dvd_trans (Nat.gcd_dvd_left _ _) (Nat.gcd_dvd_left _ _))
  have d2 : (gcd3 p : Int) ∣ p.2.1 := Int.ofNat_dvd_left.2 (Nat.dvd_trans (Nat.gcd_dvd_left _ _) (Nat.gcd_dvd_right _ _))
  have d3 : (gcd3 p : Int) ∣ p.2.2 := Int.ofNat_dvd_left.2 (Nat.gcd_dvd_right _ _)
  simp only [bareP, divP, Prod.mk.injEq] at h
  have e1 := Int.mul_tdiv_cancel' d1
  have e2 := Int.mul_tdiv_cancel' d2
  have e3 := Int.mul_tdiv_cancel' d3
  rw [h.1] at e1; rw [h.2.1] at e2; rw [h.2.2] at e3
  obtain ⟨x, y, z⟩ := p
  simp only [Int.mul_zero] at e1 e2 e3
  rw [← e1, ← e2, ← e3]
theorem short_v {α : Type} (ax ay az : Int) (k0 : Int → Int → Int → Option α) : M.short ax ay az k0 = k0 (V.pShort (ax, ay, az)).1 (V.pShort (ax, ay, az)).2.1 (V.pShort (ax, ay, az)).2.2 := by
  unfold M.short V.pShort
  rw [hid_eq]
  have hb := beyond_eq (ax, ay, az) 4398046511104 (by omega)
  simp only at hb
  rw [hb]
  unfold shortP
  by_cases h1 : bigP (ax, ay, az) 4398046511104 = true
  · simp only [h1, if_true]
  · have h1' : bigP (ax, ay, az) 4398046511104 = false := by simpa using h1
    simp only [h1', Bool.false_eq_true, if_false]
    by_cases h0 : (ax, ay, az) = ((0, 0, 0) : P3)
    · cases h0
      rw [if_pos (by simp [cEq_eq])]
      rfl
    · rw [if_neg (by simp only [cEq_eq, Bool.and_true, Bool.and_eq_true, beq_iff_eq]; rintro ⟨rfl, rfl, rfl⟩; exact h0 rfl)]
      obtain ⟨b1, b2⟩ := bare_val (ax, ay, az) h0 h1'
      simp only at b1 b2
      rw [if_pos b1]
      have hs : bigP (bareP (ax, ay, az)) 4398046511104 = false := bigP_div _ h1'
      have hl := short_l0_val (fun (x21 x22 x23 : Int) => if V.shbare_g x21 x22 x23 = true then k0 (V.shbare_r0 x21 x22 x23) (V.shbare_r1 x21 x22 x23) (V.shbare_r2 x21 x22 x23) else none) 64 100 (bareP (ax, ay, az)) (by
        have := bigP_false hs
        apply bigP_eq_false
        have e := lim_64
        omega) hs (by omega)
      rw [← b2] at hl
      simp only at hl
      rw [hl, b2]
      obtain ⟨c1, c2⟩ := bare_val (shrinkP 64 (bareP (ax, ay, az))) (shrink_ne _ _ (divP_ne h0)) (shrink_big _ _ _ hs)
      rw [if_pos c1, ← c2]
noncomputable def short_h {α : Type} (ds : List D) (Q : SV → Hp → Option α) : Option α :=
  dI ds fun ax ds => dI ds fun ay ds => dI ds fun az ds => dE ds (Q (.agg [.int .i64 (V.pShort (ax, ay, az)).1, .int .i64 (V.pShort (ax, ay, az)).2.1, .int .i64 (V.pShort (ax, ay, az)).2.2]) ([]))
theorem short_h_ok {α : Type} : FnOk E.P 21 (fEnt (α := α) short_sp short_h) :=
  fEnt_ok E (look_shbare_ok) (exec_sound E E_ok (look_shbare_ok) (short_l0_lps_ok) 400) fun ds Q r h => by
    unfold short_h at h
    obtain ⟨ax, ds, rfl, h1⟩ := dI_inv h
    obtain ⟨ay, ds, rfl, h2⟩ := dI_inv h1
    obtain ⟨az, ds, rfl, h3⟩ := dI_inv h2
    obtain ⟨rfl, hE⟩ := dE_inv h3
    exact ⟨[SV.agg [SV.int .i64 ax, SV.int .i64 ay, SV.int .i64 az]], [], fun vs => by kernel_rfl, (short_eq ax ay az Q).trans ((short_v ax ay az _).trans hE)⟩
noncomputable def look_short {α : Type} : LookF α := addFn 21 (fEnt short_sp short_h) look_shbare
theorem look_short_ok {α : Type} : LookOk E.P (look_short (α := α)) := addFn_ok short_h_ok (look_shbare_ok)
end Go.Proofs.Ytkjellhkamfciaa.Sx
end

section
/- shape: what stands in a list of points. -/
namespace Go.Proofs.Ytkjellhkamfciaa.Sx
open Go
set_option maxRecDepth 20000
set_option linter.unusedVariables false
set_option linter.unusedSimpArgs false
/-- Short enough a list. (By choice, so that no checker reckons it.) -/
noncomputable def _root_.Go.Proofs.Ytkjellhkamfciaa.V.lenB (n : Nat) : Bool := hid (decide (n < 1099511627776))
theorem lenB_lt {n : Nat} (h : V.lenB n = true) : n < 1099511627776 := by unfold V.lenB at h; rw [hid_eq] at h; simpa using h
theorem lenB_of {n : Nat} (h : n < 1099511627776) : V.lenB n = true := by unfold V.lenB; rw [hid_eq]; simpa using h
theorem w_next {i : Nat} (h : i < 1099511627776) : IntKind.wrap .i64 ((i : Int) + 1) = ((i + 1 : Nat) : Int) := by
  rw [IntWalk.i64_in _ (by omega)]; rfl
theorem toNat_nat (i : Nat) : Int.toNat (i : Int) = i := rfl
theorem inB {i n : Nat} (h : i < n) : ((0 : Int) ≤ (i : Int) ∧ (i : Int) < (n : Int)) = True := eq_true (by omega)
theorem cLt_nat (i n : Nat) : cLt (i : Int) (n : Int) = decide (i < n) := by
  rw [cLt_eq]; congr 1; exact propext (by omega)
def pt (l : List P3) (i : Nat) : P3 := l.getD i (0, 0, 0)
theorem pt_eq (l : List P3) (i : Nat) (h : i < l.length) : pt l i = l[i] := by simp [pt, List.getD_eq_getElem?_getD, h]
theorem drop_pt (l : List P3) (i : Nat) (h : i < l.length) : l.drop i = pt l i :: l.drop (i + 1) := by rw [pt_eq l i h, List.drop_eq_getElem_cons h]
theorem pt_mem (l : List P3) (i : Nat) (h : i < l.length) : pt l i ∈ l := by rw [pt_eq l i h]; exact List.getElem_mem h
theorem eq3 (x y z : Int) (q : P3) : (cEq x q.1 && (cEq y q.2.1 && (cEq z q.2.2 && true))) = decide ((x, y, z) = q) := by
  obtain ⟨a, b, c⟩ := q
  rw [Bool.eq_iff_iff]
  simp [cEq_eq]
/-- Where a point stands in a list, counted from i; -1: nowhere. -/
def idxF (p : P3) : List P3 → Nat → Int
  | [], _ => -1
  | q :: l, i => if p = q then (i : Int) else idxF p l (i + 1)
noncomputable def _root_.Go.Proofs.Ytkjellhkamfciaa.V.idxP (l : List P3) (p : P3) : Int := hid (idxF p l 0)
def _root_.Go.Proofs.Ytkjellhkamfciaa.V.hasP (l : List P3) (p : P3) : Bool := decide (p ∈ l)
theorem idxF_cons (p q : P3) (l : List P3) (i : Nat) : idxF p (q :: l) i = if p = q then (i : Int) else idxF p l (i + 1) := rfl
theorem idxF_has (p : P3) : ∀ (l : List P3) (i : Nat), decide ((0 : Int) ≤ idxF p l i) = decide (p ∈ l)
  | [], i => by simp [idxF]
  | q :: l, i => by
    rw [idxF_cons]
    by_cases h : p = q
    · simp [h]
    · simp only [if_neg h, List.mem_cons, h, false_or]; exact idxF_has p l (i + 1)
noncomputable def _root_.Go.Proofs.Ytkjellhkamfciaa.M.index_l0_step {α : Type} (x9 : L3) (x10 : Int) (x12 : Int) (x13 : Int) (x14 : Int) (kn : Int → Option α) (k0 : Int → Option α) (k2 : Option α) (x11 : Int) : Option α :=
  if cLt x11 x10 = true then if (0 : Int) ≤ x11 ∧ x11 < (↑(List.length x9) : Int) then if (cEq x12 (Prod.fst (List.getD x9 (Int.toNat x11) ((0 : Int), (0 : Int), (0 : Int)))) && (cEq x13 (Prod.fst (Prod.snd (List.getD x9 (Int.toNat x11) ((0 : Int), (0 : Int), (0 : Int))))) && (cEq x14 (Prod.snd (Prod.snd (List.getD x9 (Int.toNat x11) ((0 : Int), (0 : Int), (0 : Int))))) && true))) = true then k0 x11 else kn (IntKind.wrap .i64 (x11 + (1 : Int))) else none else k2
noncomputable def _root_.Go.Proofs.Ytkjellhkamfciaa.M.index_l0 {α : Type} (x9 : L3) (x10 : Int) (x12 : Int) (x13 : Int) (x14 : Int) (k0 : Int → Option α) (k2 : Option α) : Nat → Int → Option α
  | 0, _ => none
  | n + 1, x11 => M.index_l0_step x9 x10 x12 x13 x14 (M.index_l0 x9 x10 x12 x13 x14 k0 k2 n) k0 k2 x11
theorem index_l0_step_eq {α : Type} (x8 : Value) (x9 : L3) (x10 : Int) (x11 : Int) (x12 : Int) (x13 : Int) (x14 : Int) (Q : Ex → St → Option α) : (loopStep E (exec E look_short noLps 400) 77 [false, true, false, true] 0 (codeAt E.P 77 [false, true, false, true])) (St.mk (some (SV.ros x8 kP x9) :: none :: none :: some (SV.ptr (nat_lit 0) (nat_lit 0)) :: nn 3 (some (SV.int .i64 x10) :: some (SV.int .i64 x11) :: nn 10 ([]))) [.cells [SV.int .i64 x12, SV.int .i64 x13, SV.int .i64 x14] (nat_lit 23)]) Q = M.index_l0_step x9 x10 x12 x13 x14 (fun (x16 : Int) => Q .normal (St.mk (some (SV.ros x8 kP x9) :: none :: none :: some (SV.ptr (nat_lit 0) (nat_lit 0)) :: nn 3 (some (SV.int .i64 x10) :: some (SV.int .i64 x16) :: nn 10 ([]))) [.cells [SV.int .i64 x12, SV.int .i64 x13, SV.int .i64 x14] (nat_lit 23)])) (fun (x15 : Int) => Q .ret (St.mk (nn 4 (some (SV.int .i64 x15) :: nn 14 ([]))) [])) (Q (.exit 0) (St.mk (nn 19 ([])) [])) x11 := by kernel_rfl
theorem index_l0_iter {α : Type} (x8 : Value) (x9 : L3) (x10 : Int) (x12 : Int) (x13 : Int) (x14 : Int) (Q : Ex → St → Option α) : ∀ (n : Nat) (x11 : Int), iter (loopStep E (exec E look_short noLps 400) 77 [false, true, false, true] 0 (codeAt E.P 77 [false, true, false, true])) n (St.mk (some (SV.ros x8 kP x9) :: none :: none :: some (SV.ptr (nat_lit 0) (nat_lit 0)) :: nn 3 (some (SV.int .i64 x10) :: some (SV.int .i64 x11) :: nn 10 ([]))) [.cells [SV.int .i64 x12, SV.int .i64 x13, SV.int .i64 x14] (nat_lit 23)]) Q = M.index_l0 x9 x10 x12 x13 x14 (fun (x15 : Int) => Q .ret (St.mk (nn 4 (some (SV.int .i64 x15) :: nn 14 ([]))) [])) (Q (.exit 0) (St.mk (nn 19 ([])) [])) n x11
  | 0, _ => rfl
  | n + 1, x11 => (index_l0_step_eq x8 x9 x10 x11 x12 x13 x14 (iterK (loopStep E (exec E look_short noLps 400) 77 [false, true, false, true] 0 (codeAt E.P 77 [false, true, false, true])) n Q)).trans (congrArg (fun kn => M.index_l0_step x9 x10 x12 x13 x14 kn (fun (x15 : Int) => Q .ret (St.mk (nn 4 (some (SV.int .i64 x15) :: nn 14 ([]))) [])) (Q (.exit 0) (St.mk (nn 19 ([])) [])) x11) (funext fun x11 => index_l0_iter x8 x9 x10 x12 x13 x14 Q n x11))
noncomputable def index_l0_go {α : Type} (ds : List D) (Q : Ex → St → Option α) : Option α :=
  dV ds fun x8 ds => dL kP ds fun x9 ds => dI ds fun x10 ds => dI ds fun x11 ds => dI ds fun x12 ds => dI ds fun x13 ds => dI ds fun x14 ds => dE ds (M.index_l0 x9 x10 x12 x13 x14 (fun (x15 : Int) => Q .ret (St.mk (nn 4 (some (SV.int .i64 x15) :: nn 14 ([]))) [])) (Q (.exit 0) (St.mk (nn 19 ([])) [])) (100 + x9.length) x11)
theorem index_l0_ok {α : Type} : LoopOk E.P 77 [false, true, false, true] 0 (lEnt (α := α) (St.mk (some (SV.ros undef kP []) :: none :: none :: some (SV.ptr (nat_lit 0) (nat_lit 0)) :: nn 3 (some (SV.int .i64 (0 : Int)) :: some (SV.int .i64 (0 : Int)) :: nn 10 ([]))) [.cells [SV.int .i64 (0 : Int), SV.int .i64 (0 : Int), SV.int .i64 (0 : Int)] (nat_lit 23)]) index_l0_go) :=
  lEnt_ok E (exec_sound E E_ok (look_short_ok) (noLps_ok _) 400) fun ds Q r h S hS => by
    unfold index_l0_go at h
    obtain ⟨x8, ds, rfl, h1⟩ := dV_inv h
    obtain ⟨x9, ds, rfl, h2⟩ := dL_inv h1
    obtain ⟨x10, ds, rfl, h3⟩ := dI_inv h2
    obtain ⟨x11, ds, rfl, h4⟩ := dI_inv h3
    obtain ⟨x12, ds, rfl, h5⟩ := dI_inv h4
    obtain ⟨x13, ds, rfl, h6⟩ := dI_inv h5
    obtain ⟨x14, ds, rfl, h7⟩ := dI_inv h6
    obtain ⟨rfl, hE⟩ := dE_inv h7
    have e : fillS (St.mk (some (SV.ros undef kP []) :: none :: none :: some (SV.ptr (nat_lit 0) (nat_lit 0)) :: nn 3 (some (SV.int .i64 (0 : Int)) :: some (SV.int .i64 (0 : Int)) :: nn 10 ([]))) [.cells [SV.int .i64 (0 : Int), SV.int .i64 (0 : Int), SV.int .i64 (0 : Int)] (nat_lit 23)]) [.v x8, .l kP x9, .i x10, .i x11, .i x12, .i x13, .i x14] = some (St.mk (some (SV.ros x8 kP x9) :: none :: none :: some (SV.ptr (nat_lit 0) (nat_lit 0)) :: nn 3 (some (SV.int .i64 x10) :: some (SV.int .i64 x11) :: nn 10 ([]))) [.cells [SV.int .i64 x12, SV.int .i64 x13, SV.int .i64 x14] (nat_lit 23)]) := by kernel_rfl
    rw [e] at hS
    cases hS
    exact ⟨_, (index_l0_iter x8 x9 x10 x12 x13 x14 Q _ x11).trans hE⟩
noncomputable def index_l0_lps {α : Type} : LookL α := addLp 77 [false, true, false, true] 0 (lEnt (St.mk (some (SV.ros undef kP []) :: none :: none :: some (SV.ptr (nat_lit 0) (nat_lit 0)) :: nn 3 (some (SV.int .i64 (0 : Int)) :: some (SV.int .i64 (0 : Int)) :: nn 10 ([]))) [.cells [SV.int .i64 (0 : Int), SV.int .i64 (0 : Int), SV.int .i64 (0 : Int)] (nat_lit 23)]) index_l0_go) noLps
theorem index_l0_lps_ok {α : Type} : LoopsOk E.P (index_l0_lps (α := α)) := addLp_ok index_l0_ok (noLps_ok _)

noncomputable def _root_.Go.Proofs.Ytkjellhkamfciaa.M.index {α : Type} (l : L3) (x : Int) (y : Int) (z : Int) (k0 : Int → Option α) : Option α :=
  M.index_l0 l (↑(List.length l) : Int) x y z (fun (x18 : Int) ↦ k0 x18) (k0 (-1 : Int)) ((100 : Nat) + List.length l) (0 : Int)
theorem index_eq {α : Type} (l : L3) (x : Int) (y : Int) (z : Int) (v17 : Value) (Q : SV → Hp → Option α) : callI E look_short (exec E look_short index_l0_lps 400) 77 ([SV.ros v17 kP l, SV.agg [SV.int .i64 x, SV.int .i64 y, SV.int .i64 z]]) ([]) Q = M.index l x y z (fun (x19 : Int) => Q (SV.int .i64 x19) ([])) := by kernel_rfl
def index_sp : List AS := [.ro (.st (.i .i64) [.i .i64, .i .i64]), .val (.agg [.int .i64 0, .int .i64 0, .int .i64 0])]
theorem index_l0_val {α : Type} (l : List P3) (hl : l.length < 1099511627776) (x y z : Int) (k0 : Int → Option α) : ∀ (fuel i : Nat), i ≤ l.length → l.length - i < fuel →
    M.index_l0 l (l.length : Int) x y z k0 (k0 (-1)) fuel (i : Int) = k0 (idxF (x, y, z) (l.drop i) i)
  | 0, i, h1, h2 => by omega
  | f + 1, i, h1, h2 => by
    unfold M.index_l0 M.index_l0_step
    rw [cLt_nat]
    by_cases hi : i < l.length
    · have ih := index_l0_val l hl x y z k0 f (i + 1) (by omega) (by omega)
      rw [w_next (by omega), ih]
      simp only [hi, decide_true, if_true, inB hi, toNat_nat, eq3, decide_eq_true_eq]
      rw [drop_pt l i hi, idxF_cons]
      show (if (x, y, z) = pt l i then _ else _) = _
      split <;> rfl
    · have : i = l.length := by omega
      subst this
      simp [idxF]
theorem index_v {α : Type} (l : List P3) (x y z : Int) (hg : V.lenB l.length = true) (k0 : Int → Option α) : M.index l x y z k0 = k0 (V.idxP l (x, y, z)) := by
  unfold M.index V.idxP
  rw [hid_eq]
  exact index_l0_val l (lenB_lt hg) x y z k0 _ 0 (by omega) (by omega)
noncomputable def index_h {α : Type} (ds : List D) (Q : SV → Hp → Option α) : Option α :=
  dL kP ds fun l ds => dI ds fun x ds => dI ds fun y ds => dI ds fun z ds => dE ds (if V.lenB l.length = true then Q (.int .i64 (V.idxP l (x, y, z))) ([]) else none)
theorem index_h_ok {α : Type} : FnOk E.P 77 (fEnt (α := α) index_sp index_h) :=
  fEntR_ok E (look_short_ok) (exec_sound E E_ok (look_short_ok) (index_l0_lps_ok) 400) fun ds Q r h => by
    unfold index_h at h
    obtain ⟨l, ds, rfl, h1⟩ := dL_inv h
    obtain ⟨x, ds, rfl, h2⟩ := dI_inv h1
    obtain ⟨y, ds, rfl, h3⟩ := dI_inv h2
    obtain ⟨z, ds, rfl, h4⟩ := dI_inv h3
    obtain ⟨rfl, hE⟩ := dE_inv h4
    split at hE
    · rename_i hg
      exact ⟨_, _, hE, fun vs => ⟨_, _, by kernel_rfl, (index_eq l x y z (vs.headD undef) _).trans (index_v l x y z hg _)⟩⟩
    · cases hE
noncomputable def look_index {α : Type} : LookF α := addFn 77 (fEnt index_sp index_h) look_short
theorem look_index_ok {α : Type} : LookOk E.P (look_index (α := α)) := addFn_ok index_h_ok (look_short_ok)
noncomputable def _root_.Go.Proofs.Ytkjellhkamfciaa.M.contains {α : Type} (l : L3) (x : Int) (y : Int) (z : Int) (k0 : Bool → Option α) : Option α :=
  if V.lenB (List.length l) = true then k0 (cLe (0 : Int) (V.idxP l (x, y, z))) else none
theorem contains_eq {α : Type} (l : L3) (x : Int) (y : Int) (z : Int) (v20 : Value) (Q : SV → Hp → Option α) : callI E look_index (exec E look_index noLps 400) 50 ([SV.ros v20 kP l, SV.agg [SV.int .i64 x, SV.int .i64 y, SV.int .i64 z]]) ([]) Q = M.contains l x y z (fun (x21 : Bool) => Q (SV.bool x21) ([])) := by kernel_rfl
def contains_sp : List AS := [.ro (.st (.i .i64) [.i .i64, .i .i64]), .val (.agg [.int .i64 0, .int .i64 0, .int .i64 0])]
theorem contains_v {α : Type} (l : List P3) (x y z : Int) (hg : V.lenB l.length = true) (k0 : Bool → Option α) : M.contains l x y z k0 = k0 (V.hasP l (x, y, z)) := by
  unfold M.contains V.hasP V.idxP
  rw [if_pos hg, hid_eq, cLe_eq, idxF_has]
noncomputable def contains_h {α : Type} (ds : List D) (Q : SV → Hp → Option α) : Option α :=
  dL kP ds fun l ds => dI ds fun x ds => dI ds fun y ds => dI ds fun z ds => dE ds (if V.lenB l.length = true then Q (.bool (V.hasP l (x, y, z))) ([]) else none)
theorem contains_h_ok {α : Type} : FnOk E.P 50 (fEnt (α := α) contains_sp contains_h) :=
  fEntR_ok E (look_index_ok) (exec_sound E E_ok (look_index_ok) (noLps_ok _) 400) fun ds Q r h => by
    unfold contains_h at h
    obtain ⟨l, ds, rfl, h1⟩ := dL_inv h
    obtain ⟨x, ds, rfl, h2⟩ := dI_inv h1
    obtain ⟨y, ds, rfl, h3⟩ := dI_inv h2
    obtain ⟨z, ds, rfl, h4⟩ := dI_inv h3
    obtain ⟨rfl, hE⟩ := dE_inv h4
    split at hE
    · rename_i hg
      exact ⟨_, _, hE, fun vs => ⟨_, _, by kernel_rfl, (contains_eq l x y z (vs.headD undef) _).trans (contains_v l x y z hg _)⟩⟩
    · cases hE
noncomputable def look_contains {α : Type} : LookF α := addFn 50 (fEnt contains_sp contains_h) look_index
theorem look_contains_ok {α : Type} : LookOk E.P (look_contains (α := α)) := addFn_ok contains_h_ok (look_index_ok)
noncomputable def _root_.Go.Proofs.Ytkjellhkamfciaa.M.clone {α : Type} (l : L3) (v22 : Value) (k0 : L3 → Option α) : Option α :=
  if (nilV v22 && List.isEmpty l) = true then k0 [] else if ((0 : Nat) + List.length l) * (24 : Nat) ≤ (140737488355328 : Nat) then k0 ([] ++ l) else none
theorem clone_eq {α : Type} (l : L3) (v22 : Value) (Q : SV → Hp → Option α) : callI E look_contains (exec E look_contains noLps 400) 29 ([SV.ros v22 kP l]) ([]) Q = M.clone l v22 (fun (x23 : L3) => Q (SV.sl (nat_lit 0)) ([.seq kP x23 (nat_lit 23)])) := by kernel_rfl
def clone_sp : List AS := [.ro (.st (.i .i64) [.i .i64, .i .i64])]
theorem clone_v {α : Type} (l : List P3) (v : Value) (hg : V.lenB l.length = true) (k0 : List P3 → Option α) : M.clone l v k0 = k0 l := by
  unfold M.clone
  have := lenB_lt hg
  rw [if_pos (by omega : ((0 : Nat) + l.length) * 24 ≤ 140737488355328)]
  split
  · rename_i h
    simp only [Bool.and_eq_true, List.isEmpty_iff] at h
    rw [h.2]
  · rfl
noncomputable def clone_h {α : Type} (ds : List D) (Q : SV → Hp → Option α) : Option α :=
  dL kP ds fun l ds => dE ds (if V.lenB l.length = true then Q (.sl 0) ([.seq (.st (.i .i64) [.i .i64, .i .i64]) l 23]) else none)
theorem clone_h_ok {α : Type} : FnOk E.P 29 (fEnt (α := α) clone_sp clone_h) :=
  fEntR_ok E (look_contains_ok) (exec_sound E E_ok (look_contains_ok) (noLps_ok _) 400) fun ds Q r h => by
    unfold clone_h at h
    obtain ⟨l, ds, rfl, h1⟩ := dL_inv h
    obtain ⟨rfl, hE⟩ := dE_inv h1
    split at hE
    · rename_i hg
      exact ⟨_, _, hE, fun vs => ⟨_, _, by kernel_rfl, (clone_eq l (vs.headD undef) _).trans (clone_v l _ hg _)⟩⟩
    · cases hE
noncomputable def look_clone {α : Type} : LookF α := addFn 29 (fEnt clone_sp clone_h) look_contains
theorem look_clone_ok {α : Type} : LookOk E.P (look_clone (α := α)) := addFn_ok clone_h_ok (look_contains_ok)
noncomputable def _root_.Go.Proofs.Ytkjellhkamfciaa.M.side_l0_step {α : Type} (x40 : L3) (x41 : Int) (x43 : Int) (x44 : Int) (x45 : Int) (x46 : Int) (x47 : Int) (x48 : Int) (kn : Int → Int → Int → Option α) (k1 : Int → Int → Option α) (x37 : Int) (x38 : Int) (x42 : Int) : Option α :=
  if cLt x42 x41 = true then
  if (0 : Int) ≤ x42 ∧ x42 < (↑(List.length x40) : Int) then
    kn (if V.pDot (x43, x44, x45) (V.pSub (List.getD x40 (Int.toNat x42) ((0 : Int), (0 : Int), (0 : Int))) (x46, x47, x48)) < x37 then V.pDot (x43, x44, x45) (V.pSub (List.getD x40 (Int.toNat x42) ((0 : Int), (0 : Int), (0 : Int))) (x46, x47, x48)) else x37)
      (if V.pDot (x43, x44, x45) (V.pSub (List.getD x40 (Int.toNat x42) ((0 : Int), (0 : Int), (0 : Int))) (x46, x47, x48)) > x38 then V.pDot (x43, x44, x45) (V.pSub (List.getD x40 (Int.toNat x42) ((0 : Int), (0 : Int), (0 : Int))) (x46, x47, x48)) else x38) (IntKind.wrap .i64 (x42 + (1 : Int)))
  else none
else k1 x37 x38
noncomputable def _root_.Go.Proofs.Ytkjellhkamfciaa.M.side_l0 {α : Type} (x40 : L3) (x41 : Int) (x43 : Int) (x44 : Int) (x45 : Int) (x46 : Int) (x47 : Int) (x48 : Int) (k1 : Int → Int → Option α) : Nat → Int → Int → Int → Option α
  | 0, _, _, _ => none
  | n + 1, x37, x38, x42 => M.side_l0_step x40 x41 x43 x44 x45 x46 x47 x48 (M.side_l0 x40 x41 x43 x44 x45 x46 x47 x48 k1 n) k1 x37 x38 x42
theorem side_l0_step_eq {α : Type} (x37 : Int) (x38 : Int) (x39 : Value) (x40 : L3) (x41 : Int) (x42 : Int) (x43 : Int) (x44 : Int) (x45 : Int) (x46 : Int) (x47 : Int) (x48 : Int) (Q : Ex → St → Option α) : (loopStep E (exec E look_clone noLps 400) 60 [false, true, false, true, true] 0 (codeAt E.P 60 [false, true, false, true, true])) (St.mk (nn 4 (some (SV.ptr (nat_lit 0) (nat_lit 0)) :: some (SV.ptr (nat_lit 1) (nat_lit 0)) :: none :: some (SV.int .i64 x37) :: some (SV.int .i64 x38) :: nn 3 (some (SV.ros x39 kP x40) :: some (SV.int .i64 x41) :: some (SV.int .i64 x42) :: nn 21 ([]))))
  [.cells [SV.int .i64 x43, SV.int .i64 x44, SV.int .i64 x45] (nat_lit 23), .cells [SV.int .i64 x46, SV.int .i64 x47, SV.int .i64 x48] (nat_lit 23)]) Q = M.side_l0_step x40 x41 x43 x44 x45 x46 x47 x48 (fun (x51 : Int) (x52 : Int) (x53 : Int) => Q .normal (St.mk (nn 4 (some (SV.ptr (nat_lit 0) (nat_lit 0)) :: some (SV.ptr (nat_lit 1) (nat_lit 0)) :: none :: some (SV.int .i64 x51) :: some (SV.int .i64 x52) :: nn 3 (some (SV.ros x39 kP x40) :: some (SV.int .i64 x41) :: some (SV.int .i64 x53) :: nn 21 ([]))))
  [.cells [SV.int .i64 x43, SV.int .i64 x44, SV.int .i64 x45] (nat_lit 23), .cells [SV.int .i64 x46, SV.int .i64 x47, SV.int .i64 x48] (nat_lit 23)])) (fun (x49 : Int) (x50 : Int) => Q (.exit 0) (St.mk (nn 7 (some (SV.int .i64 x49) :: some (SV.int .i64 x50) :: nn 27 ([]))) [])) x37 x38 x42 := by kernel_rfl
theorem side_l0_iter {α : Type} (x39 : Value) (x40 : L3) (x41 : Int) (x43 : Int) (x44 : Int) (x45 : Int) (x46 : Int) (x47 : Int) (x48 : Int) (Q : Ex → St → Option α) : ∀ (n : Nat) (x37 : Int) (x38 : Int) (x42 : Int), iter (loopStep E (exec E look_clone noLps 400) 60 [false, true, false, true, true] 0 (codeAt E.P 60 [false, true, false, true, true])) n (St.mk (nn 4 (some (SV.ptr (nat_lit 0) (nat_lit 0)) :: some (SV.ptr (nat_lit 1) (nat_lit 0)) :: none :: some (SV.int .i64 x37) :: some (SV.int .i64 x38) :: nn 3 (some (SV.ros x39 kP x40) :: some (SV.int .i64 x41) :: some (SV.int .i64 x42) :: nn 21 ([]))))
  [.cells [SV.int .i64 x43, SV.int .i64 x44, SV.int .i64 x45] (nat_lit 23), .cells [SV.int .i64 x46, SV.int .i64 x47, SV.int .i64 x48] (nat_lit 23)]) Q = M.side_l0 x40 x41 x43 x44 x45 x46 x47 x48 (fun (x49 : Int) (x50 : Int) => Q (.exit 0) (St.mk (nn 7 (some (SV.int .i64 x49) :: some (SV.int .i64 x50) :: nn 27 ([]))) [])) n x37 x38 x42
  | 0, _, _, _ => rfl
  | n + 1, x37, x38, x42 => (side_l0_step_eq x37 x38 x39 x40 x41 x42 x43 x44 x45 x46 x47 x48 (iterK (loopStep E (exec E look_clone noLps 400) 60 [false, true, false, true, true] 0 (codeAt E.P 60 [false, true, false, true, true])) n Q)).trans (congrArg (fun kn => M.side_l0_step x40 x41 x43 x44 x45 x46 x47 x48 kn (fun (x49 : Int) (x50 : Int) => Q (.exit 0) (St.mk (nn 7 (some (SV.int .i64 x49) :: some (SV.int .i64 x50) :: nn 27 ([]))) [])) x37 x38 x42) (funext fun x37 => funext fun x38 => funext fun x42 => side_l0_iter x39 x40 x41 x43 x44 x45 x46 x47 x48 Q n x37 x38 x42))
noncomputable def side_l0_go {α : Type} (ds : List D) (Q : Ex → St → Option α) : Option α :=
  dI ds fun x37 ds => dI ds fun x38 ds => dV ds fun x39 ds => dL kP ds fun x40 ds => dI ds fun x41 ds => dI ds fun x42 ds => dI ds fun x43 ds => dI ds fun x44 ds => dI ds fun x45 ds => dI ds fun x46 ds => dI ds fun x47 ds => dI ds fun x48 ds => dE ds (M.side_l0 x40 x41 x43 x44 x45 x46 x47 x48 (fun (x49 : Int) (x50 : Int) => Q (.exit 0) (St.mk (nn 7 (some (SV.int .i64 x49) :: some (SV.int .i64 x50) :: nn 27 ([]))) [])) (100 + x40.length) x37 x38 x42)
theorem side_l0_ok {α : Type} : LoopOk E.P 60 [false, true, false, true, true] 0 (lEnt (α := α) (St.mk (nn 4 (some (SV.ptr (nat_lit 0) (nat_lit 0)) :: some (SV.ptr (nat_lit 1) (nat_lit 0)) :: none :: some (SV.int .i64 (0 : Int)) :: some (SV.int .i64 (0 : Int)) :: nn 3 (some (SV.ros undef kP []) :: some (SV.int .i64 (0 : Int)) :: some (SV.int .i64 (0 : Int)) :: nn 21 ([]))))
  [.cells [SV.int .i64 (0 : Int), SV.int .i64 (0 : Int), SV.int .i64 (0 : Int)] (nat_lit 23), .cells [SV.int .i64 (0 : Int), SV.int .i64 (0 : Int), SV.int .i64 (0 : Int)] (nat_lit 23)]) side_l0_go) :=
  lEnt_ok E (exec_sound E E_ok (look_clone_ok) (noLps_ok _) 400) fun ds Q r h S hS => by
    unfold side_l0_go at h
    obtain ⟨x37, ds, rfl, h1⟩ := dI_inv h
    obtain ⟨x38, ds, rfl, h2⟩ := dI_inv h1
    obtain ⟨x39, ds, rfl, h3⟩ := dV_inv h2
    obtain ⟨x40, ds, rfl, h4⟩ := dL_inv h3
    obtain ⟨x41, ds, rfl, h5⟩ := dI_inv h4
    obtain ⟨x42, ds, rfl, h6⟩ := dI_inv h5
    obtain ⟨x43, ds, rfl, h7⟩ := dI_inv h6
    obtain ⟨x44, ds, rfl, h8⟩ := dI_inv h7
    obtain ⟨x45, ds, rfl, h9⟩ := dI_inv h8
    obtain ⟨x46, ds, rfl, h10⟩ := dI_inv h9
    obtain ⟨x47, ds, rfl, h11⟩ := dI_inv h10
    obtain ⟨x48, ds, rfl, h12⟩ := dI_inv h11
    obtain ⟨rfl, hE⟩ := dE_inv h12
    have e : fillS (St.mk (nn 4 (some (SV.ptr (nat_lit 0) (nat_lit 0)) :: some (SV.ptr (nat_lit 1) (nat_lit 0)) :: none :: some (SV.int .i64 (0 : Int)) :: some (SV.int .i64 (0 : Int)) :: nn 3 (some (SV.ros undef kP []) :: some (SV.int .i64 (0 : Int)) :: some (SV.int .i64 (0 : Int)) :: nn 21 ([]))))
  [.cells [SV.int .i64 (0 : Int), SV.int .i64 (0 : Int), SV.int .i64 (0 : Int)] (nat_lit 23), .cells [SV.int .i64 (0 : Int), SV.int .i64 (0 : Int), SV.int .i64 (0 : Int)] (nat_lit 23)]) [.i x37, .i x38, .v x39, .l kP x40, .i x41, .i x42, .i x43, .i x44, .i x45, .i x46, .i x47, .i x48] = some (St.mk (nn 4 (some (SV.ptr (nat_lit 0) (nat_lit 0)) :: some (SV.ptr (nat_lit 1) (nat_lit 0)) :: none :: some (SV.int .i64 x37) :: some (SV.int .i64 x38) :: nn 3 (some (SV.ros x39 kP x40) :: some (SV.int .i64 x41) :: some (SV.int .i64 x42) :: nn 21 ([]))))
  [.cells [SV.int .i64 x43, SV.int .i64 x44, SV.int .i64 x45] (nat_lit 23), .cells [SV.int .i64 x46, SV.int .i64 x47, SV.int .i64 x48] (nat_lit 23)]) := by kernel_rfl
    rw [e] at hS
    cases hS
    exact ⟨_, (side_l0_iter x39 x40 x41 x43 x44 x45 x46 x47 x48 Q _ x37 x38 x42).trans hE⟩
noncomputable def side_l0_lps {α : Type} : LookL α := addLp 60 [false, true, false, true, true] 0 (lEnt (St.mk (nn 4 (some (SV.ptr (nat_lit 0) (nat_lit 0)) :: some (SV.ptr (nat_lit 1) (nat_lit 0)) :: none :: some (SV.int .i64 (0 : Int)) :: some (SV.int .i64 (0 : Int)) :: nn 3 (some (SV.ros undef kP []) :: some (SV.int .i64 (0 : Int)) :: some (SV.int .i64 (0 : Int)) :: nn 21 ([]))))
  [.cells [SV.int .i64 (0 : Int), SV.int .i64 (0 : Int), SV.int .i64 (0 : Int)] (nat_lit 23), .cells [SV.int .i64 (0 : Int), SV.int .i64 (0 : Int), SV.int .i64 (0 : Int)] (nat_lit 23)]) side_l0_go) noLps
theorem side_l0_lps_ok {α : Type} : LoopsOk E.P (side_l0_lps (α := α)) := addLp_ok side_l0_ok (noLps_ok _)

noncomputable def _root_.Go.Proofs.Ytkjellhkamfciaa.M.side {α : Type} (l : L3) (nx : Int) (ny : Int) (nz : Int) (ax : Int) (ay : Int) (az : Int) (k0 : Int → Option α) : Option α :=
  M.side_l0 l (↑(List.length l) : Int) nx ny nz ax ay az (fun (x55 x56 : Int) ↦ if cLe x56 (0 : Int) = true then k0 (1 : Int) else if cLe (0 : Int) x55 = true then k0 (-1 : Int) else k0 (0 : Int)) ((100 : Nat) + List.length l) (0 : Int) (0 : Int) (0 : Int)
theorem side_eq {α : Type} (l : L3) (nx : Int) (ny : Int) (nz : Int) (ax : Int) (ay : Int) (az : Int) (v54 : Value) (Q : SV → Hp → Option α) : callI E look_clone (exec E look_clone side_l0_lps 400) 60 ([SV.ros v54 kP l, SV.agg [SV.int .i64 nx, SV.int .i64 ny, SV.int .i64 nz], SV.agg [SV.int .i64 ax, SV.int .i64 ay, SV.int .i64 az]]) ([]) Q = M.side l nx ny nz ax ay az (fun (x57 : Int) => Q (SV.int .i64 x57) ([])) := by kernel_rfl
def side_sp : List AS := [.ro (.st (.i .i64) [.i .i64, .i .i64]), .val (.agg [.int .i64 0, .int .i64 0, .int .i64 0]), .val (.agg [.int .i64 0, .int .i64 0, .int .i64 0])]
/-- How far a point is ahead of a plane. -/
def ahead (n a p : P3) : Int := V.pDot n (V.pSub p a)
def _root_.Go.Proofs.Ytkjellhkamfciaa.V.sideP (l : List P3) (n a : P3) : Int := if ∀ p ∈ l, ahead n a p ≤ 0 then 1 else if ∀ p ∈ l, 0 ≤ ahead n a p then -1 else 0
def minF (n a : P3) (l : List P3) (m : Int) : Int := l.foldl (fun m p => if ahead n a p < m then ahead n a p else m) m
def maxF (n a : P3) (l : List P3) (m : Int) : Int := l.foldl (fun m p => if ahead n a p > m then ahead n a p else m) m
theorem minF_ge (n a : P3) : ∀ (l : List P3) (m : Int), 0 ≤ minF n a l m ↔ 0 ≤ m ∧ ∀ p ∈ l, 0 ≤ ahead n a p
  | [], m => by simp [minF]
  | p :: l, m => by
    have := minF_ge n a l (if ahead n a p < m then ahead n a p else m)
    unfold minF at this ⊢
    rw [List.foldl_cons, this]
    simp only [List.mem_cons, forall_eq_or_imp]
    split <;> constructor <;> rintro ⟨h1, h2⟩ <;> first | exact ⟨by omega, h1, h2⟩ | exact ⟨by omega, by omega, h2⟩ | exact ⟨h2.1, h2.2⟩ | exact ⟨h1, h2.2⟩
theorem maxF_le (n a : P3) : ∀ (l : List P3) (m : Int), maxF n a l m ≤ 0 ↔ m ≤ 0 ∧ ∀ p ∈ l, ahead n a p ≤ 0
  | [], m => by simp [maxF]
  | p :: l, m => by
    have := maxF_le n a l (if ahead n a p > m then ahead n a p else m)
    unfold maxF at this ⊢
    rw [List.foldl_cons, this]
    simp only [List.mem_cons, forall_eq_or_imp]
    split <;> constructor <;> rintro ⟨h1, h2⟩ <;> first | exact ⟨by omega, h1, h2⟩ | exact ⟨by omega, by omega, h2⟩ | exact ⟨h2.1, h2.2⟩ | exact ⟨h1, h2.2⟩
theorem side_l0_val {α : Type} (l : List P3) (hl : l.length < 1099511627776) (n a : P3) (k1 : Int → Int → Option α) : ∀ (fuel i : Nat) (lo hi : Int), i ≤ l.length → l.length - i < fuel →
    M.side_l0 l (l.length : Int) n.1 n.2.1 n.2.2 a.1 a.2.1 a.2.2 k1 fuel lo hi (i : Int) = k1 (minF n a (l.drop i) lo) (maxF n a (l.drop i) hi)
  | 0, i, lo, hi, h1, h2 => by omega
  | f + 1, i, lo, hi, h1, h2 => by
    unfold M.side_l0 M.side_l0_step
    rw [cLt_nat]
    by_cases hx : i < l.length
    · rw [w_next (by omega), side_l0_val l hl n a k1 f (i + 1) _ _ (by omega) (by omega)]
      simp only [hx, decide_true, if_true, inB hx, toNat_nat]
      rw [drop_pt l i hx]
      rfl
    · have : i = l.length := by omega
      subst this
      simp [minF, maxF]
theorem side_v {α : Type} (l : List P3) (nx ny nz ax ay az : Int) (hg : V.lenB l.length = true) (k0 : Int → Option α) : M.side l nx ny nz ax ay az k0 = k0 (V.sideP l (nx, ny, nz) (ax, ay, az)) := by
  unfold M.side V.sideP
  have := side_l0_val l (lenB_lt hg) (nx, ny, nz) (ax, ay, az) (fun (x53 x54 : Int) => if cLe x54 (0 : Int) = true then k0 (1 : Int) else if cLe (0 : Int) x53 = true then k0 (-1 : Int) else k0 (0 : Int)) (100 + l.length) 0 0 0 (by omega) (by omega)
  simp only at this
  refine this.trans ?_
  simp only [cLe_eq, decide_eq_true_eq, minF_ge, maxF_le, Int.le_refl, true_and, List.drop_zero]
  split
  · rfl
  · split <;> rfl
noncomputable def side_h {α : Type} (ds : List D) (Q : SV → Hp → Option α) : Option α :=
  dL kP ds fun l ds => dI ds fun nx ds => dI ds fun ny ds => dI ds fun nz ds => dI ds fun ax ds => dI ds fun ay ds => dI ds fun az ds => dE ds (if V.lenB l.length = true then Q (.int .i64 (V.sideP l (nx, ny, nz) (ax, ay, az))) ([]) else none)
theorem side_h_ok {α : Type} : FnOk E.P 60 (fEnt (α := α) side_sp side_h) :=
  fEntR_ok E (look_clone_ok) (exec_sound E E_ok (look_clone_ok) (side_l0_lps_ok) 400) fun ds Q r h => by
    unfold side_h at h
    obtain ⟨l, ds, rfl, h1⟩ := dL_inv h
    obtain ⟨nx, ds, rfl, h2⟩ := dI_inv h1
    obtain ⟨ny, ds, rfl, h3⟩ := dI_inv h2
    obtain ⟨nz, ds, rfl, h4⟩ := dI_inv h3
    obtain ⟨ax, ds, rfl, h5⟩ := dI_inv h4
    obtain ⟨ay, ds, rfl, h6⟩ := dI_inv h5
    obtain ⟨az, ds, rfl, h7⟩ := dI_inv h6
    obtain ⟨rfl, hE⟩ := dE_inv h7
    split at hE
    · rename_i hg
      exact ⟨_, _, hE, fun vs => ⟨_, _, by kernel_rfl, (side_eq l nx ny nz ax ay az (vs.headD undef) _).trans (side_v l nx ny nz ax ay az hg _)⟩⟩
    · cases hE
noncomputable def look_side {α : Type} : LookF α := addFn 60 (fEnt side_sp side_h) look_clone
theorem look_side_ok {α : Type} : LookOk E.P (look_side (α := α)) := addFn_ok side_h_ok (look_clone_ok)
/-- All unlike, and not too far. -/
def _root_.Go.Proofs.Ytkjellhkamfciaa.V.apartP (l : List P3) : Bool := decide ((∀ p ∈ l, bigP p 65536 = false) ∧ l.Nodup)
end Go.Proofs.Ytkjellhkamfciaa.Sx
end
