/- The surroundings of the runs: the program, kinds of elements, slots that are forgotten at loops. -/
import Derived.Test.YtkjellhkamfciaaSxKit
import Derived.Test.YtkjellhkamfciaaProg
namespace Go.Proofs.Ytkjellhkamfciaa.Sx
open Go
def rg (a b : Nat) : List Nat := List.range' a (b + 1 - a)
def junkT : List (FuncId × List Bool × List Nat × List Nat) := [
  (3, [false, true, false, true, true, true, true, true, true, true, true, true, true], [0, 1, 3, 4, 9, 16] ++ rg 18 113, [0, 1, 3, 4, 7, 9] ++ rg 16 113),
  (3, [false, true, false, true, true, true, true, true, true, true, true, true], [0, 1, 3, 4, 9] ++ rg 17 113, [0, 1, 3, 4, 9] ++ rg 16 113),
  (6, [false, true, false, true, true, true, true, true, true, true, true, true, true, true, true, true], [15] ++ rg 0 6 ++ rg 8 13 ++ rg 17 132, rg 0 3 ++ rg 5 132),
  (6, [false, true, false, true, false, false, true, false, false, true, false, true, true, true, true, true, true, true, true, true, true, true, true, true], [15] ++ rg 0 6 ++ rg 8 13 ++ rg 19 132, [15] ++ rg 0 6 ++ rg 8 13 ++ rg 18 132),
  (6, [false, true, false, true, true, true, true, true, true, true, true, true, true], [0, 8] ++ rg 2 6 ++ rg 12 132, [8] ++ rg 0 6 ++ rg 10 132),
  (9, [false, true, false, true, true, true, true], [5] ++ rg 0 3 ++ rg 7 88, [0, 1, 3] ++ rg 5 88),
  (9, [false, true, true, true, false, false, true, false, false, true, false, true, true, true, true], [5] ++ rg 0 3 ++ rg 9 88, [0, 1, 3, 5] ++ rg 7 88),
  (9, [false, true, true, true, false, false, true, false, false, true, true, true, false, false, true, false, false, true, false, true, true, true, true], [5] ++ rg 0 3 ++ rg 11 88, [0, 1, 3, 5] ++ rg 9 88),
  (13, [false, true, false, false, true, true, true, true, true, false, true, false, true, true, true], [0, 3, 4] ++ rg 6 50 ++ rg 54 106, [0, 1, 3, 4] ++ rg 6 106),
  (13, [false, true, true, false, false, true, true, false, false, true, false, false, true, true, true, true, true, false, true, false, true, true, true], [0, 3, 4, 6] ++ rg 8 50 ++ rg 54 63 ++ rg 67 106, [0, 3, 4] ++ rg 6 50 ++ rg 54 106),
  (14, [false, true, false, false, true, true, true, true, true, false, true, false, true, true, true, true], [0, 3, 4] ++ rg 7 104, [0, 1, 3, 4] ++ rg 6 104),
  (16, [false, true, false, true, true, true, true, true, true, true, true, false, true, true, true, true, true, true], [0, 2, 3, 5, 6, 7] ++ rg 9 15 ++ rg 19 173, [0, 2, 3, 5, 6, 7] ++ rg 9 16 ++ rg 18 173),
  (16, [false, true, false, true, true, true, true, true, false, true, true, true, true, true, true], [0, 3, 5, 7, 9, 10, 11] ++ rg 16 173, [0, 3, 5, 6, 7, 9, 10, 11] ++ rg 15 173),
  (18, [false, true, false, true, true], [2, 3, 4] ++ rg 6 25, rg 0 3 ++ rg 5 25),
  (19, [false, true, false, false, true, false, true, true, true], [0] ++ rg 5 71, [0, 1] ++ rg 4 71),
  (21, [false, false, true, true, true], [0] ++ rg 3 18, [0] ++ rg 3 18),
  (22, [false, false, true, true, true], [0, 1] ++ rg 4 50, [0, 1] ++ rg 4 50),
  (25, [false, true, false, true], rg 1 4 ++ rg 8 21, [0, 1] ++ rg 3 21),
  (26, [false, true, false, true, true, true], [0, 2] ++ rg 5 14 ++ rg 18 35, [0, 2, 3] ++ rg 5 35),
  (27, [false, true, false, true, false, true, true, true, true, true, true, true, false, true, false, true], [0, 2, 3] ++ rg 5 79, [0, 1] ++ rg 3 79),
  (27, [false, true, true, true, false, false, true, false, false, true, false, true, false, true, true, true, true, true, true, true, false, true, false, true], [0, 2, 3, 5] ++ rg 7 79, [0, 3] ++ rg 5 79),
  (28, [false, true, false, true], [1, 2] ++ rg 4 54, [0, 1] ++ rg 3 54),
  (28, [false, true, false, false, true, false, false, true, false, true], [1, 2] ++ rg 5 54, [1] ++ rg 4 54),
  (28, [false, true, false, false, true, false, false, true, false, false, true, false, false, true, false, true], [1, 2] ++ rg 6 54, [1] ++ rg 5 54),
  (28, [false, true, true, false, false, true, false, false, true, false, false, true, false, false, true, false, false, true, false, false, true, false, true], [1, 2] ++ rg 8 54, [1] ++ rg 6 54),
  (30, [false, true, true, true, false], [1] ++ rg 3 15 ++ rg 18 169, rg 0 169),
  (30, [false, true, true, false, false, true, true, false, false, true, true, true, false], [1] ++ rg 5 15 ++ rg 18 169, [1] ++ rg 3 15 ++ rg 18 169),
  (30, [false, true, true, false, false, false, true, false, false, true, true, false, false, true, true, false, false, true, true, true, false], [1] ++ rg 6 15 ++ rg 18 169, [1] ++ rg 5 15 ++ rg 18 169),
  (30, [false, true, true, true, true, true, true, false, false, false, false, true, true, false, false, false, true, false, false, true, true, false, false, true, true, false, false, true, true, true, false], [1] ++ rg 6 15 ++ rg 18 131 ++ rg 135 169, [1] ++ rg 6 15 ++ rg 18 169),
  (31, [false, true, false, true, true, true], [1, 2, 3] ++ rg 7 139, rg 0 3 ++ rg 6 139),
  (31, [false, true, false, false, true, false, false, true, false, true, true, true], [1, 2, 3] ++ rg 8 139, [1, 2, 3] ++ rg 7 139),
  (31, [false, true, false, false, true, false, false, true, false, false, true, false, false, true, false, true, true, true], [1, 2, 3] ++ rg 9 139, [1, 2, 3] ++ rg 8 139),
  (31, [false, true, true, true, true, true, true, true, true, false, false, true, false, false, true, false, false, true, false, false, true, false, false, true, false, false, true, false, true, true, true], [1, 2, 3] ++ rg 9 12 ++ rg 15 139, [1, 2, 3] ++ rg 9 139),
  (35, [false, true, false, true, true], [0, 3, 4] ++ rg 7 21 ++ rg 25 46, [0, 1, 3, 4] ++ rg 7 46),
  (42, [false, true, false, true, true, true], [2, 3, 4] ++ rg 8 38, [0, 2, 3, 4] ++ rg 7 38),
  (48, [false, true, false, true, true, true], [0] ++ rg 6 51, [0] ++ rg 4 51),
  (48, [false, false, true, true, false, false, true, false, false, true, false, true, true, true], [0, 3] ++ rg 8 51, [0, 3] ++ rg 7 51),
  (60, [false, true, false, true, true], [6, 9, 10, 11] ++ rg 0 3 ++ rg 15 35, rg 0 6 ++ rg 9 35),
  (61, [false, true, false, true, true, true], [1, 2, 3, 6] ++ rg 10 34, rg 0 6 ++ rg 9 34),
  (62, [false, true, false, true], [1, 3, 5, 6] ++ rg 8 39, rg 0 5 ++ rg 7 39),
  (63, [false, true, false, true], rg 0 4 ++ rg 8 17, [0, 1] ++ rg 3 17),
  (69, [false, false, true, true, true, true, true, true, true, true, true, true, true, true, true, true, true, true, true, true], [0, 1, 11, 12, 13] ++ rg 3 7 ++ rg 19 134, [0, 1, 16] ++ rg 3 7 ++ rg 9 13 ++ rg 19 134),
  (69, [false, false, true, true, true, true, true, true, true, true, true, true, true, true, true, true], [0, 1, 12] ++ rg 3 7 ++ rg 17 134, [0, 1, 12] ++ rg 3 7 ++ rg 16 134),
  (71, [false, true, false, true], [1, 2] ++ rg 4 21, [0, 1] ++ rg 3 21),
  (73, [false, true, false, true, true, true, true, true], [0, 3, 4, 5] ++ rg 10 76, rg 0 3 ++ rg 9 76),
  (73, [false, true, true, false, false, true, false, false, true, false, true, true, true, true, true], [0, 3, 4, 5] ++ rg 11 76, [0, 3] ++ rg 10 76),
  (74, [false, true, false, true, true], [0, 1] ++ rg 7 58, [0, 1] ++ rg 6 58),
  (74, [false, true, true, true, false, false, true, false, false, true, false, true, true], [0, 1] ++ rg 9 58, [0, 1] ++ rg 7 58),
  (75, [false, true, false, true, true, true, true, true], [0, 1] ++ rg 6 27, [0, 1] ++ rg 4 27),
  (76, [false, false, true], rg 2 14, rg 1 14),
  (77, [false, true, false, true], [1, 2, 4, 5, 6] ++ rg 9 18, rg 0 3 ++ rg 5 18),
  (78, [false, true, false, true], rg 2 6 ++ rg 9 18, rg 0 3 ++ rg 5 18)]
def zeroT : List (TypeId × List SV) := [(94, [.arr (.int .i64) (List.replicate 8 (0 : Int)) 8]), (95, [.bool false, .arr (.int .i64) (List.replicate 8 (0 : Int)) 8]), (96, [.bool false, .arr (.int .i64) (List.replicate 8 (0 : Int)) 8])]
noncomputable def E : Env := { P := Go.Proofs.Try.prog, L := 0, kind := [(3, .int .i64), (4, .bool), (22, .st (.i .i64) [.i .i64, .i .i64]), (23, .st (.i .i64) [.i .i64, .i .i64]), (61, .st (.b) []), (62, .st (.b) []), (84, .st (.i .u64) [.i .u64]), (85, .st (.i .u64) [.i .u64])], junk := junkT, zero := zeroT, fresh := [30], noNil := false, add64 := 1000000, sub64 := 81 }
theorem E_ok : EnvOk E where
  zero := by
    intro T l h
    by_cases h94 : T = 94
    · subst h94
      have : some _ = some l := h
      cases this
      exact ⟨(E.P.info? 94).get (by kernel_rfl), ((E.P.info? 94).bind (·.zero)).get (by kernel_rfl), by kernel_rfl, by kernel_rfl, fun ρ => by kernel_rfl, fun R w ρ n => by simp [SV.okL, SV.ok]⟩
    by_cases h95 : T = 95
    · subst h95
      have : some _ = some l := h
      cases this
      exact ⟨(E.P.info? 95).get (by kernel_rfl), ((E.P.info? 95).bind (·.zero)).get (by kernel_rfl), by kernel_rfl, by kernel_rfl, fun ρ => by kernel_rfl, fun R w ρ n => by simp [SV.okL, SV.ok]⟩
    by_cases h96 : T = 96
    · subst h96
      have : some _ = some l := h
      cases this
      exact ⟨(E.P.info? 96).get (by kernel_rfl), ((E.P.info? 96).bind (·.zero)).get (by kernel_rfl), by kernel_rfl, by kernel_rfl, fun ρ => by kernel_rfl, fun R w ρ n => by simp [SV.okL, SV.ok]⟩
    simp [assoc, E, zeroT, Ne.symm h94, Ne.symm h95, Ne.symm h96] at h
  add := by
    intro f h1 h
    have := Nat.eq_of_beq_eq_true h
    subst this
    have h2 : (E.P.funcs[1000000]?).isSome = false := by kernel_rfl
    exact absurd (h1.symm.trans h2) (by decide)
  sub := by
    intro f h1 h
    have := Nat.eq_of_beq_eq_true h
    subst this
    exact ⟨Go.Proofs.Try.f81, _, by kernel_rfl, by kernel_rfl, by kernel_rfl, by kernel_rfl, by kernel_rfl, rfl⟩
end Go.Proofs.Ytkjellhkamfciaa.Sx
