/- The surroundings of the runs: the program, kinds of elements, slots that are forgotten at loops. -/
import Derived.Test.YtmcifgaaojgheaaSxKit
import Derived.Test.YtmcifgaaojgheaaProg
namespace Go.Proofs.Ytmcifgaaojgheaa.Sx
open Go
def rg (a b : Nat) : List Nat := List.range' a (b + 1 - a)
def junkT : List (FuncId × List Bool × List Nat × List Nat) := [
  (3, [false, true, false, true, true, true, true, true, true, true], [0, 1, 3, 4, 7, 8] ++ rg 11 69, [0, 1, 3] ++ rg 7 69),
  (4, [false, true, false, true, true, true, true, true, true, true], [0, 2, 4] ++ rg 9 94, [0, 1, 4] ++ rg 6 94),
  (5, [false, true, false, true, true, true, true, true, true, true], [8, 9, 10] ++ rg 0 6 ++ rg 13 70, rg 0 5 ++ rg 8 70),
  (8, [false, true, false, true, true], [0, 1, 6, 7, 8] ++ rg 11 109, rg 0 7 ++ rg 10 109),
  (9, [false, true, false, true, true], [8] ++ rg 0 3 ++ rg 11 136, [5] ++ rg 0 3 ++ rg 10 136),
  (55, [false, true, false, true], rg 0 4 ++ rg 8 17, [0, 1] ++ rg 3 17),
  (57, [false, true, false, true, true], [1, 2, 4] ++ rg 7 45, rg 1 4 ++ rg 6 45),
  (58, [false, true, false, true, true], [0, 2, 3, 6, 7] ++ rg 11 24, rg 0 3 ++ rg 6 24),
  (82, [false, true, false, true], [1, 2] ++ rg 4 21, [0, 1] ++ rg 3 21),
  (85, [false, true, false, true, true, true, true, true], [0, 3, 4, 5] ++ rg 10 76, rg 0 3 ++ rg 9 76),
  (85, [false, true, true, false, false, true, false, false, true, false, true, true, true, true, true], [0, 3, 4, 5] ++ rg 11 76, [0, 3] ++ rg 10 76),
  (86, [false, true, false, true, true], [2, 3] ++ rg 7 26, rg 0 3 ++ rg 6 26),
  (87, [false, true, false, true, true, true, true, true], [0] ++ rg 2 5 ++ rg 8 36, rg 0 5 ++ rg 7 36),
  (90, [false, false, true, true, true, true, true, true, true, true, true, true, true, true, true, true, true, true, true, true], [0, 1, 11, 12, 13] ++ rg 3 7 ++ rg 19 134, [0, 1, 16] ++ rg 3 7 ++ rg 9 13 ++ rg 19 134),
  (90, [false, false, true, true, true, true, true, true, true, true, true, true, true, true, true, true], [0, 1, 12] ++ rg 3 7 ++ rg 17 134, [0, 1, 12] ++ rg 3 7 ++ rg 16 134),
  (92, [false, true, false, true, true], [0, 1] ++ rg 7 58, [0, 1] ++ rg 6 58),
  (92, [false, true, true, true, false, false, true, false, false, true, false, true, true], [0, 1] ++ rg 9 58, [0, 1] ++ rg 7 58),
  (93, [false, true, false, true, true, true, true, true], [0, 1] ++ rg 6 27, [0, 1] ++ rg 4 27),
  (94, [false, true, false, true, true, true, true, true], [0, 1] ++ rg 5 9 ++ rg 13 74, rg 0 3 ++ rg 5 9 ++ rg 11 74),
  (94, [false, true, false, true, true, false, true, false, true], [0, 1] ++ rg 8 74, [5] ++ rg 0 3 ++ rg 7 74),
  (98, [false, true, false, true], [0, 1, 4] ++ rg 6 27, rg 0 3 ++ rg 5 27)]
def zeroT : List (TypeId × List SV) := [(99, [.arr (.int .i64) (List.replicate 8 (0 : Int)) 8]), (100, [.bool false, .arr (.int .i64) (List.replicate 8 (0 : Int)) 8]), (101, [.bool false, .arr (.int .i64) (List.replicate 8 (0 : Int)) 8])]
noncomputable def E : Env := { P := Go.Proofs.Try.prog, L := 0, kind := [(3, .int .i64), (4, .bool), (22, .st (.i .i64) [.i .i64, .i .i64]), (23, .st (.i .i64) [.i .i64, .i .i64]), (26, .st (.b) []), (27, .st (.b) []), (32, .st (.i .i64) [.i .i64, .i .i64, .i .i64]), (33, .st (.i .i64) [.i .i64, .i .i64, .i .i64]), (36, .st (.i .i64) [.i .i64, .i .i64, .i .i64, .i .i64, .i .i64, .i .i64, .i .i64, .i .i64]), (82, .st (.i .u64) [.i .u64]), (83, .st (.i .u64) [.i .u64])], junk := junkT, zero := zeroT, add64 := 91, sub64 := 96 }
theorem E_ok : EnvOk E where
  zero := by
    intro T l h
    by_cases h99 : T = 99
    · subst h99
      have : some _ = some l := h
      cases this
      exact ⟨(E.P.info? 99).get (by kernel_rfl), ((E.P.info? 99).bind (·.zero)).get (by kernel_rfl), by kernel_rfl, by kernel_rfl, fun ρ => by kernel_rfl, fun R w ρ n => by simp [SV.okL, SV.ok]⟩
    by_cases h100 : T = 100
    · subst h100
      have : some _ = some l := h
      cases this
      exact ⟨(E.P.info? 100).get (by kernel_rfl), ((E.P.info? 100).bind (·.zero)).get (by kernel_rfl), by kernel_rfl, by kernel_rfl, fun ρ => by kernel_rfl, fun R w ρ n => by simp [SV.okL, SV.ok]⟩
    by_cases h101 : T = 101
    · subst h101
      have : some _ = some l := h
      cases this
      exact ⟨(E.P.info? 101).get (by kernel_rfl), ((E.P.info? 101).bind (·.zero)).get (by kernel_rfl), by kernel_rfl, by kernel_rfl, fun ρ => by kernel_rfl, fun R w ρ n => by simp [SV.okL, SV.ok]⟩
    simp [assoc, E, zeroT, Ne.symm h99, Ne.symm h100, Ne.symm h101] at h
  add := by
    intro f h
    have := Nat.eq_of_beq_eq_true h
    subst this
    exact ⟨Go.Proofs.Try.f91, _, by kernel_rfl, by kernel_rfl, by kernel_rfl, by kernel_rfl, by kernel_rfl, rfl⟩
  sub := by
    intro f h
    have := Nat.eq_of_beq_eq_true h
    subst this
    exact ⟨Go.Proofs.Try.f96, _, by kernel_rfl, by kernel_rfl, by kernel_rfl, by kernel_rfl, by kernel_rfl, rfl⟩
end Go.Proofs.Ytmcifgaaojgheaa.Sx
