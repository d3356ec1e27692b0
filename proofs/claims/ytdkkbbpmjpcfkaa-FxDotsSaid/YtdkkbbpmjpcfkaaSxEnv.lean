/- The surroundings of the runs: the program, kinds of elements, slots that are forgotten at loops. -/
import Derived.Test.YtdkkbbpmjpcfkaaSxKit
import Derived.Test.YtdkkbbpmjpcfkaaProg
namespace Go.Proofs.Ytdkkbbpmjpcfkaa.Sx
open Go
def rg (a b : Nat) : List Nat := List.range' a (b + 1 - a)
def junkT : List (FuncId × List Bool × List Nat × List Nat) := [
  (4, [false, true, false, true, true, true, true], [1, 2] ++ rg 7 111, [0, 1] ++ rg 4 111),
  (7, [false, true, false, true, true], [2, 3, 4] ++ rg 7 73, rg 0 3 ++ rg 6 73),
  (10, [false, true, false, true, true, true, true, true, true, true, true], [2, 3, 4] ++ rg 10 74, [2, 3, 4] ++ rg 9 74),
  (20, [false, true, false, true], [1, 2] ++ rg 4 21, [0, 1] ++ rg 3 21),
  (21, [false, true, false, true, true], [0, 1] ++ rg 7 58, [0, 1] ++ rg 6 58),
  (21, [false, true, true, true, false, false, true, false, false, true, false, true, true], [0, 1] ++ rg 9 58, [0, 1] ++ rg 7 58),
  (22, [false, true, false, true, true, true, true, true], [0, 1] ++ rg 6 27, [0, 1] ++ rg 4 27),
  (24, [false, true, false, true, true], [2, 3] ++ rg 7 26, rg 0 3 ++ rg 6 26),
  (34, [false, true, false, true], rg 0 4 ++ rg 8 17, [0, 1] ++ rg 3 17),
  (39, [false, false, true, true, true, true, true, true, true, true, true, true, true, true, true, true, true, true, true, true], [0, 1, 11, 12, 13] ++ rg 3 7 ++ rg 19 134, [0, 1, 16] ++ rg 3 7 ++ rg 9 13 ++ rg 19 134),
  (39, [false, false, true, true, true, true, true, true, true, true, true, true, true, true, true, true], [0, 1, 12] ++ rg 3 7 ++ rg 17 134, [0, 1, 12] ++ rg 3 7 ++ rg 16 134),
  (40, [false, true, false, true], [1, 2] ++ rg 4 21, [0, 1] ++ rg 3 21),
  (42, [false, true, false, true, true, true, true, true], [0, 3, 4, 5] ++ rg 10 76, rg 0 3 ++ rg 9 76),
  (42, [false, true, true, false, false, true, false, false, true, false, true, true, true, true, true], [0, 3, 4, 5] ++ rg 11 76, [0, 3] ++ rg 10 76),
  (43, [false, true, false, true, true], [1, 2, 4] ++ rg 7 45, rg 1 4 ++ rg 6 45),
  (44, [false, true, false, true, true, true, true, true], [0] ++ rg 2 5 ++ rg 8 36, rg 0 5 ++ rg 7 36),
  (47, [false, true, false, true, true], [0, 2, 3, 6, 7] ++ rg 11 24, rg 0 3 ++ rg 6 24),
  (49, [false, true, false, true, true, true, true, true], [0, 1] ++ rg 5 9 ++ rg 13 74, rg 0 3 ++ rg 5 9 ++ rg 11 74),
  (49, [false, true, false, true, true, false, true, false, true], [0, 1] ++ rg 8 74, [5] ++ rg 0 3 ++ rg 7 74),
  (54, [false, true, false, true], [0, 1, 4] ++ rg 6 27, rg 0 3 ++ rg 5 27)]
def zeroT : List (TypeId × List SV) := [(38, [.arr (.int .i64) (List.replicate 8 (0 : Int)) 8]), (39, [.bool false, .arr (.int .i64) (List.replicate 8 (0 : Int)) 8]), (40, [.bool false, .arr (.int .i64) (List.replicate 8 (0 : Int)) 8])]
noncomputable def E : Env := { P := Go.Proofs.Try.prog, L := 0, kind := [(3, .int .i64), (4, .bool), (32, .v3)], junk := junkT, zero := zeroT, add64 := 56, sub64 := 51 }
theorem E_ok : EnvOk E where
  zero := by
    intro T l h
    by_cases h38 : T = 38
    · subst h38
      have : some _ = some l := h
      cases this
      exact ⟨(E.P.info? 38).get (by kernel_rfl), ((E.P.info? 38).bind (·.zero)).get (by kernel_rfl), by kernel_rfl, by kernel_rfl, fun ρ => by kernel_rfl, fun R w ρ n => by simp [SV.okL, SV.ok]⟩
    by_cases h39 : T = 39
    · subst h39
      have : some _ = some l := h
      cases this
      exact ⟨(E.P.info? 39).get (by kernel_rfl), ((E.P.info? 39).bind (·.zero)).get (by kernel_rfl), by kernel_rfl, by kernel_rfl, fun ρ => by kernel_rfl, fun R w ρ n => by simp [SV.okL, SV.ok]⟩
    by_cases h40 : T = 40
    · subst h40
      have : some _ = some l := h
      cases this
      exact ⟨(E.P.info? 40).get (by kernel_rfl), ((E.P.info? 40).bind (·.zero)).get (by kernel_rfl), by kernel_rfl, by kernel_rfl, fun ρ => by kernel_rfl, fun R w ρ n => by simp [SV.okL, SV.ok]⟩
    simp [assoc, E, zeroT, Ne.symm h38, Ne.symm h39, Ne.symm h40] at h
  add := by
    intro f h
    have := Nat.eq_of_beq_eq_true h
    subst this
    exact ⟨Go.Proofs.Try.f56, _, by kernel_rfl, by kernel_rfl, by kernel_rfl, by kernel_rfl, by kernel_rfl, rfl⟩
  sub := by
    intro f h
    have := Nat.eq_of_beq_eq_true h
    subst this
    exact ⟨Go.Proofs.Try.f51, _, by kernel_rfl, by kernel_rfl, by kernel_rfl, by kernel_rfl, by kernel_rfl, rfl⟩
end Go.Proofs.Ytdkkbbpmjpcfkaa.Sx
