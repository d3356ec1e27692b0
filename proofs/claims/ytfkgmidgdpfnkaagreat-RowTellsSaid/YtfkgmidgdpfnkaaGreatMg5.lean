/- Texts of the walk, merged. -/
import Derived.Test.YtfkgmidgdpfnkaaGreatMg4
import Derived.Test.YtfkgmidgdpfnkaaGreatProg
import Derived.IntWalk
set_option linter.unusedVariables false
set_option linter.unusedSimpArgs false
namespace Go.Proofs.YtfkgmidgdpfnkaaGreat.Sx
section
open Go
def rg (a b:Nat):List Nat := List.range' a (b + 1 - a)
def junkT0:List (FuncId × List Bool × List Nat × List Nat) := [
 (3,[false,true,false,true,true,true,true,true,true,true,true,true],[0] ++ rg 3 6 ++ rg 12 24 ++ rg 26 206,rg 0 5 ++ rg 8 206),
 (3,[false,true,false,true,true,true,true,true,true,true,true],[0] ++ rg 3 6 ++ rg 13 206,[0,3,4,5] ++ rg 12 206),
 (4,[false,true,false,true,true,true,true],[0,2,3,4] ++ rg 8 36,rg 0 4 ++ rg 7 36),
 (5,[false,true,false,true,true,true,true,true,true,true,true,true],[0,1,11,12] ++ rg 3 8 ++ rg 15 185,rg 0 5 ++ rg 7 185),
 (5,[false,true,true,true,true,true,true,true,false,false,true,false,false,true,false,true,true,true,true,true,true,true,true,true],[0,1,11,12,16,18,19] ++ rg 3 8 ++ rg 21 185,[0,1,3,4,5,7,8,11,12] ++ rg 15 185),
 (5,[false,true,false,true,true,true,true,true,true,true],[0] ++ rg 3 8 ++ rg 12 185,[0,1] ++ rg 3 8 ++ rg 11 185),
 (5,[false,true,false,true,true,true],rg 3 6 ++ rg 9 185,rg 3 6 ++ rg 8 185),
 (6,[false,true,false,true,true,true,true,true,true,true,true,true,true,true,true,true],[9] ++ rg 0 5 ++ rg 12 87,[9] ++ rg 0 5 ++ rg 11 87),
 (7,[false,true,false,true,true,true],[1,2,4] ++ rg 7 170,[1,2,4] ++ rg 6 170),
 (11,[false,true,false,true,true],[1,2,3,5,6] ++ rg 8 11 ++ rg 14 24,rg 0 6 ++ rg 8 24),
 (17,[false,true,true,true,true,true,true,true,true,true,true,true,true,true],rg 0 10 ++ rg 12 76 ++ rg 79 88,rg 0 88),
 (17,[false,true,false,true,true,true,true,true],rg 4 7 ++ rg 12 32 ++ rg 35 88,rg 4 7 ++ rg 12 88),
 (19,[false,true,false,true,true,true],[0,1] ++ rg 4 9 ++ rg 11 53,rg 0 7 ++ rg 9 53),
 (19,[false,true,false,true,true],rg 4 8 ++ rg 10 53,[0,1] ++ rg 4 7 ++ rg 9 53),
 (20,[false,true,false,true,true],[1,2] ++ rg 5 23,[0,1,2] ++ rg 4 23),
 (23,[false,true,false,true,true],[1] ++ rg 5 39,[0,1] ++ rg 4 39),
 (53,[false,true,false,true,true],[2,3,4] ++ rg 6 25,rg 0 3 ++ rg 5 25),
 (75,[false,true,false,true],rg 0 4 ++ rg 8 17,[0,1] ++ rg 3 17),
 (79,[false,true,false,true],[1,2] ++ rg 4 21,[0,1] ++ rg 3 21),
 (88,[false,true,false,false,true,false,true,true,true],[0] ++ rg 5 71,[0,1] ++ rg 4 71)]
def junkT1:List (FuncId × List Bool × List Nat × List Nat) := [
 (90,[false,true,false,true,true,true,true,true,true,true,true,false,true,true,true,true,true,true],[0,2,3,5,6,7] ++ rg 9 15 ++ rg 19 173,[0,2,3,5,6,7] ++ rg 9 16 ++ rg 18 173),
 (90,[false,true,false,true,true,true,true,true,false,true,true,true,true,true,true],[0,3,5,7,9,10,11] ++ rg 16 173,[0,3,5,6,7,9,10,11] ++ rg 15 173),
 (93,[false,false,true,true,true,true,true,true],[1,2,5] ++ rg 9 59,[1,2,5] ++ rg 9 59),
 (93,[false,false,true,true,true,true,true],[1,2,5] ++ rg 9 59,[1,2,5] ++ rg 9 59),
 (101,[false,true,false,true,true],[0,2,3,6,7] ++ rg 11 24,rg 0 3 ++ rg 6 24),
 (102,[false,true,false,true,true,true,true,true],[0,3,4,5] ++ rg 10 76,rg 0 3 ++ rg 9 76),
 (102,[false,true,true,false,false,true,false,false,true,false,true,true,true,true,true],[0,3,4,5] ++ rg 11 76,[0,3] ++ rg 10 76),
 (103,[false,true,false,true,true],[2,3] ++ rg 7 26,rg 0 3 ++ rg 6 26),
 (112,[false,true,false,true,true],[0,1] ++ rg 7 58,[0,1] ++ rg 6 58),
 (112,[false,true,true,true,false,false,true,false,false,true,false,true,true],[0,1] ++ rg 9 58,[0,1] ++ rg 7 58),
 (113,[false,true,false,true,true,true,true,true],[0,1] ++ rg 6 27,[0,1] ++ rg 4 27),
 (116,[false,false,true,true,true,true,true,true,true,true,true,true,true,true,true,true,true,true,true,true],[0,1,11,12,13] ++ rg 3 7 ++ rg 19 134,[0,1,16] ++ rg 3 7 ++ rg 9 13 ++ rg 19 134),
 (116,[false,false,true,true,true,true,true,true,true,true,true,true,true,true,true,true],[0,1,12] ++ rg 3 7 ++ rg 17 134,[0,1,12] ++ rg 3 7 ++ rg 16 134),
 (122,[false,true,false,false,true,true,true,true,true,false,true,false,true,true,true,true],[0,3,4] ++ rg 7 104,[0,1,3,4] ++ rg 6 104),
 (123,[false,true,false,true,true,true],[2,3,4] ++ rg 8 38,[0,2,3,4] ++ rg 7 38),
 (129,[false,true,false,true,true,true,true,true],[0] ++ rg 2 5 ++ rg 8 36,rg 0 5 ++ rg 7 36),
 (131,[false,true,false,true,true,true,true,true],[0,1] ++ rg 5 9 ++ rg 13 74,rg 0 3 ++ rg 5 9 ++ rg 11 74),
 (131,[false,true,false,true,true,false,true,false,true],[0,1] ++ rg 8 74,[5] ++ rg 0 3 ++ rg 7 74),
 (137,[false,true,false,true,false,true,true,true,true,true,true,true,false,true,false,true],[0,2,3] ++ rg 5 79,[0,1] ++ rg 3 79),
 (137,[false,true,true,true,false,false,true,false,false,true,false,true,false,true,true,true,true,true,true,true,false,true,false,true],[0,2,3,5] ++ rg 7 79,[0,3] ++ rg 5 79)]
def junkT2:List (FuncId × List Bool × List Nat × List Nat) := [
 (138,[false,true,false,true],[1,2] ++ rg 4 54,[0,1] ++ rg 3 54),
 (138,[false,true,false,false,true,false,false,true,false,true],[1,2] ++ rg 5 54,[1] ++ rg 4 54),
 (138,[false,true,false,false,true,false,false,true,false,false,true,false,false,true,false,true],[1,2] ++ rg 6 54,[1] ++ rg 5 54),
 (138,[false,true,true,false,false,true,false,false,true,false,false,true,false,false,true,false,false,true,false,false,true,false,true],[1,2] ++ rg 8 54,[1] ++ rg 6 54),
 (139,[false,true,false,true,true,true],[1,2,3] ++ rg 7 139,rg 0 3 ++ rg 6 139),
 (139,[false,true,false,false,true,false,false,true,false,true,true,true],[1,2,3] ++ rg 8 139,[1,2,3] ++ rg 7 139),
 (139,[false,true,false,false,true,false,false,true,false,false,true,false,false,true,false,true,true,true],[1,2,3] ++ rg 9 139,[1,2,3] ++ rg 8 139),
 (139,[false,true,true,true,true,true,true,true,true,false,false,true,false,false,true,false,false,true,false,false,true,false,false,true,false,false,true,false,true,true,true],[1,2,3] ++ rg 9 12 ++ rg 15 139,[1,2,3] ++ rg 9 139),
 (143,[false,true,false,true],[0,1,4] ++ rg 6 27,rg 0 3 ++ rg 5 27),
 (150,[false,true,false,true,true,true],[1,2,3,6] ++ rg 10 34,rg 0 6 ++ rg 9 34),
 (151,[false,false,true,true,true],[0,1] ++ rg 4 50,[0,1] ++ rg 4 50),
 (152,[false,true,false,true],[1,3,5,6] ++ rg 8 39,rg 0 5 ++ rg 7 39),
 (155,[false,true,false,true,true,true],[0] ++ rg 6 51,[0] ++ rg 4 51),
 (155,[false,false,true,true,false,false,true,false,false,true,false,true,true,true],[0,3] ++ rg 8 51,[0,3] ++ rg 7 51)]
def junkT:List (FuncId × List Bool × List Nat × List Nat) := junkT0 ++ (junkT1 ++ (junkT2))
def zeroT:List (TypeId × List SV) := [(33,[.int .i64 0,.int .i64 0,.int .i64 0,.int .i64 0,.int .i64 0,.int .i64 0,.int .i64 0,.int .i64 0,.int .i64 0,.int .i64 0,.int .i64 0,.bool false,.int .i64 0,.int .i64 0,.int .i64 0,.int .i64 0,.int .i64 0,.int .i64 0]),(34,[.int .i64 0,.int .i64 0,.int .i64 0,.int .i64 0,.int .i64 0,.int .i64 0,.int .i64 0,.int .i64 0,.int .i64 0,.int .i64 0,.int .i64 0,.bool false,.int .i64 0,.int .i64 0,.int .i64 0,.int .i64 0,.int .i64 0,.int .i64 0]),(51,[.int .i64 0,.int .i64 0,.int .i64 0,.int .i64 0,.int .i64 0,.raw (.slice none 0 0)]),(52,[.int .i64 0,.int .i64 0,.int .i64 0,.int .i64 0,.int .i64 0,.raw (.slice none 0 0)]),(55,[.int .i64 0,.int .i64 0,.int .i64 0,.int .i64 0,.int .i64 0,.int .i64 0,.int .i64 0]),(56,[.int .i64 0,.int .i64 0,.int .i64 0,.int .i64 0,.int .i64 0,.int .i64 0,.int .i64 0]),(57,[.int .i64 0,.int .i64 0,.int .i64 0,.int .i64 0,.int .i64 0,.raw (.slice none 0 0),.int .i64 0,.int .i64 0,.int .i64 0,.int .i64 0,.int .i64 0,.int .i64 0,.int .i64 0,.int .i64 0,.int .i64 0,.int .i64 0,.int .i64 0,.int .i64 0,.int .i64 0,.int .i64 0,.int .i64 0,.bool false,.bool false,.int .i64 0,.int .i64 0]),(58,[.int .i64 0,.int .i64 0,.int .i64 0,.int .i64 0,.int .i64 0,.raw (.slice none 0 0),.int .i64 0,.int .i64 0,.int .i64 0,.int .i64 0,.int .i64 0,.int .i64 0,.int .i64 0,.int .i64 0,.int .i64 0,.int .i64 0,.int .i64 0,.int .i64 0,.int .i64 0,.int .i64 0,.int .i64 0,.bool false,.bool false,.int .i64 0,.int .i64 0]),(62,[.int .i64 0,.int .i64 0,.int .i64 0,.int .i64 0,.int .i64 0,.int .i64 0,.int .i64 0]),(65,[.int .i64 0,.int .i64 0,.int .i64 0,.int .i64 0,.int .i64 0,.raw (.slice none 0 0)]),(66,[.int .i64 0,.int .i64 0,.int .i64 0,.int .i64 0,.int .i64 0,.int .i64 0,.int .i64 0,.int .i64 0,.int .i64 0,.int .i64 0,.int .i64 0,.int .i64 0,.int .i64 0,.int .i64 0,.int .i64 0,.int .i64 0,.int .i64 0,.int .i64 0,.int .i64 0,.int .i64 0,.int .i64 0,.int .i64 0,.int .i64 0,.raw (.slice none 0 0),.int .i64 0,.int .i64 0,.int .i64 0,.bool false,.int .i64 0,.bool false,.bool false]),(67,[.int .i64 0,.int .i64 0,.int .i64 0,.int .i64 0,.int .i64 0,.int .i64 0,.int .i64 0,.int .i64 0,.int .i64 0,.int .i64 0,.int .i64 0,.int .i64 0,.int .i64 0,.int .i64 0,.int .i64 0,.int .i64 0,.int .i64 0,.int .i64 0,.int .i64 0,.int .i64 0,.int .i64 0,.int .i64 0,.int .i64 0,.raw (.slice none 0 0),.int .i64 0,.int .i64 0,.int .i64 0,.bool false,.int .i64 0,.bool false,.bool false]),(87,[.int .i64 0,.int .i64 0,.int .i64 0,.int .i64 0,.int .i64 0,.int .i64 0,.int .i64 0,.int .i64 0,.int .i64 0,.int .i64 0,.int .i64 0,.int .i64 0,.int .i64 0,.int .i64 0,.int .i64 0,.int .i64 0,.int .i64 0,.int .i64 0,.int .i64 0,.int .i64 0,.int .i64 0,.int .i64 0,.int .i64 0,.raw (.slice none 0 0),.int .i64 0,.int .i64 0,.int .i64 0,.bool false,.int .i64 0,.bool false,.bool false,.int .i64 0,.int .i64 0,.int .i64 0,.int .i64 0,.int .i64 0,.int .i64 0,.int .i64 0,.int .i64 0,.int .i64 0,.int .i64 0,.int .i64 0,.int .i64 0,.int .i64 0,.int .i64 0,.int .i64 0,.int .i64 0,.int .i64 0,.int .i64 0,.int .i64 0,.int .i64 0,.int .i64 0,.int .i64 0,.int .i64 0,.raw (.slice none 0 0),.int .i64 0,.int .i64 0,.int .i64 0,.bool false,.int .i64 0,.bool false,.bool false]),(136,[.arr (.int .i64) (List.replicate 8 (0:Int)) 8]),(137,[.bool false,.arr (.int .i64) (List.replicate 8 (0:Int)) 8]),(138,[.bool false,.arr (.int .i64) (List.replicate 8 (0:Int)) 8]),(140,[.int .i64 0,.int .i64 0,.int .i64 0,.int .i64 0,.int .i64 0,.int .i64 0,.int .i64 0,.int .i64 0,.int .i64 0])]
noncomputable def E:Env := { P := Go.Proofs.Tryz.prog,L := 0,kind := [(3,.int .i64),(4,.bool),(26,.st (.b) []),(27,.st (.b) []),(29,.st (.b) []),(31,.st (.i .i64) [.i .i64,.i .i64]),(32,.st (.i .i64) [.i .i64,.i .i64]),(33,.st (.i .i64) [.i .i64,.i .i64,.i .i64,.i .i64,.i .i64,.i .i64,.i .i64,.i .i64,.i .i64,.i .i64,.b,.i .i64,.i .i64,.i .i64,.i .i64,.i .i64,.i .i64]),(34,.st (.i .i64) [.i .i64,.i .i64,.i .i64,.i .i64,.i .i64,.i .i64,.i .i64,.i .i64,.i .i64,.i .i64,.b,.i .i64,.i .i64,.i .i64,.i .i64,.i .i64,.i .i64]),(49,.st (.i .i64) [.i .i64,.i .i64]),(53,.st (.i .i64) [.i .i64,.i .i64,.i .i64]),(54,.st (.i .i64) [.i .i64,.i .i64,.i .i64]),(55,.st (.i .i64) [.i .i64,.i .i64,.i .i64,.i .i64,.i .i64,.i .i64]),(56,.st (.i .i64) [.i .i64,.i .i64,.i .i64,.i .i64,.i .i64,.i .i64]),(58,.st (.i .i64) [.i .i64,.i .i64,.i .i64,.i .i64,.p,.i .i64,.i .i64,.i .i64,.i .i64,.i .i64,.i .i64,.i .i64,.i .i64,.i .i64,.i .i64,.i .i64,.i .i64,.i .i64,.i .i64,.i .i64,.b,.b,.i .i64,.i .i64]),(62,.st (.i .i64) [.i .i64,.i .i64,.i .i64,.i .i64,.i .i64,.i .i64]),(63,.st (.i .i64) [.i .i64,.i .i64,.i .i64]),(64,.st (.i .i64) [.i .i64,.i .i64,.i .i64]),(67,.st (.i .i64) [.i .i64,.i .i64,.i .i64,.i .i64,.i .i64,.i .i64,.i .i64,.i .i64,.i .i64,.i .i64,.i .i64,.i .i64,.i .i64,.i .i64,.i .i64,.i .i64,.i .i64,.i .i64,.i .i64,.i .i64,.i .i64,.i .i64,.p,.i .i64,.i .i64,.i .i64,.b,.i .i64,.b,.b]),(116,.st (.i .u64) [.i .u64]),(117,.st (.i .u64) [.i .u64]),(140,.st (.i .i64) [.i .i64,.i .i64,.i .i64,.i .i64,.i .i64,.i .i64,.i .i64,.i .i64])],junk := junkT,zero := zeroT,fresh := [],noNil := false,keep := [58,67],wide := [15,17,18,71,73,74,75,87,127,154,155,156,171,185,186,197,198],unrl := [11,17],add64 := 142,sub64 := 135 }
theorem E_ok:EnvOk E where
 prog := rfl
 zero := by
   intro T l h
   by_cases h33:T = 33
   · subst h33
     have:some _ = some l := h
     cases this
     exact ⟨(E.P.info? 33).get (by kernel_rfl),((E.P.info? 33).bind (·.zero)).get (by kernel_rfl),by kernel_rfl,by kernel_rfl,fun ρ => by kernel_rfl,fun R w ρ n => by simp [SV.okL,SV.ok]; try (first | exact inOk_noP _ _ rfl | (refine ⟨?_,?_⟩ <;> exact inOk_noP _ _ rfl))⟩
   by_cases h34:T = 34
   · subst h34
     have:some _ = some l := h
     cases this
     exact ⟨(E.P.info? 34).get (by kernel_rfl),((E.P.info? 34).bind (·.zero)).get (by kernel_rfl),by kernel_rfl,by kernel_rfl,fun ρ => by kernel_rfl,fun R w ρ n => by simp [SV.okL,SV.ok]; try (first | exact inOk_noP _ _ rfl | (refine ⟨?_,?_⟩ <;> exact inOk_noP _ _ rfl))⟩
   by_cases h51:T = 51
   · subst h51
     have:some _ = some l := h
     cases this
     exact ⟨(E.P.info? 51).get (by kernel_rfl),((E.P.info? 51).bind (·.zero)).get (by kernel_rfl),by kernel_rfl,by kernel_rfl,fun ρ => by kernel_rfl,fun R w ρ n => by simp [SV.okL,SV.ok]; try (first | exact inOk_noP _ _ rfl | (refine ⟨?_,?_⟩ <;> exact inOk_noP _ _ rfl))⟩
   by_cases h52:T = 52
   · subst h52
     have:some _ = some l := h
     cases this
     exact ⟨(E.P.info? 52).get (by kernel_rfl),((E.P.info? 52).bind (·.zero)).get (by kernel_rfl),by kernel_rfl,by kernel_rfl,fun ρ => by kernel_rfl,fun R w ρ n => by simp [SV.okL,SV.ok]; try (first | exact inOk_noP _ _ rfl | (refine ⟨?_,?_⟩ <;> exact inOk_noP _ _ rfl))⟩
   by_cases h55:T = 55
   · subst h55
     have:some _ = some l := h
     cases this
     exact ⟨(E.P.info? 55).get (by kernel_rfl),((E.P.info? 55).bind (·.zero)).get (by kernel_rfl),by kernel_rfl,by kernel_rfl,fun ρ => by kernel_rfl,fun R w ρ n => by simp [SV.okL,SV.ok]; try (first | exact inOk_noP _ _ rfl | (refine ⟨?_,?_⟩ <;> exact inOk_noP _ _ rfl))⟩
   by_cases h56:T = 56
   · subst h56
     have:some _ = some l := h
     cases this
     exact ⟨(E.P.info? 56).get (by kernel_rfl),((E.P.info? 56).bind (·.zero)).get (by kernel_rfl),by kernel_rfl,by kernel_rfl,fun ρ => by kernel_rfl,fun R w ρ n => by simp [SV.okL,SV.ok]; try (first | exact inOk_noP _ _ rfl | (refine ⟨?_,?_⟩ <;> exact inOk_noP _ _ rfl))⟩
   by_cases h57:T = 57
   · subst h57
     have:some _ = some l := h
     cases this
     exact ⟨(E.P.info? 57).get (by kernel_rfl),((E.P.info? 57).bind (·.zero)).get (by kernel_rfl),by kernel_rfl,by kernel_rfl,fun ρ => by kernel_rfl,fun R w ρ n => by simp [SV.okL,SV.ok]; try (first | exact inOk_noP _ _ rfl | (refine ⟨?_,?_⟩ <;> exact inOk_noP _ _ rfl))⟩
   by_cases h58:T = 58
   · subst h58
     have:some _ = some l := h
     cases this
     exact ⟨(E.P.info? 58).get (by kernel_rfl),((E.P.info? 58).bind (·.zero)).get (by kernel_rfl),by kernel_rfl,by kernel_rfl,fun ρ => by kernel_rfl,fun R w ρ n => by simp [SV.okL,SV.ok]; try (first | exact inOk_noP _ _ rfl | (refine ⟨?_,?_⟩ <;> exact inOk_noP _ _ rfl))⟩
   by_cases h62:T = 62
   · subst h62
     have:some _ = some l := h
     cases this
     exact ⟨(E.P.info? 62).get (by kernel_rfl),((E.P.info? 62).bind (·.zero)).get (by kernel_rfl),by kernel_rfl,by kernel_rfl,fun ρ => by kernel_rfl,fun R w ρ n => by simp [SV.okL,SV.ok]; try (first | exact inOk_noP _ _ rfl | (refine ⟨?_,?_⟩ <;> exact inOk_noP _ _ rfl))⟩
   by_cases h65:T = 65
   · subst h65
     have:some _ = some l := h
     cases this
     exact ⟨(E.P.info? 65).get (by kernel_rfl),((E.P.info? 65).bind (·.zero)).get (by kernel_rfl),by kernel_rfl,by kernel_rfl,fun ρ => by kernel_rfl,fun R w ρ n => by simp [SV.okL,SV.ok]; try (first | exact inOk_noP _ _ rfl | (refine ⟨?_,?_⟩ <;> exact inOk_noP _ _ rfl))⟩
   by_cases h66:T = 66
   · subst h66
     have:some _ = some l := h
     cases this
     exact ⟨(E.P.info? 66).get (by kernel_rfl),((E.P.info? 66).bind (·.zero)).get (by kernel_rfl),by kernel_rfl,by kernel_rfl,fun ρ => by kernel_rfl,fun R w ρ n => by simp [SV.okL,SV.ok]; try (first | exact inOk_noP _ _ rfl | (refine ⟨?_,?_⟩ <;> exact inOk_noP _ _ rfl))⟩
   by_cases h67:T = 67
   · subst h67
     have:some _ = some l := h
     cases this
     exact ⟨(E.P.info? 67).get (by kernel_rfl),((E.P.info? 67).bind (·.zero)).get (by kernel_rfl),by kernel_rfl,by kernel_rfl,fun ρ => by kernel_rfl,fun R w ρ n => by simp [SV.okL,SV.ok]; try (first | exact inOk_noP _ _ rfl | (refine ⟨?_,?_⟩ <;> exact inOk_noP _ _ rfl))⟩
   by_cases h87:T = 87
   · subst h87
     have:some _ = some l := h
     cases this
     exact ⟨(E.P.info? 87).get (by kernel_rfl),((E.P.info? 87).bind (·.zero)).get (by kernel_rfl),by kernel_rfl,by kernel_rfl,fun ρ => by kernel_rfl,fun R w ρ n => by simp [SV.okL,SV.ok]; try (first | exact inOk_noP _ _ rfl | (refine ⟨?_,?_⟩ <;> exact inOk_noP _ _ rfl))⟩
   by_cases h136:T = 136
   · subst h136
     have:some _ = some l := h
     cases this
     exact ⟨(E.P.info? 136).get (by kernel_rfl),((E.P.info? 136).bind (·.zero)).get (by kernel_rfl),by kernel_rfl,by kernel_rfl,fun ρ => by kernel_rfl,fun R w ρ n => by simp [SV.okL,SV.ok]; try (first | exact inOk_noP _ _ rfl | (refine ⟨?_,?_⟩ <;> exact inOk_noP _ _ rfl))⟩
   by_cases h137:T = 137
   · subst h137
     have:some _ = some l := h
     cases this
     exact ⟨(E.P.info? 137).get (by kernel_rfl),((E.P.info? 137).bind (·.zero)).get (by kernel_rfl),by kernel_rfl,by kernel_rfl,fun ρ => by kernel_rfl,fun R w ρ n => by simp [SV.okL,SV.ok]; try (first | exact inOk_noP _ _ rfl | (refine ⟨?_,?_⟩ <;> exact inOk_noP _ _ rfl))⟩
   by_cases h138:T = 138
   · subst h138
     have:some _ = some l := h
     cases this
     exact ⟨(E.P.info? 138).get (by kernel_rfl),((E.P.info? 138).bind (·.zero)).get (by kernel_rfl),by kernel_rfl,by kernel_rfl,fun ρ => by kernel_rfl,fun R w ρ n => by simp [SV.okL,SV.ok]; try (first | exact inOk_noP _ _ rfl | (refine ⟨?_,?_⟩ <;> exact inOk_noP _ _ rfl))⟩
   by_cases h140:T = 140
   · subst h140
     have:some _ = some l := h
     cases this
     exact ⟨(E.P.info? 140).get (by kernel_rfl),((E.P.info? 140).bind (·.zero)).get (by kernel_rfl),by kernel_rfl,by kernel_rfl,fun ρ => by kernel_rfl,fun R w ρ n => by simp [SV.okL,SV.ok]; try (first | exact inOk_noP _ _ rfl | (refine ⟨?_,?_⟩ <;> exact inOk_noP _ _ rfl))⟩
   simp [assoc,E,zeroT,Ne.symm h33,Ne.symm h34,Ne.symm h51,Ne.symm h52,Ne.symm h55,Ne.symm h56,Ne.symm h57,Ne.symm h58,Ne.symm h62,Ne.symm h65,Ne.symm h66,Ne.symm h67,Ne.symm h87,Ne.symm h136,Ne.symm h137,Ne.symm h138,Ne.symm h140] at h
 add := by
   intro f h1 h
   have := Nat.eq_of_beq_eq_true h
   subst this
   exact ⟨Go.Proofs.Tryz.f142,_,by kernel_rfl,by kernel_rfl,by kernel_rfl,by kernel_rfl,by kernel_rfl,rfl⟩
 sub := by
   intro f h1 h
   have := Nat.eq_of_beq_eq_true h
   subst this
   exact ⟨Go.Proofs.Tryz.f135,_,by kernel_rfl,by kernel_rfl,by kernel_rfl,by kernel_rfl,by kernel_rfl,rfl⟩
end
section
open Go
set_option maxRecDepth 20000
noncomputable def M.nonf {α:Type} (bad:Bool) (k0:Option α):Option α := k0
theorem none_eq {α:Type} (bad:Bool) (Q:SV → Hp → Option α):callI E noFns (exec E noFns noLps 400) 76 ([SV.ptr (nat_lit 0) (nat_lit 0)]) ([.cells [SV.bool bad] (nat_lit 27)]) Q = M.nonf bad (Q (SV.int .i64 (0:Int)) ([.cells [SV.bool true] (nat_lit 27)])) := by kernel_rfl
def none_sp:List AS := [.ptr 27 [.bool false]]
theorem none_val {α:Type} (bad:Bool) (k0:Option α):M.nonf bad k0 = k0 := by
 unfold M.nonf
 repeat' first | rfl | (split <;> rename_i h <;> first | simp only [if_pos h] | simp only [if_neg h] | skip)
noncomputable def none_c {α:Type} (ds:List D) (Q:SV → Hp → Option α):Option α :=
 dB ds fun bad ds => dE ds (Q (SV.int .i64 (0:Int)) ([.cells [SV.bool true] (nat_lit 27)]))
theorem none_c_ok {α:Type}:FnOk E.P 76 (fEnt (α := α) none_sp none_c) :=
 fEnt_ok E (noFns_ok _) (exec_sound E E_ok (noFns_ok _) (noLps_ok _) 400) fun ds Q r h => by
   unfold none_c at h
   obtain ⟨bad,ds,rfl,h1⟩ := dB_inv h
   obtain ⟨rfl,hE⟩ := dE_inv h1
   exact ⟨[SV.ptr (nat_lit 0) (nat_lit 0)],[.cells [SV.bool bad] (nat_lit 27)],fun vs => by kernel_rfl,(none_eq bad Q).trans ((none_val bad (Q (SV.int .i64 (0:Int)) ([.cells [SV.bool true] (nat_lit 27)]))).trans hE)⟩
noncomputable def look_none {α:Type}:LookF α := addFn 76 (fEnt none_sp none_c) noFns
theorem look_none_ok {α:Type}:LookOk E.P (look_none (α := α)) := addFn_ok none_c_ok (noFns_ok _)
noncomputable def M.mul64 {α:Type} (x:Int) (y:Int) (k0:Int → Int → Option α):Option α := k0 (IntKind.wrap IntKind.u64 (IntKind.wrap IntKind.u64 (IntKind.wrap IntKind.u64 (Int.fdiv x (4294967296:Int) * Int.fdiv y (4294967296:Int)) + Int.fdiv (IntKind.wrap IntKind.u64 (IntKind.wrap IntKind.u64 (Int.fdiv x (4294967296:Int) * bandI IntKind.u64 y (4294967295:Int)) + Int.fdiv (IntKind.wrap IntKind.u64 (bandI IntKind.u64 x (4294967295:Int) * bandI IntKind.u64 y (4294967295:Int))) (4294967296:Int))) (4294967296:Int)) + Int.fdiv (IntKind.wrap IntKind.u64 (bandI IntKind.u64 (IntKind.wrap IntKind.u64 (IntKind.wrap IntKind.u64 (Int.fdiv x (4294967296:Int) * bandI IntKind.u64 y (4294967295:Int)) + Int.fdiv (IntKind.wrap IntKind.u64 (bandI IntKind.u64 x (4294967295:Int) * bandI IntKind.u64 y (4294967295:Int))) (4294967296:Int))) (4294967295:Int) + IntKind.wrap IntKind.u64 (bandI IntKind.u64 x (4294967295:Int) * Int.fdiv y (4294967296:Int)))) (4294967296:Int))) (IntKind.wrap IntKind.u64 (x * y))
theorem mul64_eq {α:Type} (x:Int) (y:Int) (Q:SV → Hp → Option α):callI E look_none (exec E look_none noLps 400) 111 ([SV.int IntKind.u64 x,SV.int IntKind.u64 y]) ([]) Q = M.mul64 x y (fun (x0 x1:Int) => Q (SV.tup [SV.int IntKind.u64 x0,SV.int IntKind.u64 x1]) ([])) := by kernel_rfl
def mul64_sp:List AS := [.val (.int .u64 0),.val (.int .u64 0)]
noncomputable def _root_.Go.Proofs.YtfkgmidgdpfnkaaGreat.V.mul64_r0 (x:Int) (y:Int):Int := IntKind.wrap IntKind.u64 (IntKind.wrap IntKind.u64 (IntKind.wrap IntKind.u64 (Int.fdiv x (4294967296:Int) * Int.fdiv y (4294967296:Int)) + Int.fdiv (IntKind.wrap IntKind.u64 (IntKind.wrap IntKind.u64 (Int.fdiv x (4294967296:Int) * bandI IntKind.u64 y (4294967295:Int)) + Int.fdiv (IntKind.wrap IntKind.u64 (bandI IntKind.u64 x (4294967295:Int) * bandI IntKind.u64 y (4294967295:Int))) (4294967296:Int))) (4294967296:Int)) + Int.fdiv (IntKind.wrap IntKind.u64 (bandI IntKind.u64 (IntKind.wrap IntKind.u64 (IntKind.wrap IntKind.u64 (Int.fdiv x (4294967296:Int) * bandI IntKind.u64 y (4294967295:Int)) + Int.fdiv (IntKind.wrap IntKind.u64 (bandI IntKind.u64 x (4294967295:Int) * bandI IntKind.u64 y (4294967295:Int))) (4294967296:Int))) (4294967295:Int) + IntKind.wrap IntKind.u64 (bandI IntKind.u64 x (4294967295:Int) * Int.fdiv y (4294967296:Int)))) (4294967296:Int))
noncomputable def _root_.Go.Proofs.YtfkgmidgdpfnkaaGreat.V.mul64_r1 (x:Int) (y:Int):Int := IntKind.wrap IntKind.u64 (x * y)
theorem mul64_val {α:Type} (x:Int) (y:Int) (k0:Int → Int → Option α):M.mul64 x y k0 = k0 (V.mul64_r0 x y) (V.mul64_r1 x y) := by
 unfold M.mul64 V.mul64_r0 V.mul64_r1
 repeat' first | rfl | (split <;> rename_i h <;> first | simp only [if_pos h] | simp only [if_neg h] | skip)
noncomputable def mul64_c {α:Type} (ds:List D) (Q:SV → Hp → Option α):Option α :=
 dI ds fun x ds => dI ds fun y ds => dE ds (Q (SV.tup [SV.int IntKind.u64 (V.mul64_r0 x y),SV.int IntKind.u64 (V.mul64_r1 x y)]) ([]))
theorem mul64_c_ok {α:Type}:FnOk E.P 111 (fEnt (α := α) mul64_sp mul64_c) :=
 fEnt_ok E (look_none_ok) (exec_sound E E_ok (look_none_ok) (noLps_ok _) 400) fun ds Q r h => by
   unfold mul64_c at h
   obtain ⟨x,ds,rfl,h1⟩ := dI_inv h
   obtain ⟨y,ds,rfl,h2⟩ := dI_inv h1
   obtain ⟨rfl,hE⟩ := dE_inv h2
   exact ⟨[SV.int IntKind.u64 x,SV.int IntKind.u64 y],[],fun vs => by kernel_rfl,(mul64_eq x y Q).trans ((mul64_val x y (fun (x0 x1:Int) => Q (SV.tup [SV.int IntKind.u64 x0,SV.int IntKind.u64 x1]) ([]))).trans hE)⟩
noncomputable def look_mul64 {α:Type}:LookF α := addFn 111 (fEnt mul64_sp mul64_c) look_none
theorem look_mul64_ok {α:Type}:LookOk E.P (look_mul64 (α := α)) := addFn_ok mul64_c_ok (look_none_ok)
noncomputable def M.times {α:Type} (a:Int) (b:Int) (k0:Int → Int → Option α):Option α := if cLt a (0:Int) = true then if cLt b (0:Int) = true then k0 (IntKind.wrap IntKind.u64 (IntKind.wrap IntKind.u64 (V.mul64_r0 (IntKind.wrap IntKind.u64 a) (IntKind.wrap IntKind.u64 b) - IntKind.wrap IntKind.u64 b) - IntKind.wrap IntKind.u64 a)) (V.mul64_r1 (IntKind.wrap IntKind.u64 a) (IntKind.wrap IntKind.u64 b)) else k0 (IntKind.wrap IntKind.u64 (V.mul64_r0 (IntKind.wrap IntKind.u64 a) (IntKind.wrap IntKind.u64 b) - IntKind.wrap IntKind.u64 b)) (V.mul64_r1 (IntKind.wrap IntKind.u64 a) (IntKind.wrap IntKind.u64 b)) else if cLt b (0:Int) = true then k0 (IntKind.wrap IntKind.u64 (V.mul64_r0 (IntKind.wrap IntKind.u64 a) (IntKind.wrap IntKind.u64 b) - IntKind.wrap IntKind.u64 a)) (V.mul64_r1 (IntKind.wrap IntKind.u64 a) (IntKind.wrap IntKind.u64 b)) else k0 (V.mul64_r0 (IntKind.wrap IntKind.u64 a) (IntKind.wrap IntKind.u64 b)) (V.mul64_r1 (IntKind.wrap IntKind.u64 a) (IntKind.wrap IntKind.u64 b))
theorem times_eq {α:Type} (a:Int) (b:Int) (Q:SV → Hp → Option α):callI E look_mul64 (exec E look_mul64 noLps 400) 82 ([SV.int .i64 a,SV.int .i64 b]) ([]) Q = M.times a b (fun (x2 x3:Int) => Q (SV.agg [SV.int IntKind.u64 x2,SV.int IntKind.u64 x3]) ([])) := by kernel_rfl
def times_sp:List AS := [.val (.int .i64 0),.val (.int .i64 0)]
noncomputable def _root_.Go.Proofs.YtfkgmidgdpfnkaaGreat.V.times_r0 (a:Int) (b:Int):Int := if cLt a (0:Int) = true then if cLt b (0:Int) = true then IntKind.wrap IntKind.u64 (IntKind.wrap IntKind.u64 (V.mul64_r0 (IntKind.wrap IntKind.u64 a) (IntKind.wrap IntKind.u64 b) - IntKind.wrap IntKind.u64 b) - IntKind.wrap IntKind.u64 a) else IntKind.wrap IntKind.u64 (V.mul64_r0 (IntKind.wrap IntKind.u64 a) (IntKind.wrap IntKind.u64 b) - IntKind.wrap IntKind.u64 b) else if cLt b (0:Int) = true then IntKind.wrap IntKind.u64 (V.mul64_r0 (IntKind.wrap IntKind.u64 a) (IntKind.wrap IntKind.u64 b) - IntKind.wrap IntKind.u64 a) else V.mul64_r0 (IntKind.wrap IntKind.u64 a) (IntKind.wrap IntKind.u64 b)
noncomputable def _root_.Go.Proofs.YtfkgmidgdpfnkaaGreat.V.times_r1 (a:Int) (b:Int):Int := if cLt a (0:Int) = true then if cLt b (0:Int) = true then V.mul64_r1 (IntKind.wrap IntKind.u64 a) (IntKind.wrap IntKind.u64 b) else V.mul64_r1 (IntKind.wrap IntKind.u64 a) (IntKind.wrap IntKind.u64 b) else if cLt b (0:Int) = true then V.mul64_r1 (IntKind.wrap IntKind.u64 a) (IntKind.wrap IntKind.u64 b) else V.mul64_r1 (IntKind.wrap IntKind.u64 a) (IntKind.wrap IntKind.u64 b)
theorem times_val {α:Type} (a:Int) (b:Int) (k0:Int → Int → Option α):M.times a b k0 = k0 (V.times_r0 a b) (V.times_r1 a b) := by
 unfold M.times V.times_r0 V.times_r1
 repeat' first | rfl | (split <;> rename_i h <;> first | simp only [if_pos h] | simp only [if_neg h] | skip)
noncomputable def times_c {α:Type} (ds:List D) (Q:SV → Hp → Option α):Option α :=
 dI ds fun a ds => dI ds fun b ds => dE ds (Q (SV.agg [SV.int IntKind.u64 (V.times_r0 a b),SV.int IntKind.u64 (V.times_r1 a b)]) ([]))
theorem times_c_ok {α:Type}:FnOk E.P 82 (fEnt (α := α) times_sp times_c) :=
 fEnt_ok E (look_mul64_ok) (exec_sound E E_ok (look_mul64_ok) (noLps_ok _) 400) fun ds Q r h => by
   unfold times_c at h
   obtain ⟨a,ds,rfl,h1⟩ := dI_inv h
   obtain ⟨b,ds,rfl,h2⟩ := dI_inv h1
   obtain ⟨rfl,hE⟩ := dE_inv h2
   exact ⟨[SV.int .i64 a,SV.int .i64 b],[],fun vs => by kernel_rfl,(times_eq a b Q).trans ((times_val a b (fun (x2 x3:Int) => Q (SV.agg [SV.int IntKind.u64 x2,SV.int IntKind.u64 x3]) ([]))).trans hE)⟩
noncomputable def look_times {α:Type}:LookF α := addFn 82 (fEnt times_sp times_c) look_mul64
theorem look_times_ok {α:Type}:LookOk E.P (look_times (α := α)) := addFn_ok times_c_ok (look_mul64_ok)
noncomputable def M.neg {α:Type} (hi:Int) (lo:Int) (k0:Bool → Option α):Option α := k0 (cEq (Int.fdiv hi (9223372036854775808:Int)) (1:Int))
theorem neg_eq {α:Type} (hi:Int) (lo:Int) (Q:SV → Hp → Option α):callI E look_times (exec E look_times noLps 400) 115 ([SV.agg [SV.int IntKind.u64 hi,SV.int IntKind.u64 lo]]) ([]) Q = M.neg hi lo (fun (x4:Bool) => Q (SV.bool x4) ([])) := by kernel_rfl
def neg_sp:List AS := [.val (.agg [.int .u64 0,.int .u64 0])]
noncomputable def _root_.Go.Proofs.YtfkgmidgdpfnkaaGreat.V.neg_r0 (hi:Int) (lo:Int):Bool := cEq (Int.fdiv hi (9223372036854775808:Int)) (1:Int)
theorem neg_val {α:Type} (hi:Int) (lo:Int) (k0:Bool → Option α):M.neg hi lo k0 = k0 (V.neg_r0 hi lo) := by
 unfold M.neg V.neg_r0
 repeat' first | rfl | (split <;> rename_i h <;> first | simp only [if_pos h] | simp only [if_neg h] | skip)
noncomputable def neg_c {α:Type} (ds:List D) (Q:SV → Hp → Option α):Option α :=
 dI ds fun hi ds => dI ds fun lo ds => dE ds (Q (SV.bool (V.neg_r0 hi lo)) ([]))
theorem neg_c_ok {α:Type}:FnOk E.P 115 (fEnt (α := α) neg_sp neg_c) :=
 fEnt_ok E (look_times_ok) (exec_sound E E_ok (look_times_ok) (noLps_ok _) 400) fun ds Q r h => by
   unfold neg_c at h
   obtain ⟨hi,ds,rfl,h1⟩ := dI_inv h
   obtain ⟨lo,ds,rfl,h2⟩ := dI_inv h1
   obtain ⟨rfl,hE⟩ := dE_inv h2
   exact ⟨[SV.agg [SV.int IntKind.u64 hi,SV.int IntKind.u64 lo]],[],fun vs => by kernel_rfl,(neg_eq hi lo Q).trans ((neg_val hi lo (fun (x4:Bool) => Q (SV.bool x4) ([]))).trans hE)⟩
noncomputable def look_neg {α:Type}:LookF α := addFn 115 (fEnt neg_sp neg_c) look_times
theorem look_neg_ok {α:Type}:LookOk E.P (look_neg (α := α)) := addFn_ok neg_c_ok (look_times_ok)
noncomputable def M.minus {α:Type} (hi:Int) (lo:Int) (k0:Int → Int → Option α):Option α := if Int.toNat (Int.ofNat (if (0:Nat) < Int.toNat lo + (0:Nat) then (1:Nat) else (0:Nat))) > (1:Nat) then none else k0 (Int.ofNat (((18446744073709551616:Nat) - Int.toNat hi - Int.toNat (Int.ofNat (if (0:Nat) < Int.toNat lo + (0:Nat) then (1:Nat) else (0:Nat)))) % (18446744073709551616:Nat))) (Int.ofNat (((18446744073709551616:Nat) - Int.toNat lo - (0:Nat)) % (18446744073709551616:Nat)))
theorem minus_eq {α:Type} (hi:Int) (lo:Int) (Q:SV → Hp → Option α):callI E look_neg (exec E look_neg noLps 400) 114 ([SV.agg [SV.int IntKind.u64 hi,SV.int IntKind.u64 lo]]) ([]) Q = M.minus hi lo (fun (x5 x6:Int) => Q (SV.agg [SV.int IntKind.u64 x5,SV.int IntKind.u64 x6]) ([])) := by kernel_rfl
def minus_sp:List AS := [.val (.agg [.int .u64 0,.int .u64 0])]
noncomputable def _root_.Go.Proofs.YtfkgmidgdpfnkaaGreat.V.minus_g (hi:Int) (lo:Int):Bool := if Int.toNat (Int.ofNat (if (0:Nat) < Int.toNat lo + (0:Nat) then (1:Nat) else (0:Nat))) > (1:Nat) then false else true
noncomputable def _root_.Go.Proofs.YtfkgmidgdpfnkaaGreat.V.minus_r0 (hi:Int) (lo:Int):Int := if Int.toNat (Int.ofNat (if (0:Nat) < Int.toNat lo + (0:Nat) then (1:Nat) else (0:Nat))) > (1:Nat) then (0:Int) else Int.ofNat (((18446744073709551616:Nat) - Int.toNat hi - Int.toNat (Int.ofNat (if (0:Nat) < Int.toNat lo + (0:Nat) then (1:Nat) else (0:Nat)))) % (18446744073709551616:Nat))
noncomputable def _root_.Go.Proofs.YtfkgmidgdpfnkaaGreat.V.minus_r1 (hi:Int) (lo:Int):Int := if Int.toNat (Int.ofNat (if (0:Nat) < Int.toNat lo + (0:Nat) then (1:Nat) else (0:Nat))) > (1:Nat) then (0:Int) else Int.ofNat (((18446744073709551616:Nat) - Int.toNat lo - (0:Nat)) % (18446744073709551616:Nat))
theorem minus_val {α:Type} (hi:Int) (lo:Int) (k0:Int → Int → Option α):M.minus hi lo k0 = if V.minus_g hi lo = true then k0 (V.minus_r0 hi lo) (V.minus_r1 hi lo) else none := by
 unfold M.minus V.minus_g V.minus_r0 V.minus_r1
 repeat' first | rfl | (split <;> rename_i h <;> first | simp only [if_pos h] | simp only [if_neg h] | skip)
noncomputable def minus_c {α:Type} (ds:List D) (Q:SV → Hp → Option α):Option α :=
 dI ds fun hi ds => dI ds fun lo ds => dE ds (if V.minus_g hi lo = true then Q (SV.agg [SV.int IntKind.u64 (V.minus_r0 hi lo),SV.int IntKind.u64 (V.minus_r1 hi lo)]) ([]) else none)
theorem minus_c_ok {α:Type}:FnOk E.P 114 (fEnt (α := α) minus_sp minus_c) :=
 fEnt_ok E (look_neg_ok) (exec_sound E E_ok (look_neg_ok) (noLps_ok _) 400) fun ds Q r h => by
   unfold minus_c at h
   obtain ⟨hi,ds,rfl,h1⟩ := dI_inv h
   obtain ⟨lo,ds,rfl,h2⟩ := dI_inv h1
   obtain ⟨rfl,hE⟩ := dE_inv h2
   exact ⟨[SV.agg [SV.int IntKind.u64 hi,SV.int IntKind.u64 lo]],[],fun vs => by kernel_rfl,(minus_eq hi lo Q).trans ((minus_val hi lo (fun (x5 x6:Int) => Q (SV.agg [SV.int IntKind.u64 x5,SV.int IntKind.u64 x6]) ([]))).trans hE)⟩
noncomputable def look_minus {α:Type}:LookF α := addFn 114 (fEnt minus_sp minus_c) look_neg
theorem look_minus_ok {α:Type}:LookOk E.P (look_minus (α := α)) := addFn_ok minus_c_ok (look_neg_ok)
noncomputable def M.wadd {α:Type} (ah:Int) (al:Int) (bh:Int) (bl:Int) (k0:Int → Int → Option α):Option α := if Int.toNat (Int.ofNat ((Int.toNat al + Int.toNat bl + (0:Nat)) / (18446744073709551616:Nat))) > (1:Nat) then none else k0 (Int.ofNat ((Int.toNat ah + Int.toNat bh + Int.toNat (Int.ofNat ((Int.toNat al + Int.toNat bl + (0:Nat)) / (18446744073709551616:Nat)))) % (18446744073709551616:Nat))) (Int.ofNat ((Int.toNat al + Int.toNat bl + (0:Nat)) % (18446744073709551616:Nat)))
theorem wadd_eq {α:Type} (ah:Int) (al:Int) (bh:Int) (bl:Int) (Q:SV → Hp → Option α):callI E look_minus (exec E look_minus noLps 400) 130 ([SV.agg [SV.int IntKind.u64 ah,SV.int IntKind.u64 al],SV.agg [SV.int IntKind.u64 bh,SV.int IntKind.u64 bl]]) ([]) Q = M.wadd ah al bh bl (fun (x7 x8:Int) => Q (SV.agg [SV.int IntKind.u64 x7,SV.int IntKind.u64 x8]) ([])) := by kernel_rfl
def wadd_sp:List AS := [.val (.agg [.int .u64 0,.int .u64 0]),.val (.agg [.int .u64 0,.int .u64 0])]
noncomputable def _root_.Go.Proofs.YtfkgmidgdpfnkaaGreat.V.wadd_g (ah:Int) (al:Int) (bh:Int) (bl:Int):Bool := if Int.toNat (Int.ofNat ((Int.toNat al + Int.toNat bl + (0:Nat)) / (18446744073709551616:Nat))) > (1:Nat) then false else true
noncomputable def _root_.Go.Proofs.YtfkgmidgdpfnkaaGreat.V.wadd_r0 (ah:Int) (al:Int) (bh:Int) (bl:Int):Int := if Int.toNat (Int.ofNat ((Int.toNat al + Int.toNat bl + (0:Nat)) / (18446744073709551616:Nat))) > (1:Nat) then (0:Int) else Int.ofNat ((Int.toNat ah + Int.toNat bh + Int.toNat (Int.ofNat ((Int.toNat al + Int.toNat bl + (0:Nat)) / (18446744073709551616:Nat)))) % (18446744073709551616:Nat))
noncomputable def _root_.Go.Proofs.YtfkgmidgdpfnkaaGreat.V.wadd_r1 (ah:Int) (al:Int) (bh:Int) (bl:Int):Int := if Int.toNat (Int.ofNat ((Int.toNat al + Int.toNat bl + (0:Nat)) / (18446744073709551616:Nat))) > (1:Nat) then (0:Int) else Int.ofNat ((Int.toNat al + Int.toNat bl + (0:Nat)) % (18446744073709551616:Nat))
theorem wadd_val {α:Type} (ah:Int) (al:Int) (bh:Int) (bl:Int) (k0:Int → Int → Option α):M.wadd ah al bh bl k0 = if V.wadd_g ah al bh bl = true then k0 (V.wadd_r0 ah al bh bl) (V.wadd_r1 ah al bh bl) else none := by
 unfold M.wadd V.wadd_g V.wadd_r0 V.wadd_r1
 repeat' first | rfl | (split <;> rename_i h <;> first | simp only [if_pos h] | simp only [if_neg h] | skip)
noncomputable def wadd_c {α:Type} (ds:List D) (Q:SV → Hp → Option α):Option α :=
 dI ds fun ah ds => dI ds fun al ds => dI ds fun bh ds => dI ds fun bl ds => dE ds (if V.wadd_g ah al bh bl = true then Q (SV.agg [SV.int IntKind.u64 (V.wadd_r0 ah al bh bl),SV.int IntKind.u64 (V.wadd_r1 ah al bh bl)]) ([]) else none)
theorem wadd_c_ok {α:Type}:FnOk E.P 130 (fEnt (α := α) wadd_sp wadd_c) :=
 fEnt_ok E (look_minus_ok) (exec_sound E E_ok (look_minus_ok) (noLps_ok _) 400) fun ds Q r h => by
   unfold wadd_c at h
   obtain ⟨ah,ds,rfl,h1⟩ := dI_inv h
   obtain ⟨al,ds,rfl,h2⟩ := dI_inv h1
   obtain ⟨bh,ds,rfl,h3⟩ := dI_inv h2
   obtain ⟨bl,ds,rfl,h4⟩ := dI_inv h3
   obtain ⟨rfl,hE⟩ := dE_inv h4
   exact ⟨[SV.agg [SV.int IntKind.u64 ah,SV.int IntKind.u64 al],SV.agg [SV.int IntKind.u64 bh,SV.int IntKind.u64 bl]],[],fun vs => by kernel_rfl,(wadd_eq ah al bh bl Q).trans ((wadd_val ah al bh bl (fun (x7 x8:Int) => Q (SV.agg [SV.int IntKind.u64 x7,SV.int IntKind.u64 x8]) ([]))).trans hE)⟩
noncomputable def look_wadd {α:Type}:LookF α := addFn 130 (fEnt wadd_sp wadd_c) look_minus
theorem look_wadd_ok {α:Type}:LookOk E.P (look_wadd (α := α)) := addFn_ok wadd_c_ok (look_minus_ok)
noncomputable def M.tells {α:Type} (bad:Bool) (n:Int) (ok:Bool) (k0:Int → Bool → Option α):Option α := if (!ok) = true then k0 (0:Int) true else if cLt n (-4611686018427387903:Int) = true then k0 (0:Int) true else if cLt (4611686018427387903:Int) n = true then k0 (0:Int) true else k0 n bad
theorem tells_eq {α:Type} (bad:Bool) (n:Int) (ok:Bool) (Q:SV → Hp → Option α):callI E look_wadd (exec E look_wadd noLps 400) 80 ([SV.ptr (nat_lit 0) (nat_lit 0),SV.int .i64 n,SV.bool ok]) ([.cells [SV.bool bad] (nat_lit 29)]) Q = M.tells bad n ok (fun (x9:Int) (x10:Bool) => Q (SV.int .i64 x9) ([.cells [SV.bool x10] (nat_lit 29)])) := by kernel_rfl
def tells_sp:List AS := [.ptr 29 [.bool false],.val (.int .i64 0),.val (.bool false)]
noncomputable def _root_.Go.Proofs.YtfkgmidgdpfnkaaGreat.V.tells_r0 (bad:Bool) (n:Int) (ok:Bool):Int := if (!ok) = true then (0:Int) else if cLt n (-4611686018427387903:Int) = true then (0:Int) else if cLt (4611686018427387903:Int) n = true then (0:Int) else n
noncomputable def _root_.Go.Proofs.YtfkgmidgdpfnkaaGreat.V.tells_r1 (bad:Bool) (n:Int) (ok:Bool):Bool := if (!ok) = true then true else if cLt n (-4611686018427387903:Int) = true then true else if cLt (4611686018427387903:Int) n = true then true else bad
theorem tells_val {α:Type} (bad:Bool) (n:Int) (ok:Bool) (k0:Int → Bool → Option α):M.tells bad n ok k0 = k0 (V.tells_r0 bad n ok) (V.tells_r1 bad n ok) := by
 unfold M.tells V.tells_r0 V.tells_r1
 repeat' first | rfl | (split <;> rename_i h <;> first | simp only [if_pos h] | simp only [if_neg h] | skip)
noncomputable def tells_c {α:Type} (ds:List D) (Q:SV → Hp → Option α):Option α :=
 dB ds fun bad ds => dI ds fun n ds => dB ds fun ok ds => dE ds (Q (SV.int .i64 (V.tells_r0 bad n ok)) ([.cells [SV.bool (V.tells_r1 bad n ok)] (nat_lit 29)]))
theorem tells_c_ok {α:Type}:FnOk E.P 80 (fEnt (α := α) tells_sp tells_c) :=
 fEnt_ok E (look_wadd_ok) (exec_sound E E_ok (look_wadd_ok) (noLps_ok _) 400) fun ds Q r h => by
   unfold tells_c at h
   obtain ⟨bad,ds,rfl,h1⟩ := dB_inv h
   obtain ⟨n,ds,rfl,h2⟩ := dI_inv h1
   obtain ⟨ok,ds,rfl,h3⟩ := dB_inv h2
   obtain ⟨rfl,hE⟩ := dE_inv h3
   exact ⟨[SV.ptr (nat_lit 0) (nat_lit 0),SV.int .i64 n,SV.bool ok],[.cells [SV.bool bad] (nat_lit 29)],fun vs => by kernel_rfl,(tells_eq bad n ok Q).trans ((tells_val bad n ok (fun (x9:Int) (x10:Bool) => Q (SV.int .i64 x9) ([.cells [SV.bool x10] (nat_lit 29)]))).trans hE)⟩
noncomputable def look_tells {α:Type}:LookF α := addFn 80 (fEnt tells_sp tells_c) look_wadd
theorem look_tells_ok {α:Type}:LookOk E.P (look_tells (α := α)) := addFn_ok tells_c_ok (look_wadd_ok)
end
section
open Go
set_option maxRecDepth 20000
def isG (n:Int):Bool := decide (n < -4611686018427387903) || decide (4611686018427387903 < n)
def _root_.Go.Proofs.YtfkgmidgdpfnkaaGreat.V.anyG (l:List Int):Bool := l.any isG
theorem drop_any (l:List Int) (i:Nat) (h:i < l.length):(l.drop i).any isG = (isG (l.getD i 0) || (l.drop (i + 1)).any isG) := by
 rw [List.drop_eq_getElem_cons h,List.any_cons]; simp [List.getD_eq_getElem?_getD,h]
theorem getD_toNat (l:List Int) (i:Nat):l.getD (Int.toNat (i:Int)) 0 = l.getD i 0 := by simp
noncomputable abbrev great_S1 (y1:Value) (y2:List Int) (y3 y4:Int):St := St.mk (nn 5 (some (SV.ros y1 (K.int IntKind.i64) y2) :: some (SV.int .i64 y3) :: some (SV.int .i64 y4) :: nn 10 ([]))) []
noncomputable abbrev great_S2:St := St.mk (nn 5 (some (SV.ros undef (K.int IntKind.i64) []) :: some (SV.int .i64 (0:Int)) :: some (SV.int .i64 (0:Int)) :: nn 10 ([]))) []
noncomputable def M.great_l0_step {α:Type} (x6:List Int) (x7:Int) (kn:Int → Option α) (k0:Option α) (k2:Option α) (x8:Int):Option α := if cLt x8 x7 = true then if (0:Int) ≤ x8 ∧ x8 < (↑(List.length x6):Int) then if cLt (List.getD x6 (Int.toNat x8) (0:Int)) (-4611686018427387903:Int) = true then k0 else if cLt (4611686018427387903:Int) (List.getD x6 (Int.toNat x8) (0:Int)) = true then k0 else kn (IntKind.wrap .i64 (x8 + (1:Int))) else none else k2
noncomputable def M.great_l0 {α:Type} (x6:List Int) (x7:Int) (k0:Option α) (k2:Option α):Nat → Int → Option α
 | 0,_ => none
 | n + 1,x8 => M.great_l0_step x6 x7 (M.great_l0 x6 x7 k0 k2 n) k0 k2 x8
theorem great_l0_step_eq {α:Type} (x5:Value) (x6:List Int) (x7 x8:Int) (Q:Ex → St → Option α):(loopStep E (exec E look_tells noLps 400) 75 [false,true,false,true] 0 (codeAt E.P 75 [false,true,false,true])) (great_S1 x5 x6 x7 x8) Q = M.great_l0_step x6 x7 (fun (x9:Int) => Q .normal (great_S1 x5 x6 x7 x9)) (Q .ret (St.mk (none :: none :: some (SV.bool true) :: nn 15 ([])) [])) (Q (.exit 0) (St.mk (nn 18 ([])) [])) x8 := by kernel_rfl
theorem great_l0_iter {α:Type} (x5:Value) (x6:List Int) (x7:Int) (Q:Ex → St → Option α):∀ (n:Nat) (x8:Int),iter (loopStep E (exec E look_tells noLps 400) 75 [false,true,false,true] 0 (codeAt E.P 75 [false,true,false,true])) n (great_S1 x5 x6 x7 x8) Q = M.great_l0 x6 x7 (Q .ret (St.mk (none :: none :: some (SV.bool true) :: nn 15 ([])) [])) (Q (.exit 0) (St.mk (nn 18 ([])) [])) n x8
 | 0,_ => rfl
 | n + 1,x8 => (great_l0_step_eq x5 x6 x7 x8 (iterK (loopStep E (exec E look_tells noLps 400) 75 [false,true,false,true] 0 (codeAt E.P 75 [false,true,false,true])) n Q)).trans (congrArg (fun kn => M.great_l0_step x6 x7 kn (Q .ret (St.mk (none :: none :: some (SV.bool true) :: nn 15 ([])) [])) (Q (.exit 0) (St.mk (nn 18 ([])) [])) x8) (funext fun x8 => great_l0_iter x5 x6 x7 Q n x8))
noncomputable def great_l0_go {α:Type} (ds:List D) (Q:Ex → St → Option α):Option α :=
 dV ds fun x5 ds => dL (K.int IntKind.i64) ds fun x6 ds => dI ds fun x7 ds => dI ds fun x8 ds => dE ds (M.great_l0 x6 x7 (Q .ret (St.mk (none :: none :: some (SV.bool true) :: nn 15 ([])) [])) (Q (.exit 0) (St.mk (nn 18 ([])) [])) (100 + x6.length) x8)
theorem great_l0_ok {α:Type}:LoopOk E.P 75 [false,true,false,true] 0 (lEnt (α := α) (great_S2) great_l0_go) :=
 lEnt_ok E (exec_sound E E_ok (look_tells_ok) (noLps_ok _) 400) fun ds Q r h S hS => by
   unfold great_l0_go at h
   obtain ⟨x5,ds,rfl,h1⟩ := dV_inv h
   obtain ⟨x6,ds,rfl,h2⟩ := dL_inv h1
   obtain ⟨x7,ds,rfl,h3⟩ := dI_inv h2
   obtain ⟨x8,ds,rfl,h4⟩ := dI_inv h3
   obtain ⟨rfl,hE⟩ := dE_inv h4
   have e:fillS (great_S2) [.v x5,.l (K.int IntKind.i64) x6,.i x7,.i x8] = some (great_S1 x5 x6 x7 x8) := by kernel_rfl
   rw [e] at hS
   cases hS
   exact ⟨_,(great_l0_iter x5 x6 x7 Q _ x8).trans hE⟩
noncomputable def great_l0_lps {α:Type}:LookL α := addLp 75 [false,true,false,true] 0 (lEnt (great_S2) great_l0_go) noLps
theorem great_l0_lps_ok {α:Type}:LoopsOk E.P (great_l0_lps (α := α)) := addLp_ok great_l0_ok (noLps_ok _)
noncomputable def M.great {α:Type} (l:List Int) (k0:Bool → Option α):Option α := M.great_l0 l (↑(List.length l):Int) (k0 true) (k0 false) ((100:Nat) + List.length l) (0:Int)
theorem great_eq {α:Type} (l:List Int) (v10:Value) (Q:SV → Hp → Option α):callI E look_tells (exec E look_tells great_l0_lps 400) 75 ([SV.ros v10 (K.int IntKind.i64) l]) ([]) Q = M.great l (fun (x11:Bool) => Q (SV.bool x11) ([])) := by kernel_rfl
def great_sp:List AS := [.ro (.int .i64)]
theorem great_l0_val {α:Type} (l:List Int) (hl:l.length < 9223372036854775808) (k0:Option α) (k2:Option α):∀ (fuel i:Nat),i ≤ l.length → l.length - i < fuel →
   M.great_l0 l (l.length:Int) k0 k2 fuel (i:Int) = if (l.drop i).any isG = true then k0 else k2
 | 0,i,h1,h2 => by omega
 | n + 1,i,h1,h2 => by
   unfold M.great_l0 M.great_l0_step
   by_cases hi:i < l.length
   · have ih := great_l0_val l hl k0 k2 n (i + 1) (by omega) (by omega)
     rw [IntWalk.i64_in _ (by omega:-9223372036854775808 ≤ (i:Int) + 1 ∧ (i:Int) + 1 ≤ 9223372036854775807),drop_any l i hi]
     push_cast at ih
     rw [ih]
     simp only [cLt_eq,getD_toNat,isG]
     have:(i:Int) < (l.length:Int) := by omega
     simp only [this,decide_true,if_true,Int.natCast_nonneg,and_self]
     generalize l.getD i 0 = y
     generalize (l.drop (i + 1)).any isG = z
     by_cases a:y < -4611686018427387903
     · simp [a]
     · by_cases b:4611686018427387903 < y <;> simp [a,b]
   · have : i = l.length := by omega
     subst this
     simp [cLt_eq]
theorem great_val {α:Type} (l:List Int) (hl:l.length < 9223372036854775808) (k0:Bool → Option α):M.great l k0 = k0 (V.anyG l) := by
 unfold M.great
 have := great_l0_val l hl (k0 true) (k0 false) (100 + l.length) 0 (by omega) (by omega)
 rw [Int.natCast_zero] at this
 rw [this,V.anyG,List.drop_zero]
 cases l.any isG <;> rfl
noncomputable def great_c {α:Type} (ds:List D) (Q:SV → Hp → Option α):Option α :=
 dL (.int .i64) ds fun l ds => dE ds (if l.length < 9223372036854775808 then Q (.bool (V.anyG l)) [] else none)
theorem great_c_ok {α:Type}:FnOk E.P 75 (fEnt (α := α) great_sp great_c) :=
 fEntR_ok E look_tells_ok (exec_sound E E_ok look_tells_ok great_l0_lps_ok 400) fun ds Q r h => by
   unfold great_c at h
   obtain ⟨l,ds,rfl,h1⟩ := dL_inv h
   obtain ⟨rfl,hE⟩ := dE_inv h1
   split at hE
   · rename_i hl
     exact ⟨_,_,hE,fun vs => ⟨[.ros (vs.headD undef) (.int .i64) l],[],by kernel_rfl,(great_eq l _ _).trans (great_val l hl _)⟩⟩
   · cases hE
noncomputable def look_great {α:Type}:LookF α := addFn 75 (fEnt great_sp great_c) look_tells
theorem look_great_ok {α:Type}:LookOk E.P (look_great (α := α)) := addFn_ok great_c_ok (look_tells_ok)
noncomputable abbrev rgreat_S1 (y1:Value) (y2:List Int) (y3:Int):St := St.mk (some (SV.ros y1 (K.int IntKind.i64) y2) :: none :: none :: some (SV.int .i64 y3) :: nn 18 ([])) []
noncomputable def M.rgreat_l0_step {α:Type} (x17:List Int) (kn:Int → Option α) (k0:Option α) (k2:Option α) (x18:Int):Option α := if cLt x18 (↑(List.length x17):Int) = true then if (0:Int) ≤ x18 ∧ x18 < (↑(List.length x17):Int) then if cLt (List.getD x17 (Int.toNat x18) (0:Int)) (-4611686018427387903:Int) = true then k0 else if (0:Int) ≤ x18 ∧ x18 < (↑(List.length x17):Int) then if cLt (4611686018427387903:Int) (List.getD x17 (Int.toNat x18) (0:Int)) = true then k0 else kn (IntKind.wrap .i64 (x18 + (1:Int))) else none else none else k2
noncomputable def M.rgreat_l0 {α:Type} (x17:List Int) (k0:Option α) (k2:Option α):Nat → Int → Option α
 | 0,_ => none
 | n + 1,x18 => M.rgreat_l0_step x17 (M.rgreat_l0 x17 k0 k2 n) k0 k2 x18
theorem rgreat_l0_step_eq {α:Type} (x16:Value) (x17:List Int) (x18:Int) (Q:Ex → St → Option α):(loopStep E (exec E look_great noLps 400) 79 [false,true,false,true] 0 (codeAt E.P 79 [false,true,false,true])) (rgreat_S1 x16 x17 x18) Q = M.rgreat_l0_step x17 (fun (x19:Int) => Q .normal (rgreat_S1 x16 x17 x19)) (Q .ret (St.mk (none :: none :: some (SV.bool true) :: nn 19 ([])) [])) (Q (.exit 0) (St.mk (nn 22 ([])) [])) x18 := by kernel_rfl
theorem rgreat_l0_iter {α:Type} (x16:Value) (x17:List Int) (Q:Ex → St → Option α):∀ (n:Nat) (x18:Int),iter (loopStep E (exec E look_great noLps 400) 79 [false,true,false,true] 0 (codeAt E.P 79 [false,true,false,true])) n (rgreat_S1 x16 x17 x18) Q = M.rgreat_l0 x17 (Q .ret (St.mk (none :: none :: some (SV.bool true) :: nn 19 ([])) [])) (Q (.exit 0) (St.mk (nn 22 ([])) [])) n x18
 | 0,_ => rfl
 | n + 1,x18 => (rgreat_l0_step_eq x16 x17 x18 (iterK (loopStep E (exec E look_great noLps 400) 79 [false,true,false,true] 0 (codeAt E.P 79 [false,true,false,true])) n Q)).trans (congrArg (fun kn => M.rgreat_l0_step x17 kn (Q .ret (St.mk (none :: none :: some (SV.bool true) :: nn 19 ([])) [])) (Q (.exit 0) (St.mk (nn 22 ([])) [])) x18) (funext fun x18 => rgreat_l0_iter x16 x17 Q n x18))
noncomputable def rgreat_l0_go {α:Type} (ds:List D) (Q:Ex → St → Option α):Option α :=
 dV ds fun x16 ds => dL (K.int IntKind.i64) ds fun x17 ds => dI ds fun x18 ds => dE ds (M.rgreat_l0 x17 (Q .ret (St.mk (none :: none :: some (SV.bool true) :: nn 19 ([])) [])) (Q (.exit 0) (St.mk (nn 22 ([])) [])) (100 + x17.length) x18)
theorem rgreat_l0_ok {α:Type}:LoopOk E.P 79 [false,true,false,true] 0 (lEnt (α := α) (St.mk (some (SV.ros undef (K.int IntKind.i64) []) :: none :: none :: some (SV.int .i64 (0:Int)) :: nn 18 ([])) []) rgreat_l0_go) :=
 lEnt_ok E (exec_sound E E_ok (look_great_ok) (noLps_ok _) 400) fun ds Q r h S hS => by
   unfold rgreat_l0_go at h
   obtain ⟨x16,ds,rfl,h1⟩ := dV_inv h
   obtain ⟨x17,ds,rfl,h2⟩ := dL_inv h1
   obtain ⟨x18,ds,rfl,h3⟩ := dI_inv h2
   obtain ⟨rfl,hE⟩ := dE_inv h3
   have e:fillS (St.mk (some (SV.ros undef (K.int IntKind.i64) []) :: none :: none :: some (SV.int .i64 (0:Int)) :: nn 18 ([])) []) [.v x16,.l (K.int IntKind.i64) x17,.i x18] = some (rgreat_S1 x16 x17 x18) := by kernel_rfl
   rw [e] at hS
   cases hS
   exact ⟨_,(rgreat_l0_iter x16 x17 Q _ x18).trans hE⟩
noncomputable def rgreat_l0_lps {α:Type}:LookL α := addLp 79 [false,true,false,true] 0 (lEnt (St.mk (some (SV.ros undef (K.int IntKind.i64) []) :: none :: none :: some (SV.int .i64 (0:Int)) :: nn 18 ([])) []) rgreat_l0_go) noLps
theorem rgreat_l0_lps_ok {α:Type}:LoopsOk E.P (rgreat_l0_lps (α := α)) := addLp_ok rgreat_l0_ok (noLps_ok _)
noncomputable def M.rgreat {α:Type} (l:List Int) (k0:Bool → Option α):Option α := M.rgreat_l0 l (k0 true) (k0 false) ((100:Nat) + List.length l) (0:Int)
theorem rgreat_eq {α:Type} (l:List Int) (v20:Value) (Q:SV → Hp → Option α):callI E look_great (exec E look_great rgreat_l0_lps 400) 79 ([SV.ros v20 (K.int IntKind.i64) l]) ([]) Q = M.rgreat l (fun (x21:Bool) => Q (SV.bool x21) ([])) := by kernel_rfl
def rgreat_sp:List AS := [.ro (.int .i64)]
theorem rgreat_l0_val {α:Type} (l:List Int) (hl:l.length < 9223372036854775808) (k0:Option α) (k2:Option α):∀ (fuel i:Nat),i ≤ l.length → l.length - i < fuel →
   M.rgreat_l0 l k0 k2 fuel (i:Int) = if (l.drop i).any isG = true then k0 else k2
 | 0,i,h1,h2 => by omega
 | n + 1,i,h1,h2 => by
   unfold M.rgreat_l0 M.rgreat_l0_step
   by_cases hi:i < l.length
   · have ih := rgreat_l0_val l hl k0 k2 n (i + 1) (by omega) (by omega)
     rw [IntWalk.i64_in _ (by omega:-9223372036854775808 ≤ (i:Int) + 1 ∧ (i:Int) + 1 ≤ 9223372036854775807),drop_any l i hi]
     push_cast at ih
     rw [ih]
     simp only [cLt_eq,getD_toNat,isG]
     have:(i:Int) < (l.length:Int) := by omega
     simp only [this,decide_true,if_true,Int.natCast_nonneg,and_self]
     generalize l.getD i 0 = y
     generalize (l.drop (i + 1)).any isG = z
     by_cases a:y < -4611686018427387903
     · simp [a]
     · by_cases b:4611686018427387903 < y <;> simp [a,b]
   · have : i = l.length := by omega
     subst this
     simp [cLt_eq]
theorem rgreat_val {α:Type} (l:List Int) (hl:l.length < 9223372036854775808) (k0:Bool → Option α):M.rgreat l k0 = k0 (V.anyG l) := by
 unfold M.rgreat
 have := rgreat_l0_val l hl (k0 true) (k0 false) (100 + l.length) 0 (by omega) (by omega)
 rw [Int.natCast_zero] at this
 rw [this,V.anyG,List.drop_zero]
 cases l.any isG <;> rfl
theorem rgreat_c_ok {α:Type}:FnOk E.P 79 (fEnt (α := α) rgreat_sp great_c) :=
 fEntR_ok E look_great_ok (exec_sound E E_ok look_great_ok rgreat_l0_lps_ok 400) fun ds Q r h => by
   unfold great_c at h
   obtain ⟨l,ds,rfl,h1⟩ := dL_inv h
   obtain ⟨rfl,hE⟩ := dE_inv h1
   split at hE
   · rename_i hl
     exact ⟨_,_,hE,fun vs => ⟨[.ros (vs.headD undef) (.int .i64) l],[],by kernel_rfl,(rgreat_eq l _ _).trans (rgreat_val l hl _)⟩⟩
   · cases hE
noncomputable abbrev rgreat_c {α:Type} := great_c (α := α)
noncomputable def look_rgreat {α:Type}:LookF α := addFn 79 (fEnt rgreat_sp rgreat_c) look_great
theorem look_rgreat_ok {α:Type}:LookOk E.P (look_rgreat (α := α)) := addFn_ok rgreat_c_ok (look_great_ok)
end
section
open Go
set_option maxRecDepth 20000
noncomputable def M.len64 {α:Type} (x:Int) (k0:Int → Option α):Option α := let s0 := Int.fdiv (Int.fdiv x (4294967296:Int)) (65536:Int); let s1 := IntKind.wrap IntKind.u8 s0; let s2 := IntKind.wrap IntKind.u8 (Int.fdiv (Int.fdiv x (65536:Int)) (256:Int)); let s3 := IntKind.wrap IntKind.u8 (Int.fdiv (Int.fdiv x (4294967296:Int)) (256:Int)); let s4 := IntKind.wrap IntKind.u8 (Int.fdiv s0 (256:Int)); if cLe (4294967296:Int) x = true then if cLe (65536:Int) (Int.fdiv x (4294967296:Int)) = true then if cLe (256:Int) s0 = true then if (0:Int) ≤ s4 ∧ s4 < (256:Int) then k0 (IntKind.wrap .i64 ((56:Int) + IntKind.wrap .i64 (strAt len8 s4))) else none else if (0:Int) ≤ s1 ∧ s1 < (256:Int) then k0 (IntKind.wrap .i64 ((48:Int) + IntKind.wrap .i64 (strAt len8 s1))) else none else if cLe (256:Int) (Int.fdiv x (4294967296:Int)) = true then if (0:Int) ≤ s3 ∧ s3 < (256:Int) then k0 (IntKind.wrap .i64 ((40:Int) + IntKind.wrap .i64 (strAt len8 s3))) else none else if (0:Int) ≤ IntKind.wrap IntKind.u8 (Int.fdiv x (4294967296:Int)) ∧ IntKind.wrap IntKind.u8 (Int.fdiv x (4294967296:Int)) < (256:Int) then k0 (IntKind.wrap .i64 ((32:Int) + IntKind.wrap .i64 (strAt len8 (IntKind.wrap IntKind.u8 (Int.fdiv x (4294967296:Int)))))) else none else if cLe (65536:Int) x = true then if cLe (256:Int) (Int.fdiv x (65536:Int)) = true then if (0:Int) ≤ s2 ∧ s2 < (256:Int) then k0 (IntKind.wrap .i64 ((24:Int) + IntKind.wrap .i64 (strAt len8 s2))) else none else if (0:Int) ≤ IntKind.wrap IntKind.u8 (Int.fdiv x (65536:Int)) ∧ IntKind.wrap IntKind.u8 (Int.fdiv x (65536:Int)) < (256:Int) then k0 (IntKind.wrap .i64 ((16:Int) + IntKind.wrap .i64 (strAt len8 (IntKind.wrap IntKind.u8 (Int.fdiv x (65536:Int)))))) else none else if cLe (256:Int) x = true then if (0:Int) ≤ IntKind.wrap IntKind.u8 (Int.fdiv x (256:Int)) ∧ IntKind.wrap IntKind.u8 (Int.fdiv x (256:Int)) < (256:Int) then k0 (IntKind.wrap .i64 ((8:Int) + IntKind.wrap .i64 (strAt len8 (IntKind.wrap IntKind.u8 (Int.fdiv x (256:Int)))))) else none else if (0:Int) ≤ IntKind.wrap IntKind.u8 x ∧ IntKind.wrap IntKind.u8 x < (256:Int) then k0 (IntKind.wrap .i64 ((0:Int) + IntKind.wrap .i64 (strAt len8 (IntKind.wrap IntKind.u8 x)))) else none
theorem len64_eq {α:Type} (x:Int) (Q:SV → Hp → Option α):callI E look_rgreat (exec E look_rgreat noLps 400) 144 ([SV.int IntKind.u64 x]) ([]) Q = M.len64 x (fun (x5:Int) => Q (SV.int .i64 x5) ([])) := by kernel_rfl
def len64_sp:List AS := [.val (.int .u64 0)]
noncomputable def _root_.Go.Proofs.YtfkgmidgdpfnkaaGreat.V.len64_g (x:Int):Bool := if cLe (4294967296:Int) x = true then if cLe (65536:Int) (Int.fdiv x (4294967296:Int)) = true then if cLe (256:Int) (Int.fdiv (Int.fdiv x (4294967296:Int)) (65536:Int)) = true then if (0:Int) ≤ IntKind.wrap IntKind.u8 (Int.fdiv (Int.fdiv (Int.fdiv x (4294967296:Int)) (65536:Int)) (256:Int)) ∧ IntKind.wrap IntKind.u8 (Int.fdiv (Int.fdiv (Int.fdiv x (4294967296:Int)) (65536:Int)) (256:Int)) < (256:Int) then true else false else if (0:Int) ≤ IntKind.wrap IntKind.u8 (Int.fdiv (Int.fdiv x (4294967296:Int)) (65536:Int)) ∧ IntKind.wrap IntKind.u8 (Int.fdiv (Int.fdiv x (4294967296:Int)) (65536:Int)) < (256:Int) then true else false else if cLe (256:Int) (Int.fdiv x (4294967296:Int)) = true then if (0:Int) ≤ IntKind.wrap IntKind.u8 (Int.fdiv (Int.fdiv x (4294967296:Int)) (256:Int)) ∧ IntKind.wrap IntKind.u8 (Int.fdiv (Int.fdiv x (4294967296:Int)) (256:Int)) < (256:Int) then true else false else if (0:Int) ≤ IntKind.wrap IntKind.u8 (Int.fdiv x (4294967296:Int)) ∧ IntKind.wrap IntKind.u8 (Int.fdiv x (4294967296:Int)) < (256:Int) then true else false else if cLe (65536:Int) x = true then if cLe (256:Int) (Int.fdiv x (65536:Int)) = true then if (0:Int) ≤ IntKind.wrap IntKind.u8 (Int.fdiv (Int.fdiv x (65536:Int)) (256:Int)) ∧ IntKind.wrap IntKind.u8 (Int.fdiv (Int.fdiv x (65536:Int)) (256:Int)) < (256:Int) then true else false else if (0:Int) ≤ IntKind.wrap IntKind.u8 (Int.fdiv x (65536:Int)) ∧ IntKind.wrap IntKind.u8 (Int.fdiv x (65536:Int)) < (256:Int) then true else false else if cLe (256:Int) x = true then if (0:Int) ≤ IntKind.wrap IntKind.u8 (Int.fdiv x (256:Int)) ∧ IntKind.wrap IntKind.u8 (Int.fdiv x (256:Int)) < (256:Int) then true else false else if (0:Int) ≤ IntKind.wrap IntKind.u8 x ∧ IntKind.wrap IntKind.u8 x < (256:Int) then true else false
noncomputable def _root_.Go.Proofs.YtfkgmidgdpfnkaaGreat.V.len64_r0 (x:Int):Int := if cLe (4294967296:Int) x = true then if cLe (65536:Int) (Int.fdiv x (4294967296:Int)) = true then if cLe (256:Int) (Int.fdiv (Int.fdiv x (4294967296:Int)) (65536:Int)) = true then if (0:Int) ≤ IntKind.wrap IntKind.u8 (Int.fdiv (Int.fdiv (Int.fdiv x (4294967296:Int)) (65536:Int)) (256:Int)) ∧ IntKind.wrap IntKind.u8 (Int.fdiv (Int.fdiv (Int.fdiv x (4294967296:Int)) (65536:Int)) (256:Int)) < (256:Int) then IntKind.wrap .i64 ((56:Int) + IntKind.wrap .i64 (strAt len8 (IntKind.wrap IntKind.u8 (Int.fdiv (Int.fdiv (Int.fdiv x (4294967296:Int)) (65536:Int)) (256:Int))))) else (0:Int) else if (0:Int) ≤ IntKind.wrap IntKind.u8 (Int.fdiv (Int.fdiv x (4294967296:Int)) (65536:Int)) ∧ IntKind.wrap IntKind.u8 (Int.fdiv (Int.fdiv x (4294967296:Int)) (65536:Int)) < (256:Int) then IntKind.wrap .i64 ((48:Int) + IntKind.wrap .i64 (strAt len8 (IntKind.wrap IntKind.u8 (Int.fdiv (Int.fdiv x (4294967296:Int)) (65536:Int))))) else (0:Int) else if cLe (256:Int) (Int.fdiv x (4294967296:Int)) = true then if (0:Int) ≤ IntKind.wrap IntKind.u8 (Int.fdiv (Int.fdiv x (4294967296:Int)) (256:Int)) ∧ IntKind.wrap IntKind.u8 (Int.fdiv (Int.fdiv x (4294967296:Int)) (256:Int)) < (256:Int) then IntKind.wrap .i64 ((40:Int) + IntKind.wrap .i64 (strAt len8 (IntKind.wrap IntKind.u8 (Int.fdiv (Int.fdiv x (4294967296:Int)) (256:Int))))) else (0:Int) else if (0:Int) ≤ IntKind.wrap IntKind.u8 (Int.fdiv x (4294967296:Int)) ∧ IntKind.wrap IntKind.u8 (Int.fdiv x (4294967296:Int)) < (256:Int) then IntKind.wrap .i64 ((32:Int) + IntKind.wrap .i64 (strAt len8 (IntKind.wrap IntKind.u8 (Int.fdiv x (4294967296:Int))))) else (0:Int) else if cLe (65536:Int) x = true then if cLe (256:Int) (Int.fdiv x (65536:Int)) = true then if (0:Int) ≤ IntKind.wrap IntKind.u8 (Int.fdiv (Int.fdiv x (65536:Int)) (256:Int)) ∧ IntKind.wrap IntKind.u8 (Int.fdiv (Int.fdiv x (65536:Int)) (256:Int)) < (256:Int) then IntKind.wrap .i64 ((24:Int) + IntKind.wrap .i64 (strAt len8 (IntKind.wrap IntKind.u8 (Int.fdiv (Int.fdiv x (65536:Int)) (256:Int))))) else (0:Int) else if (0:Int) ≤ IntKind.wrap IntKind.u8 (Int.fdiv x (65536:Int)) ∧ IntKind.wrap IntKind.u8 (Int.fdiv x (65536:Int)) < (256:Int) then IntKind.wrap .i64 ((16:Int) + IntKind.wrap .i64 (strAt len8 (IntKind.wrap IntKind.u8 (Int.fdiv x (65536:Int))))) else (0:Int) else if cLe (256:Int) x = true then if (0:Int) ≤ IntKind.wrap IntKind.u8 (Int.fdiv x (256:Int)) ∧ IntKind.wrap IntKind.u8 (Int.fdiv x (256:Int)) < (256:Int) then IntKind.wrap .i64 ((8:Int) + IntKind.wrap .i64 (strAt len8 (IntKind.wrap IntKind.u8 (Int.fdiv x (256:Int))))) else (0:Int) else if (0:Int) ≤ IntKind.wrap IntKind.u8 x ∧ IntKind.wrap IntKind.u8 x < (256:Int) then IntKind.wrap .i64 ((0:Int) + IntKind.wrap .i64 (strAt len8 (IntKind.wrap IntKind.u8 x))) else (0:Int)
theorem len64_val {α:Type} (x:Int) (k0:Int → Option α):M.len64 x k0 = if V.len64_g x = true then k0 (V.len64_r0 x) else none := by
 unfold M.len64 V.len64_g V.len64_r0
 repeat' first | rfl | (split <;> rename_i h <;> first | simp only [if_pos h] | simp only [if_neg h] | skip)
noncomputable def len64_c {α:Type} (ds:List D) (Q:SV → Hp → Option α):Option α :=
 dI ds fun x ds => dE ds (if V.len64_g x = true then Q (SV.int .i64 (V.len64_r0 x)) ([]) else none)
theorem len64_c_ok {α:Type}:FnOk E.P 144 (fEnt (α := α) len64_sp len64_c) :=
 fEnt_ok E (look_rgreat_ok) (exec_sound E E_ok (look_rgreat_ok) (noLps_ok _) 400) fun ds Q r h => by
   unfold len64_c at h
   obtain ⟨x,ds,rfl,h1⟩ := dI_inv h
   obtain ⟨rfl,hE⟩ := dE_inv h1
   exact ⟨[SV.int IntKind.u64 x],[],fun vs => by kernel_rfl,(len64_eq x Q).trans ((len64_val x (fun (x5:Int) => Q (SV.int .i64 x5) ([]))).trans hE)⟩
noncomputable def look_len64 {α:Type}:LookF α := addFn 144 (fEnt len64_sp len64_c) look_rgreat
theorem look_len64_ok {α:Type}:LookOk E.P (look_len64 (α := α)) := addFn_ok len64_c_ok (look_rgreat_ok)
noncomputable def M.lz64 {α:Type} (x:Int) (k0:Int → Option α):Option α := if V.len64_g x = true then k0 (IntKind.wrap .i64 ((64:Int) - V.len64_r0 x)) else none
theorem lz64_eq {α:Type} (x:Int) (Q:SV → Hp → Option α):callI E look_len64 (exec E look_len64 noLps 400) 136 ([SV.int IntKind.u64 x]) ([]) Q = M.lz64 x (fun (x6:Int) => Q (SV.int .i64 x6) ([])) := by kernel_rfl
def lz64_sp:List AS := [.val (.int .u64 0)]
noncomputable def _root_.Go.Proofs.YtfkgmidgdpfnkaaGreat.V.lz64_g (x:Int):Bool := if V.len64_g x = true then true else false
noncomputable def _root_.Go.Proofs.YtfkgmidgdpfnkaaGreat.V.lz64_r0 (x:Int):Int := if V.len64_g x = true then IntKind.wrap .i64 ((64:Int) - V.len64_r0 x) else (0:Int)
theorem lz64_val {α:Type} (x:Int) (k0:Int → Option α):M.lz64 x k0 = if V.lz64_g x = true then k0 (V.lz64_r0 x) else none := by
 unfold M.lz64 V.lz64_g V.lz64_r0
 repeat' first | rfl | (split <;> rename_i h <;> first | simp only [if_pos h] | simp only [if_neg h] | skip)
noncomputable def lz64_c {α:Type} (ds:List D) (Q:SV → Hp → Option α):Option α :=
 dI ds fun x ds => dE ds (if V.lz64_g x = true then Q (SV.int .i64 (V.lz64_r0 x)) ([]) else none)
theorem lz64_c_ok {α:Type}:FnOk E.P 136 (fEnt (α := α) lz64_sp lz64_c) :=
 fEnt_ok E (look_len64_ok) (exec_sound E E_ok (look_len64_ok) (noLps_ok _) 400) fun ds Q r h => by
   unfold lz64_c at h
   obtain ⟨x,ds,rfl,h1⟩ := dI_inv h
   obtain ⟨rfl,hE⟩ := dE_inv h1
   exact ⟨[SV.int IntKind.u64 x],[],fun vs => by kernel_rfl,(lz64_eq x Q).trans ((lz64_val x (fun (x6:Int) => Q (SV.int .i64 x6) ([]))).trans hE)⟩
noncomputable def look_lz64 {α:Type}:LookF α := addFn 136 (fEnt lz64_sp lz64_c) look_len64
theorem look_lz64_ok {α:Type}:LookOk E.P (look_lz64 (α := α)) := addFn_ok lz64_c_ok (look_len64_ok)
noncomputable abbrev div64_S1 (y1 y2 y3 y4 y5 y6 y7 y8 y9:Int):St := St.mk (none :: none :: some (SV.int IntKind.u64 y1) :: nn 5 (some (SV.int IntKind.u64 y2) :: some (SV.int IntKind.u64 y3) :: some (SV.int IntKind.u64 y4) :: some (SV.int IntKind.u64 y5) :: none :: some (SV.int IntKind.u64 y6) :: some (SV.int IntKind.u64 y7) :: some (SV.int IntKind.u64 y8) :: some (SV.int IntKind.u64 y9) :: nn 118 ([]))) []
noncomputable abbrev div64_S2 (y1 y2 y3 y4 y5 y6 y7 y8:Int):St := St.mk (none :: none :: some (SV.int IntKind.u64 y1) :: nn 5 (some (SV.int IntKind.u64 y2) :: some (SV.int IntKind.u64 y3) :: some (SV.int IntKind.u64 y4) :: some (SV.int IntKind.u64 y5) :: none :: some (SV.int IntKind.u64 y6) :: some (SV.int IntKind.u64 y7) :: some (SV.int IntKind.u64 y8) :: nn 119 ([]))) []
noncomputable abbrev div64_S3:St := St.mk (none :: none :: some (SV.int IntKind.u64 (0:Int)) :: nn 5 (some (SV.int IntKind.u64 (0:Int)) :: some (SV.int IntKind.u64 (0:Int)) :: some (SV.int IntKind.u64 (0:Int)) :: some (SV.int IntKind.u64 (0:Int)) :: none :: some (SV.int IntKind.u64 (0:Int)) :: some (SV.int IntKind.u64 (0:Int)) :: some (SV.int IntKind.u64 (0:Int)) :: some (SV.int IntKind.u64 (0:Int)) :: nn 118 ([]))) []
noncomputable abbrev div64_S4 (y1 y2 y3 y4 y5 y6 y7 y8 y9:Int):St := St.mk (none :: none :: some (SV.int IntKind.u64 y1) :: nn 5 (some (SV.int IntKind.u64 y2) :: some (SV.int IntKind.u64 y3) :: some (SV.int IntKind.u64 y4) :: nn 3 (some (SV.int IntKind.u64 y5) :: some (SV.int IntKind.u64 y6) :: some (SV.int IntKind.u64 y7) :: some (SV.int IntKind.u64 y8) :: some (SV.int IntKind.u64 y9) :: nn 116 ([])))) []
noncomputable abbrev div64_S5 (y1 y2 y3 y4 y5 y6:Int):St := St.mk (none :: none :: some (SV.int IntKind.u64 y1) :: nn 5 (some (SV.int IntKind.u64 y2) :: nn 5 (some (SV.int IntKind.u64 y3) :: some (SV.int IntKind.u64 y4) :: none :: some (SV.int IntKind.u64 y5) :: some (SV.int IntKind.u64 y6) :: nn 116 ([])))) []
noncomputable abbrev div64_S6:St := St.mk (none :: none :: some (SV.int IntKind.u64 (0:Int)) :: nn 5 (some (SV.int IntKind.u64 (0:Int)) :: some (SV.int IntKind.u64 (0:Int)) :: some (SV.int IntKind.u64 (0:Int)) :: nn 3 (some (SV.int IntKind.u64 (0:Int)) :: some (SV.int IntKind.u64 (0:Int)) :: some (SV.int IntKind.u64 (0:Int)) :: some (SV.int IntKind.u64 (0:Int)) :: some (SV.int IntKind.u64 (0:Int)) :: nn 116 ([])))) []
abbrev div64_P1:List Bool := [false,false,true,true,true,true,true,true,true,true,true,true,true,true,true,true,true,true,true,true]
abbrev div64_P2:List Bool := [false,false,true,true,true,true,true,true,true,true,true,true,true,true,true,true]
noncomputable def M.div64_l0_step {α:Type} (x18 x19 x21:Int) (kn:Int → Int → Option α) (k0:Int → Option α) (x23 x24:Int):Option α := if cLe (4294967296:Int) x23 = true then if cLe (4294967296:Int) (IntKind.wrap IntKind.u64 (x24 + x18)) = true then k0 (IntKind.wrap IntKind.u64 (x23 - (1:Int))) else kn (IntKind.wrap IntKind.u64 (x23 - (1:Int))) (IntKind.wrap IntKind.u64 (x24 + x18)) else if cLt (IntKind.wrap IntKind.u64 (IntKind.wrap IntKind.u64 ((4294967296:Int) * x24) + x21)) (IntKind.wrap IntKind.u64 (x23 * x19)) = true then if cLe (4294967296:Int) (IntKind.wrap IntKind.u64 (x24 + x18)) = true then k0 (IntKind.wrap IntKind.u64 (x23 - (1:Int))) else kn (IntKind.wrap IntKind.u64 (x23 - (1:Int))) (IntKind.wrap IntKind.u64 (x24 + x18)) else k0 x23
noncomputable def M.div64_l0 {α:Type} (x18 x19 x21:Int) (k0:Int → Option α):Nat → Int → Int → Option α
 | 0,_,_ => none
 | n + 1,x23,x24 => M.div64_l0_step x18 x19 x21 (M.div64_l0 x18 x19 x21 k0 n) k0 x23 x24
theorem div64_l0_step_eq {α:Type} (x16 x17 x18 x19 x20 x21 x22 x23 x24:Int) (Q:Ex → St → Option α):(loopStep E (exec E look_lz64 noLps 400) 116 div64_P2 0 (codeAt E.P 116 div64_P2)) (div64_S1 x16 x17 x18 x19 x20 x21 x22 x23 x24) Q = M.div64_l0_step x18 x19 x21 (fun (x26 x27:Int) => Q .normal (div64_S1 x16 x17 x18 x19 x20 x21 x22 x26 x27)) (fun (x25:Int) => Q (.exit 0) (div64_S2 x16 x17 x18 x19 x20 x21 x22 x25)) x23 x24 := by kernel_rfl
theorem div64_l0_iter {α:Type} (x16 x17 x18 x19 x20 x21 x22:Int) (Q:Ex → St → Option α):∀ (n:Nat) (x23 x24:Int),iter (loopStep E (exec E look_lz64 noLps 400) 116 div64_P2 0 (codeAt E.P 116 div64_P2)) n (div64_S1 x16 x17 x18 x19 x20 x21 x22 x23 x24) Q = M.div64_l0 x18 x19 x21 (fun (x25:Int) => Q (.exit 0) (div64_S2 x16 x17 x18 x19 x20 x21 x22 x25)) n x23 x24
 | 0,_,_ => rfl
 | n + 1,x23,x24 => (div64_l0_step_eq x16 x17 x18 x19 x20 x21 x22 x23 x24 (iterK (loopStep E (exec E look_lz64 noLps 400) 116 div64_P2 0 (codeAt E.P 116 div64_P2)) n Q)).trans (congrArg (fun kn => M.div64_l0_step x18 x19 x21 kn (fun (x25:Int) => Q (.exit 0) (div64_S2 x16 x17 x18 x19 x20 x21 x22 x25)) x23 x24) (funext fun x23 => funext fun x24 => div64_l0_iter x16 x17 x18 x19 x20 x21 x22 Q n x23 x24))
noncomputable def div64_l0_go {α:Type} (ds:List D) (Q:Ex → St → Option α):Option α :=
 dI ds fun x16 ds => dI ds fun x17 ds => dI ds fun x18 ds => dI ds fun x19 ds => dI ds fun x20 ds => dI ds fun x21 ds => dI ds fun x22 ds => dI ds fun x23 ds => dI ds fun x24 ds => dE ds (M.div64_l0 x18 x19 x21 (fun (x25:Int) => Q (.exit 0) (div64_S2 x16 x17 x18 x19 x20 x21 x22 x25)) (100) x23 x24)
theorem div64_l0_ok {α:Type}:LoopOk E.P 116 div64_P2 0 (lEnt (α := α) (div64_S3) div64_l0_go) :=
 lEnt_ok E (exec_sound E E_ok (look_lz64_ok) (noLps_ok _) 400) fun ds Q r h S hS => by
   unfold div64_l0_go at h
   obtain ⟨x16,ds,rfl,h1⟩ := dI_inv h
   obtain ⟨x17,ds,rfl,h2⟩ := dI_inv h1
   obtain ⟨x18,ds,rfl,h3⟩ := dI_inv h2
   obtain ⟨x19,ds,rfl,h4⟩ := dI_inv h3
   obtain ⟨x20,ds,rfl,h5⟩ := dI_inv h4
   obtain ⟨x21,ds,rfl,h6⟩ := dI_inv h5
   obtain ⟨x22,ds,rfl,h7⟩ := dI_inv h6
   obtain ⟨x23,ds,rfl,h8⟩ := dI_inv h7
   obtain ⟨x24,ds,rfl,h9⟩ := dI_inv h8
   obtain ⟨rfl,hE⟩ := dE_inv h9
   have e:fillS (div64_S3) [.i x16,.i x17,.i x18,.i x19,.i x20,.i x21,.i x22,.i x23,.i x24] = some (div64_S1 x16 x17 x18 x19 x20 x21 x22 x23 x24) := by kernel_rfl
   rw [e] at hS
   cases hS
   exact ⟨_,(div64_l0_iter x16 x17 x18 x19 x20 x21 x22 Q _ x23 x24).trans hE⟩
noncomputable def div64_l0_lps {α:Type}:LookL α := addLp 116 div64_P2 0 (lEnt (div64_S3) div64_l0_go) noLps
theorem div64_l0_lps_ok {α:Type}:LoopsOk E.P (div64_l0_lps (α := α)) := addLp_ok div64_l0_ok (noLps_ok _)
noncomputable def M.div64_l1_step {α:Type} (x40 x41 x42:Int) (kn:Int → Int → Option α) (k0:Int → Option α) (x44 x46:Int):Option α := if cLe (4294967296:Int) x46 = true then if cLe (4294967296:Int) (IntKind.wrap IntKind.u64 (x44 + x40)) = true then k0 (IntKind.wrap IntKind.u64 (x46 - (1:Int))) else kn (IntKind.wrap IntKind.u64 (x44 + x40)) (IntKind.wrap IntKind.u64 (x46 - (1:Int))) else if cLt (IntKind.wrap IntKind.u64 (IntKind.wrap IntKind.u64 ((4294967296:Int) * x44) + x42)) (IntKind.wrap IntKind.u64 (x46 * x41)) = true then if cLe (4294967296:Int) (IntKind.wrap IntKind.u64 (x44 + x40)) = true then k0 (IntKind.wrap IntKind.u64 (x46 - (1:Int))) else kn (IntKind.wrap IntKind.u64 (x44 + x40)) (IntKind.wrap IntKind.u64 (x46 - (1:Int))) else k0 x46
noncomputable def M.div64_l1 {α:Type} (x40 x41 x42:Int) (k0:Int → Option α):Nat → Int → Int → Option α
 | 0,_,_ => none
 | n + 1,x44,x46 => M.div64_l1_step x40 x41 x42 (M.div64_l1 x40 x41 x42 k0 n) k0 x44 x46
theorem div64_l1_step_eq {α:Type} (x38 x39 x40 x41 x42 x43 x44 x45 x46:Int) (Q:Ex → St → Option α):(loopStep E (exec E look_lz64 div64_l0_lps 400) 116 div64_P1 0 (codeAt E.P 116 div64_P1)) (div64_S4 x38 x39 x40 x41 x42 x43 x44 x45 x46) Q = M.div64_l1_step x40 x41 x42 (fun (x48 x49:Int) => Q .normal (div64_S4 x38 x39 x40 x41 x42 x43 x48 x45 x49)) (fun (x47:Int) => Q (.exit 2) (div64_S5 x38 x39 x42 x43 x45 x47)) x44 x46 := by kernel_rfl
theorem div64_l1_iter {α:Type} (x38 x39 x40 x41 x42 x43 x45:Int) (Q:Ex → St → Option α):∀ (n:Nat) (x44 x46:Int),iter (loopStep E (exec E look_lz64 div64_l0_lps 400) 116 div64_P1 0 (codeAt E.P 116 div64_P1)) n (div64_S4 x38 x39 x40 x41 x42 x43 x44 x45 x46) Q = M.div64_l1 x40 x41 x42 (fun (x47:Int) => Q (.exit 2) (div64_S5 x38 x39 x42 x43 x45 x47)) n x44 x46
 | 0,_,_ => rfl
 | n + 1,x44,x46 => (div64_l1_step_eq x38 x39 x40 x41 x42 x43 x44 x45 x46 (iterK (loopStep E (exec E look_lz64 div64_l0_lps 400) 116 div64_P1 0 (codeAt E.P 116 div64_P1)) n Q)).trans (congrArg (fun kn => M.div64_l1_step x40 x41 x42 kn (fun (x47:Int) => Q (.exit 2) (div64_S5 x38 x39 x42 x43 x45 x47)) x44 x46) (funext fun x44 => funext fun x46 => div64_l1_iter x38 x39 x40 x41 x42 x43 x45 Q n x44 x46))
noncomputable def div64_l1_go {α:Type} (ds:List D) (Q:Ex → St → Option α):Option α :=
 dI ds fun x38 ds => dI ds fun x39 ds => dI ds fun x40 ds => dI ds fun x41 ds => dI ds fun x42 ds => dI ds fun x43 ds => dI ds fun x44 ds => dI ds fun x45 ds => dI ds fun x46 ds => dE ds (M.div64_l1 x40 x41 x42 (fun (x47:Int) => Q (.exit 2) (div64_S5 x38 x39 x42 x43 x45 x47)) (100) x44 x46)
theorem div64_l1_ok {α:Type}:LoopOk E.P 116 div64_P1 0 (lEnt (α := α) (div64_S6) div64_l1_go) :=
 lEnt_ok E (exec_sound E E_ok (look_lz64_ok) (div64_l0_lps_ok) 400) fun ds Q r h S hS => by
   unfold div64_l1_go at h
   obtain ⟨x38,ds,rfl,h1⟩ := dI_inv h
   obtain ⟨x39,ds,rfl,h2⟩ := dI_inv h1
   obtain ⟨x40,ds,rfl,h3⟩ := dI_inv h2
   obtain ⟨x41,ds,rfl,h4⟩ := dI_inv h3
   obtain ⟨x42,ds,rfl,h5⟩ := dI_inv h4
   obtain ⟨x43,ds,rfl,h6⟩ := dI_inv h5
   obtain ⟨x44,ds,rfl,h7⟩ := dI_inv h6
   obtain ⟨x45,ds,rfl,h8⟩ := dI_inv h7
   obtain ⟨x46,ds,rfl,h9⟩ := dI_inv h8
   obtain ⟨rfl,hE⟩ := dE_inv h9
   have e:fillS (div64_S6) [.i x38,.i x39,.i x40,.i x41,.i x42,.i x43,.i x44,.i x45,.i x46] = some (div64_S4 x38 x39 x40 x41 x42 x43 x44 x45 x46) := by kernel_rfl
   rw [e] at hS
   cases hS
   exact ⟨_,(div64_l1_iter x38 x39 x40 x41 x42 x43 x45 Q _ x44 x46).trans hE⟩
noncomputable def div64_l1_lps {α:Type}:LookL α := addLp 116 div64_P1 0 (lEnt (div64_S6) div64_l1_go) div64_l0_lps
theorem div64_l1_lps_ok {α:Type}:LoopsOk E.P (div64_l1_lps (α := α)) := addLp_ok div64_l1_ok (div64_l0_lps_ok)
noncomputable def M.div64 {α:Type} (hi:Int) (lo:Int) (y:Int) (k0:Int → Int → Option α):Option α := if cEq y (0:Int) = true then none else if cLe y hi = true then none else if cEq hi (0:Int) = true then if y = (0:Int) then none else if y = (0:Int) then none else k0 (IntKind.wrap IntKind.u64 (Int.tdiv lo y)) (Int.tmod lo y) else if V.lz64_g y = true then if IntKind.wrap IntKind.u64 (V.lz64_r0 y) < (0:Int) then none else if IntKind.wrap IntKind.u64 (V.lz64_r0 y) < (0:Int) then none else if IntKind.wrap IntKind.u64 ((64:Int) - IntKind.wrap IntKind.u64 (V.lz64_r0 y)) < (0:Int) then none else if IntKind.wrap IntKind.u64 (V.lz64_r0 y) < (0:Int) then none else if Int.fdiv (IntKind.wrap IntKind.u64 (y * (2:Int) ^ min (Int.toNat (IntKind.wrap IntKind.u64 (V.lz64_r0 y))) (64:Nat))) (4294967296:Int) = (0:Int) then none else M.div64_l0 (Int.fdiv (IntKind.wrap IntKind.u64 (y * (2:Int) ^ min (Int.toNat (IntKind.wrap IntKind.u64 (V.lz64_r0 y))) (64:Nat))) (4294967296:Int)) (bandI IntKind.u64 (IntKind.wrap IntKind.u64 (y * (2:Int) ^ min (Int.toNat (IntKind.wrap IntKind.u64 (V.lz64_r0 y))) (64:Nat))) (4294967295:Int)) (Int.fdiv (IntKind.wrap IntKind.u64 (lo * (2:Int) ^ min (Int.toNat (IntKind.wrap IntKind.u64 (V.lz64_r0 y))) (64:Nat))) (4294967296:Int)) (fun (x50:Int) ↦ if Int.fdiv (IntKind.wrap IntKind.u64 (y * (2:Int) ^ min (Int.toNat (IntKind.wrap IntKind.u64 (V.lz64_r0 y))) (64:Nat))) (4294967296:Int) = (0:Int) then none else M.div64_l1 (Int.fdiv (IntKind.wrap IntKind.u64 (y * (2:Int) ^ min (Int.toNat (IntKind.wrap IntKind.u64 (V.lz64_r0 y))) (64:Nat))) (4294967296:Int)) (bandI IntKind.u64 (IntKind.wrap IntKind.u64 (y * (2:Int) ^ min (Int.toNat (IntKind.wrap IntKind.u64 (V.lz64_r0 y))) (64:Nat))) (4294967295:Int)) (bandI IntKind.u64 (IntKind.wrap IntKind.u64 (lo * (2:Int) ^ min (Int.toNat (IntKind.wrap IntKind.u64 (V.lz64_r0 y))) (64:Nat))) (4294967295:Int)) (fun (x51:Int) ↦ if IntKind.wrap IntKind.u64 (V.lz64_r0 y) < (0:Int) then none else k0 (IntKind.wrap IntKind.u64 (IntKind.wrap IntKind.u64 (x50 * (4294967296:Int)) + x51)) (Int.fdiv (IntKind.wrap IntKind.u64 (IntKind.wrap IntKind.u64 (IntKind.wrap IntKind.u64 (IntKind.wrap IntKind.u64 (IntKind.wrap IntKind.u64 (IntKind.wrap IntKind.u64 (borI IntKind.u64 (IntKind.wrap IntKind.u64 (hi * (2:Int) ^ min (Int.toNat (IntKind.wrap IntKind.u64 (V.lz64_r0 y))) (64:Nat))) (Int.fdiv lo ((2:Int) ^ min (Int.toNat (IntKind.wrap IntKind.u64 ((64:Int) - IntKind.wrap IntKind.u64 (V.lz64_r0 y)))) (64:Nat))) * (4294967296:Int)) + Int.fdiv (IntKind.wrap IntKind.u64 (lo * (2:Int) ^ min (Int.toNat (IntKind.wrap IntKind.u64 (V.lz64_r0 y))) (64:Nat))) (4294967296:Int)) - IntKind.wrap IntKind.u64 (x50 * IntKind.wrap IntKind.u64 (y * (2:Int) ^ min (Int.toNat (IntKind.wrap IntKind.u64 (V.lz64_r0 y))) (64:Nat)))) * (4294967296:Int)) + bandI IntKind.u64 (IntKind.wrap IntKind.u64 (lo * (2:Int) ^ min (Int.toNat (IntKind.wrap IntKind.u64 (V.lz64_r0 y))) (64:Nat))) (4294967295:Int)) - IntKind.wrap IntKind.u64 (x51 * IntKind.wrap IntKind.u64 (y * (2:Int) ^ min (Int.toNat (IntKind.wrap IntKind.u64 (V.lz64_r0 y))) (64:Nat))))) ((2:Int) ^ min (Int.toNat (IntKind.wrap IntKind.u64 (V.lz64_r0 y))) (64:Nat)))) (100:Nat) (IntKind.wrap IntKind.u64 (IntKind.wrap IntKind.u64 (IntKind.wrap IntKind.u64 (IntKind.wrap IntKind.u64 (borI IntKind.u64 (IntKind.wrap IntKind.u64 (hi * (2:Int) ^ min (Int.toNat (IntKind.wrap IntKind.u64 (V.lz64_r0 y))) (64:Nat))) (Int.fdiv lo ((2:Int) ^ min (Int.toNat (IntKind.wrap IntKind.u64 ((64:Int) - IntKind.wrap IntKind.u64 (V.lz64_r0 y)))) (64:Nat))) * (4294967296:Int)) + Int.fdiv (IntKind.wrap IntKind.u64 (lo * (2:Int) ^ min (Int.toNat (IntKind.wrap IntKind.u64 (V.lz64_r0 y))) (64:Nat))) (4294967296:Int)) - IntKind.wrap IntKind.u64 (x50 * IntKind.wrap IntKind.u64 (y * (2:Int) ^ min (Int.toNat (IntKind.wrap IntKind.u64 (V.lz64_r0 y))) (64:Nat)))) - IntKind.wrap IntKind.u64 (IntKind.wrap IntKind.u64 (Int.tdiv (IntKind.wrap IntKind.u64 (IntKind.wrap IntKind.u64 (IntKind.wrap IntKind.u64 (borI IntKind.u64 (IntKind.wrap IntKind.u64 (hi * (2:Int) ^ min (Int.toNat (IntKind.wrap IntKind.u64 (V.lz64_r0 y))) (64:Nat))) (Int.fdiv lo ((2:Int) ^ min (Int.toNat (IntKind.wrap IntKind.u64 ((64:Int) - IntKind.wrap IntKind.u64 (V.lz64_r0 y)))) (64:Nat))) * (4294967296:Int)) + Int.fdiv (IntKind.wrap IntKind.u64 (lo * (2:Int) ^ min (Int.toNat (IntKind.wrap IntKind.u64 (V.lz64_r0 y))) (64:Nat))) (4294967296:Int)) - IntKind.wrap IntKind.u64 (x50 * IntKind.wrap IntKind.u64 (y * (2:Int) ^ min (Int.toNat (IntKind.wrap IntKind.u64 (V.lz64_r0 y))) (64:Nat))))) (Int.fdiv (IntKind.wrap IntKind.u64 (y * (2:Int) ^ min (Int.toNat (IntKind.wrap IntKind.u64 (V.lz64_r0 y))) (64:Nat))) (4294967296:Int))) * Int.fdiv (IntKind.wrap IntKind.u64 (y * (2:Int) ^ min (Int.toNat (IntKind.wrap IntKind.u64 (V.lz64_r0 y))) (64:Nat))) (4294967296:Int)))) (IntKind.wrap IntKind.u64 (Int.tdiv (IntKind.wrap IntKind.u64 (IntKind.wrap IntKind.u64 (IntKind.wrap IntKind.u64 (borI IntKind.u64 (IntKind.wrap IntKind.u64 (hi * (2:Int) ^ min (Int.toNat (IntKind.wrap IntKind.u64 (V.lz64_r0 y))) (64:Nat))) (Int.fdiv lo ((2:Int) ^ min (Int.toNat (IntKind.wrap IntKind.u64 ((64:Int) - IntKind.wrap IntKind.u64 (V.lz64_r0 y)))) (64:Nat))) * (4294967296:Int)) + Int.fdiv (IntKind.wrap IntKind.u64 (lo * (2:Int) ^ min (Int.toNat (IntKind.wrap IntKind.u64 (V.lz64_r0 y))) (64:Nat))) (4294967296:Int)) - IntKind.wrap IntKind.u64 (x50 * IntKind.wrap IntKind.u64 (y * (2:Int) ^ min (Int.toNat (IntKind.wrap IntKind.u64 (V.lz64_r0 y))) (64:Nat))))) (Int.fdiv (IntKind.wrap IntKind.u64 (y * (2:Int) ^ min (Int.toNat (IntKind.wrap IntKind.u64 (V.lz64_r0 y))) (64:Nat))) (4294967296:Int))))) (100:Nat) (IntKind.wrap IntKind.u64 (Int.tdiv (borI IntKind.u64 (IntKind.wrap IntKind.u64 (hi * (2:Int) ^ min (Int.toNat (IntKind.wrap IntKind.u64 (V.lz64_r0 y))) (64:Nat))) (Int.fdiv lo ((2:Int) ^ min (Int.toNat (IntKind.wrap IntKind.u64 ((64:Int) - IntKind.wrap IntKind.u64 (V.lz64_r0 y)))) (64:Nat)))) (Int.fdiv (IntKind.wrap IntKind.u64 (y * (2:Int) ^ min (Int.toNat (IntKind.wrap IntKind.u64 (V.lz64_r0 y))) (64:Nat))) (4294967296:Int)))) (IntKind.wrap IntKind.u64 (borI IntKind.u64 (IntKind.wrap IntKind.u64 (hi * (2:Int) ^ min (Int.toNat (IntKind.wrap IntKind.u64 (V.lz64_r0 y))) (64:Nat))) (Int.fdiv lo ((2:Int) ^ min (Int.toNat (IntKind.wrap IntKind.u64 ((64:Int) - IntKind.wrap IntKind.u64 (V.lz64_r0 y)))) (64:Nat))) - IntKind.wrap IntKind.u64 (IntKind.wrap IntKind.u64 (Int.tdiv (borI IntKind.u64 (IntKind.wrap IntKind.u64 (hi * (2:Int) ^ min (Int.toNat (IntKind.wrap IntKind.u64 (V.lz64_r0 y))) (64:Nat))) (Int.fdiv lo ((2:Int) ^ min (Int.toNat (IntKind.wrap IntKind.u64 ((64:Int) - IntKind.wrap IntKind.u64 (V.lz64_r0 y)))) (64:Nat)))) (Int.fdiv (IntKind.wrap IntKind.u64 (y * (2:Int) ^ min (Int.toNat (IntKind.wrap IntKind.u64 (V.lz64_r0 y))) (64:Nat))) (4294967296:Int))) * Int.fdiv (IntKind.wrap IntKind.u64 (y * (2:Int) ^ min (Int.toNat (IntKind.wrap IntKind.u64 (V.lz64_r0 y))) (64:Nat))) (4294967296:Int)))) else none
theorem div64_eq {α:Type} (hi:Int) (lo:Int) (y:Int) (Q:SV → Hp → Option α):callI E look_lz64 (exec E look_lz64 div64_l1_lps 400) 116 ([SV.int IntKind.u64 hi,SV.int IntKind.u64 lo,SV.int IntKind.u64 y]) ([]) Q = M.div64 hi lo y (fun (x52 x53:Int) => Q (SV.tup [SV.int IntKind.u64 x52,SV.int IntKind.u64 x53]) ([])) := by kernel_rfl
def div64_sp:List AS := [.val (.int .u64 0),.val (.int .u64 0),.val (.int .u64 0)]
theorem u64_in' {n:Int} (h0:0 ≤ n) (h1:n < 18446744073709551616):IntKind.u64.wrap n = n := IntWalk.u64_in n ⟨h0,by omega⟩
theorem div64_l0_val {α:Type} (yn1 yn0 un1:Int) (k0:Int → Option α) (h1:2147483648 ≤ yn1) (h1':yn1 < 4294967296) (h2:0 ≤ yn0) (h2':yn0 < 4294967296) (h3:0 ≤ un1) (h3':un1 < 4294967296)
   (u:Int) (hu:u < yn1 * 4294967296 + yn0):∀ (fuel:Nat) (q r:Int),0 ≤ q → q ≤ 4294967297 → 0 ≤ r → r < 4294967296 → 4294967296 ≤ r + fuel * 2147483648 → q * yn1 + r = u → (u * 4294967296 + un1) / (yn1 * 4294967296 + yn0) ≤ q →
   M.div64_l0 yn1 yn0 un1 k0 fuel q r = k0 ((u * 4294967296 + un1) / (yn1 * 4294967296 + yn0))
 | 0,q,r,a1,a2,a3,a4,a5,a6,a7 => by omega
 | n + 1,q,r,a1,a2,a3,a4,a5,a6,a7 => by
   unfold M.div64_l0 M.div64_l0_step
   have hY:0 < yn1 * 4294967296 + yn0 := by omega
   generalize hN:u * 4294967296 + un1 = N at *
   have e1:q * (yn1 * 4294967296 + yn0) = q * yn1 * 4294967296 + q * yn0 := by grind
   have e2:(q - 1) * (yn1 * 4294967296 + yn0) = q * yn1 * 4294967296 + q * yn0 - yn1 * 4294967296 - yn0 := by grind
   have hrec:N < q * (yn1 * 4294967296 + yn0) → (if cLe (4294967296:Int) (IntKind.wrap IntKind.u64 (r + yn1)) = true then k0 (IntKind.wrap IntKind.u64 (q - (1:Int)))
       else M.div64_l0 yn1 yn0 un1 k0 n (IntKind.wrap IntKind.u64 (q - (1:Int))) (IntKind.wrap IntKind.u64 (r + yn1))) = k0 (N / (yn1 * 4294967296 + yn0)) := by
     intro hlt
     have b1:N / (yn1 * 4294967296 + yn0) < q := Int.ediv_lt_of_lt_mul hY hlt
     have b0:0 ≤ N / (yn1 * 4294967296 + yn0) := by
       by_cases hq:0 ≤ N
       · exact Int.ediv_nonneg hq (by omega)
       · exfalso
         have:0 ≤ q * yn1 := Int.mul_nonneg a1 (by omega)
         omega
     rw [u64_in' (by omega:0 ≤ r + yn1) (by omega),u64_in' (by omega:0 ≤ q - 1) (by omega),cLe_eq]
     by_cases hb:4294967296 ≤ r + yn1
     · simp only [hb, decide_true, if_true]
       congr 1
       have:q - 1 ≤ N / (yn1 * 4294967296 + yn0) := by
         apply Int.le_ediv_of_mul_le hY
         rw [e2]
         have:(q - 1) * yn0 ≤ 4294967296 * yn0 := Int.mul_le_mul_of_nonneg_right (by omega) h2
         have e3:(q - 1) * yn0 = q * yn0 - yn0 := by grind
         omega
       omega
     · simp only [hb, decide_false, Bool.false_eq_true, if_false]
       have := div64_l0_val yn1 yn0 un1 k0 h1 h1' h2 h2' h3 h3' u hu n (q - 1) (r + yn1) (by omega) (by omega) (by omega) (by omega) (by omega) (by grind) (by rw [hN]; omega)
       rw [this,hN]
   simp only [cLe_eq,cLt_eq]
   rw [cLe_eq] at hrec
   have hq0:0 ≤ q * yn1 := Int.mul_nonneg a1 (by omega)
   by_cases c1:4294967296 ≤ q
   · have hlt : N < q * (yn1 * 4294967296 + yn0) := by
       have:4294967296 * (yn1 * 4294967296 + yn0) ≤ q * (yn1 * 4294967296 + yn0) := Int.mul_le_mul_of_nonneg_right c1 (by omega)
       omega
     simp only [c1,decide_true,if_true]
     simpa using hrec hlt
   · simp only [c1, decide_false, Bool.false_eq_true, if_false]
     have hm:q * yn0 ≤ 4294967295 * 4294967295 := Int.mul_le_mul (by omega) (by omega) h2 (by omega)
     have hm0:0 ≤ q * yn0 := Int.mul_nonneg a1 h2
     rw [u64_in' (by omega:0 ≤ 4294967296 * r) (by omega),u64_in' (by omega:0 ≤ 4294967296 * r + un1) (by omega),u64_in' hm0 (by omega)]
     by_cases c2:4294967296 * r + un1 < q * yn0
     · simp only [c2, decide_true, if_true]
       simpa using hrec (by rw [e1]; omega)
     · simp only [c2, decide_false, Bool.false_eq_true, if_false]
       congr 1
       have:q ≤ N / (yn1 * 4294967296 + yn0) := by
         apply Int.le_ediv_of_mul_le hY
         rw [e1]; omega
       omega
theorem div64_l1_val {α:Type} (yn1 yn0 un1:Int) (k0:Int → Option α):∀ (fuel:Nat) (q r:Int),M.div64_l1 yn1 yn0 un1 k0 fuel r q = M.div64_l0 yn1 yn0 un1 k0 fuel q r
 | 0,_,_ => rfl
 | n + 1,q,r => by
   unfold M.div64_l1 M.div64_l0 M.div64_l1_step M.div64_l0_step
   simp only [div64_l1_val yn1 yn0 un1 k0 n]
end
section
open Go
theorem p56:(2:Int) ^ 56 = 72057594037927936 := by kernel_rfl
theorem tabAll:(List.range 256).all (fun b => b == 0 || (let n := (strAt len8 (b:Int)).toNat; strAt len8 (b:Int) == (n:Int) && decide (1 ≤ n) && decide (n ≤ 8) && decide ((128:Int) ≤ (b:Int) * 2 ^ (8 - n)) && decide (((b:Int) + 1) * 2 ^ (8 - n) ≤ 256))) = true := by kernel_rfl
theorem tab (b:Int) (h0:1 ≤ b) (h1:b < 256):∃ n:Nat,strAt len8 b = n ∧ 1 ≤ n ∧ n ≤ 8 ∧ 128 ≤ b * 2 ^ (8 - n) ∧ (b + 1) * 2 ^ (8 - n) ≤ 256 := by
 obtain ⟨m,rfl⟩ := Int.eq_ofNat_of_zero_le (by omega:0 ≤ b)
 have := List.all_eq_true.1 tabAll m (List.mem_range.2 (by omega))
 clear h1
 generalize strAt len8 (m:Int) = t at *
 simp only [Bool.or_eq_true,Bool.and_eq_true,beq_iff_eq,decide_eq_true_eq] at this
 rcases this with h | ⟨⟨⟨⟨a1,a2⟩,a3⟩,a4⟩,a5⟩
 · omega
 · exact ⟨_,a1,a2,a3,a4,a5⟩
theorem lz_branch {y b:Int} {k:Nat} (h1:b * 2 ^ k ≤ y) (h2:y < (b + 1) * 2 ^ k) (hk:k ≤ 56) (h0:1 ≤ b) (h3:b < 256) :
   ∃ s:Nat,IntKind.wrap .i64 (64 - IntKind.wrap .i64 ((k:Int) + IntKind.wrap .i64 (strAt len8 b))) = s ∧ s ≤ 63 ∧ 9223372036854775808 ≤ y * 2 ^ s ∧ y * 2 ^ s < 18446744073709551616 := by
 obtain ⟨n,e,n1,n2,n3,n4⟩ := tab b h0 h3
 refine ⟨64 - (k + n),?_,by omega,?_,?_⟩
 · rw [e,IntWalk.i64_in (n:Int) (by omega),IntWalk.i64_in ((k:Int) + n) (by omega),IntWalk.i64_in _ (by omega)]; omega
 · have e1 : (2 : Int) ^ k * 2 ^ (64 - (k + n)) = 2 ^ (8 - n) * 2 ^ 56 := by
     rw [← Int.pow_add,← Int.pow_add]; exact congrArg (fun e:Nat => (2:Int) ^ e) (by omega)
   rw [p56] at e1
   have p:(0:Int) ≤ 2 ^ (64 - (k + n)) := Int.le_of_lt (Int.pow_pos (by decide))
   have := Int.mul_le_mul_of_nonneg_right h1 p
   have e2:b * 2 ^ k * 2 ^ (64 - (k + n)) = b * 2 ^ (8 - n) * 72057594037927936 := by rw [Int.mul_assoc,e1,Int.mul_assoc]
   omega
 · have e1 : (2 : Int) ^ k * 2 ^ (64 - (k + n)) = 2 ^ (8 - n) * 2 ^ 56 := by
     rw [← Int.pow_add,← Int.pow_add]; exact congrArg (fun e:Nat => (2:Int) ^ e) (by omega)
   rw [p56] at e1
   have p:(0:Int) < 2 ^ (64 - (k + n)) := Int.pow_pos (by decide)
   have := Int.mul_lt_mul_of_pos_right h2 p
   have e2:(b + 1) * 2 ^ k * 2 ^ (64 - (k + n)) = (b + 1) * 2 ^ (8 - n) * 72057594037927936 := by rw [Int.mul_assoc,e1,Int.mul_assoc]
   omega
theorem u8_in' {n:Int} (h0:0 ≤ n) (h1:n < 256):IntKind.u8.wrap n = n := IntWalk.u8_in n ⟨h0,by omega⟩
theorem fdiv_pos (a b:Int) (h:0 < b):Int.fdiv a b = a / b := Int.fdiv_eq_ediv_of_nonneg a (by omega)
theorem lz64_spec (y:Int) (h0:0 < y) (h1:y < 18446744073709551616):V.lz64_g y = true ∧ ∃ s:Nat,V.lz64_r0 y = s ∧ s ≤ 63 ∧ 9223372036854775808 ≤ y * 2 ^ s ∧ y * 2 ^ s < 18446744073709551616 := by
 unfold V.lz64_g V.lz64_r0 V.len64_g V.len64_r0
 simp only [cLe_eq,fdiv_pos _ 4294967296 (by decide),fdiv_pos _ 65536 (by decide),fdiv_pos _ 256 (by decide)]
 have key:∀ (k:Nat) (b:Int),k ≤ 56 → b = y / 2 ^ k → 1 ≤ b → b < 256 → ∃ s:Nat,IntKind.wrap .i64 (64 - IntKind.wrap .i64 ((k:Int) + IntKind.wrap .i64 (strAt len8 b))) = s ∧ s ≤ 63 ∧ 9223372036854775808 ≤ y * 2 ^ s ∧ y * 2 ^ s < 18446744073709551616 := by
   intro k b hk hb h2 h3
   have p:(0:Int) < 2 ^ k := Int.pow_pos (by decide)
   refine lz_branch ?_ ?_ hk h2 h3
   · rw [hb]; exact Int.ediv_mul_le y (by omega)
   · rw [hb]; exact Int.lt_ediv_add_one_mul_self y p
 by_cases c1:4294967296 ≤ y
 · by_cases c2 : 65536 ≤ y / 4294967296
   · by_cases c3 : 256 ≤ y / 4294967296 / 65536
     · have := key 56 (y / 4294967296 / 65536 / 256) (by omega) (by rw [show (2:Int) ^ 56 = 72057594037927936 from (by kernel_rfl)]; omega) (by omega) (by omega)
       simp only [c1,c2,c3,decide_true,if_true,u8_in' (by omega:0 ≤ y / 4294967296 / 65536 / 256) (by omega)]
       have h:0 ≤ y / 4294967296 / 65536 / 256 ∧ y / 4294967296 / 65536 / 256 < 256 := by omega
       simpa [h] using this
     · have := key 48 (y / 4294967296 / 65536) (by omega) (by rw [show (2:Int) ^ 48 = 281474976710656 from (by kernel_rfl)]; omega) (by omega) (by omega)
       simp only [c1,c2,c3,decide_true,decide_false,Bool.false_eq_true,if_false,if_true,u8_in' (by omega:0 ≤ y / 4294967296 / 65536) (by omega)]
       have h:0 ≤ y / 4294967296 / 65536 ∧ y / 4294967296 / 65536 < 256 := by omega
       simpa [h] using this
   · by_cases c3 : 256 ≤ y / 4294967296
     · have := key 40 (y / 4294967296 / 256) (by omega) (by rw [show (2:Int) ^ 40 = 1099511627776 from (by kernel_rfl)]; omega) (by omega) (by omega)
       simp only [c1,c2,c3,decide_true,decide_false,Bool.false_eq_true,if_false,if_true,u8_in' (by omega:0 ≤ y / 4294967296 / 256) (by omega)]
       have h:0 ≤ y / 4294967296 / 256 ∧ y / 4294967296 / 256 < 256 := by omega
       simpa [h] using this
     · have := key 32 (y / 4294967296) (by omega) (by rw [show (2 : Int) ^ 32 = 4294967296 from (by kernel_rfl)]) (by omega) (by omega)
       simp only [c1,c2,c3,decide_true,decide_false,Bool.false_eq_true,if_false,if_true,u8_in' (by omega:0 ≤ y / 4294967296) (by omega)]
       have h:0 ≤ y / 4294967296 ∧ y / 4294967296 < 256 := by omega
       simpa [h] using this
 · by_cases c2 : 65536 ≤ y
   · by_cases c3 : 256 ≤ y / 65536
     · have := key 24 (y / 65536 / 256) (by omega) (by rw [show (2 : Int) ^ 24 = 16777216 from (by kernel_rfl)]; omega) (by omega) (by omega)
       simp only [c1,c2,c3,decide_true,decide_false,Bool.false_eq_true,if_false,if_true,u8_in' (by omega:0 ≤ y / 65536 / 256) (by omega)]
       have h:0 ≤ y / 65536 / 256 ∧ y / 65536 / 256 < 256 := by omega
       simpa [h] using this
     · have := key 16 (y / 65536) (by omega) (by rw [show (2 : Int) ^ 16 = 65536 from (by kernel_rfl)]) (by omega) (by omega)
       simp only [c1,c2,c3,decide_true,decide_false,Bool.false_eq_true,if_false,if_true,u8_in' (by omega:0 ≤ y / 65536) (by omega)]
       have h:0 ≤ y / 65536 ∧ y / 65536 < 256 := by omega
       simpa [h] using this
   · by_cases c3 : 256 ≤ y
     · have := key 8 (y / 256) (by omega) (by rw [show (2 : Int) ^ 8 = 256 from (by kernel_rfl)]) (by omega) (by omega)
       simp only [c1,c2,c3,decide_true,decide_false,Bool.false_eq_true,if_false,if_true,u8_in' (by omega:0 ≤ y / 256) (by omega)]
       have h:0 ≤ y / 256 ∧ y / 256 < 256 := by omega
       simpa [h] using this
     · have := key 0 y (by omega) (by simp) (by omega) (by omega)
       simp only [c1,c2,c3,decide_true,decide_false,Bool.false_eq_true,if_false,if_true,u8_in' (by omega:0 ≤ y) (by omega)]
       have h:0 ≤ y ∧ y < 256 := by omega
       simpa [h] using this
end
section
open Go
theorem ofInt_toNat {x:Int} (h0:0 ≤ x) (h1:x < 18446744073709551616):(BitVec.ofInt 64 x).toNat = x.toNat := by
 rw [BitVec.toNat_ofInt]
 congr 1
 exact Int.emod_eq_of_lt h0 (by simpa using h1)
theorem band32 {x:Int} (h0:0 ≤ x) (h1:x < 18446744073709551616):bandI .u64 x 4294967295 = x % 4294967296 := by
 unfold bandI
 have e1:(BitVec.ofInt IntKind.u64.bits x &&& BitVec.ofInt IntKind.u64.bits 4294967295).toNat = x.toNat % 4294967296 := by
   show (BitVec.ofInt 64 x &&& BitVec.ofInt 64 4294967295).toNat = _
   rw [BitVec.toNat_and,ofInt_toNat h0 h1,ofInt_toNat (by decide) (by decide)]
   exact Nat.and_two_pow_sub_one_eq_mod x.toNat 32
 rw [e1,u64_in' (by omega) (by omega)]
 omega
theorem bor_add {a b:Int} {s:Nat} (h0:0 ≤ a) (h1:a * 2 ^ s < 18446744073709551616) (h2:0 ≤ b) (h3:b < 2 ^ s) (h4:a * 2 ^ s + b < 18446744073709551616):borI .u64 (a * 2 ^ s) b = a * 2 ^ s + b := by
 unfold borI
 have hp:(0:Int) < 2 ^ s := Int.pow_pos (by decide)
 have h5:0 ≤ a * 2 ^ s := Int.mul_nonneg h0 (by omega)
 obtain ⟨m,rfl⟩ := Int.eq_ofNat_of_zero_le h0
 obtain ⟨n,rfl⟩ := Int.eq_ofNat_of_zero_le h2
 have e2:((m:Int) * 2 ^ s) = ((m * 2 ^ s:Nat):Int) := by push_cast; rfl
 have h3':n < 2 ^ s := by
   have:((2 ^ s:Nat):Int) = (2:Int) ^ s := by push_cast; rfl
   omega
 have e1:(BitVec.ofInt IntKind.u64.bits ((m:Int) * 2 ^ s) ||| BitVec.ofInt IntKind.u64.bits (n:Int)).toNat = m * 2 ^ s + n := by
   show (BitVec.ofInt 64 ((m:Int) * 2 ^ s) ||| BitVec.ofInt 64 (n:Int)).toNat = _
   rw [BitVec.toNat_or,ofInt_toNat h5 h1,ofInt_toNat h2 (by omega),e2,Int.toNat_natCast,Int.toNat_natCast,Nat.mul_comm m]
   exact (Nat.two_pow_add_eq_or_of_lt h3' m).symm
 rw [e1,e2]
 exact u64_in' (by omega) (by omega)
theorem wsub3 {a b c:Int} (h0:0 ≤ a + b - c) (h1:a + b - c < 18446744073709551616):IntKind.wrap .u64 (IntKind.wrap .u64 (IntKind.wrap .u64 a + b) - IntKind.wrap .u64 c) = a + b - c := by
 simp only [IntKind.wrap_u64]; omega
theorem guess (Y u:Int) (un1:Int) (hY0:9223372036854775808 ≤ Y) (hY1:Y < 18446744073709551616) (hu0:0 ≤ u) (hu:u < Y) (h3:0 ≤ un1) (h3':un1 < 4294967296) {α:Type} (k0:Int → Option α) :
   M.div64_l0 (Y / 4294967296) (Y % 4294967296) un1 k0 100 (IntKind.wrap .u64 (Int.tdiv u (Y / 4294967296))) (IntKind.wrap .u64 (u - IntKind.wrap .u64 (IntKind.wrap .u64 (Int.tdiv u (Y / 4294967296)) * (Y / 4294967296)))) = k0 ((u * 4294967296 + un1) / Y) := by
 have e:Y / 4294967296 * 4294967296 + Y % 4294967296 = Y := by omega
 generalize ha:Y / 4294967296 = a at *
 generalize hb:Y % 4294967296 = b at *
 have ha1:2147483648 ≤ a := by omega
 have ha2:a < 4294967296 := by omega
 rw [Int.tdiv_eq_ediv_of_nonneg hu0]
 have q0:0 ≤ u / a := Int.ediv_nonneg hu0 (by omega)
 have hr:u / a * a + u % a = u := Int.ediv_mul_add_emod u a
 have hr0:0 ≤ u % a := Int.emod_nonneg u (by omega)
 have hr1:u % a < a := Int.emod_lt_of_pos u (by omega)
 have q1:u / a ≤ 4294967297 := by
   apply Int.le_of_lt_add_one
   apply Int.ediv_lt_of_lt_mul (by omega)
   have:u < a * 4294967296 + b := by omega
   omega
 have qa:0 ≤ u / a * a := Int.mul_nonneg q0 (by omega)
 rw [u64_in' q0 (by omega),u64_in' qa (by omega),u64_in' (by omega:0 ≤ u - u / a * a) (by omega)]
 have := div64_l0_val a b un1 k0 ha1 ha2 (by omega) (by omega) h3 h3' u (by omega) 100 (u / a) (u - u / a * a) q0 q1 (by omega) (by omega) (by omega) (by omega) (by
   apply Int.le_of_lt_add_one
   apply Int.ediv_lt_of_lt_mul (by omega)
   have e1:(u / a + 1) * (a * 4294967296 + b) = (u / a * a + a) * 4294967296 + u / a * b + b := by grind
   have:0 ≤ u / a * b := Int.mul_nonneg q0 (by omega)
   omega)
 rw [this,e]
theorem div64_val {α:Type} (hi lo y:Int) (h0:0 ≤ hi) (h1:hi < y) (h2:y < 18446744073709551616) (h3:0 ≤ lo) (h4:lo < 18446744073709551616) (k0:Int → Int → Option α) :
   M.div64 hi lo y k0 = k0 ((hi * 18446744073709551616 + lo) / y) ((hi * 18446744073709551616 + lo) % y) := by
 unfold M.div64
 have a1:¬ y = 0 := by omega
 have a2:¬ y ≤ hi := by omega
 simp only [cEq_eq,cLe_eq,a1,a2,beq_iff_eq,decide_false,Bool.false_eq_true,if_false]
 by_cases hh:hi = 0
 · subst hh
   simp only [if_true,Int.zero_mul,Int.zero_add]
   rw [Int.tdiv_eq_ediv_of_nonneg h3,Int.tmod_eq_emod_of_nonneg h3,u64_in' (Int.ediv_nonneg h3 (by omega))]
   exact Int.lt_of_le_of_lt (Int.ediv_le_self y h3) h4
 · simp only [hh, if_false]
   obtain ⟨g,s,hs,hs63,hY0,hY1⟩ := lz64_spec y (by omega) h2
   have hP:(0:Int) < 2 ^ s := Int.pow_pos (by decide)
   have hQ:(0:Int) < 2 ^ (64 - s) := Int.pow_pos (by decide)
   have hPQ:(2:Int) ^ s * 2 ^ (64 - s) = 18446744073709551616 := by
     rw [← Int.pow_add,show s + (64 - s) = 64 by omega]; kernel_rfl
   have r3:IntKind.wrap .u64 (s:Int) = s := u64_in' (by omega) (by omega)
   have r6:IntKind.wrap .u64 ((64:Int) - s) = 64 - s := u64_in' (by omega) (by omega)
   have r7:Int.toNat ((64:Int) - s) = 64 - s := by omega
   have r5:min s 64 = s := by omega
   have r8:min (64 - s) 64 = 64 - s := by omega
   have c1:¬ (s:Int) < 0 := by omega
   have c2:¬ (64:Int) - s < 0 := by omega
   simp only [g,hs,r3,r6,r7,r5,r8,c1,c2,Int.toNat_natCast,if_true,if_false]
   generalize hPe:(2:Int) ^ s = P at *
   generalize hQe:(2:Int) ^ (64 - s) = Q at *
   have hhP:hi * P < 18446744073709551616 := by
     have := Int.mul_lt_mul_of_pos_right h1 hP
     omega
   have hhP0:0 ≤ hi * P := Int.mul_nonneg h0 (by omega)
   have r9:IntKind.wrap .u64 (y * P) = y * P := u64_in' (by omega) hY1
   have r11:IntKind.wrap .u64 (hi * P) = hi * P := u64_in' hhP0 hhP
   have hL0:0 ≤ lo / Q := Int.ediv_nonneg h3 (by omega)
   have hL1:lo / Q < P := by
     apply Int.ediv_lt_of_lt_mul hQ
     rw [hPQ]; exact h4
   have hlo:lo / Q * Q + lo % Q = lo := Int.ediv_mul_add_emod lo Q
   have hm0:0 ≤ lo % Q := Int.emod_nonneg lo (by omega)
   have hm1:lo % Q < Q := Int.emod_lt_of_pos lo hQ
   have hv1:lo % Q * P < 18446744073709551616 := by
     have := Int.mul_lt_mul_of_pos_right hm1 hP
     have e:Q * P = 18446744073709551616 := by rw [Int.mul_comm]; exact hPQ
     omega
   have hv0:0 ≤ lo % Q * P := Int.mul_nonneg hm0 (by omega)
   have hloP:lo * P = lo / Q * 18446744073709551616 + lo % Q * P := by
     rw [← hPQ]; grind
   have r12:IntKind.wrap .u64 (lo * P) = lo % Q * P := by
     rw [IntKind.wrap_u64,hloP]; omega
   have hu:(hi * P + lo / Q) * 18446744073709551616 + lo % Q * P = (hi * 18446744073709551616 + lo) * P := by
     rw [Int.add_mul (hi * 18446744073709551616) lo P,hloP]; grind
   have huY:hi * P + lo / Q < y * P := by
     have e1:(hi + 1) * P ≤ y * P := Int.mul_le_mul_of_nonneg_right (by omega) (by omega)
     have e2:(hi + 1) * P = hi * P + P := by grind
     omega
   have r10:Int.fdiv lo Q = lo / Q := fdiv_pos _ _ hQ
   have rbor:borI .u64 (hi * P) (lo / Q) = hi * P + lo / Q := by
     rw [← hPe] at hL1 hhP ⊢
     exact bor_add h0 hhP hL0 hL1 (by rw [hPe]; omega)
   simp only [r9,r11,r12,r10,rbor]
   have hYP:0 < y * P := by omega
   have hu0:0 ≤ hi * P + lo / Q := by omega
   -- names
   obtain ⟨U,hU⟩:∃ U,U = (hi * 18446744073709551616 + lo) * P := ⟨_,rfl⟩
   have goalQ:(hi * 18446744073709551616 + lo) / y = U / (y * P) := by rw [hU,Int.mul_ediv_mul_of_pos_left _ _ hP]
   have goalR:(hi * 18446744073709551616 + lo) % y = (U % (y * P)) / P := by
     rw [hU,Int.mul_comm _ P,Int.mul_comm y P,Int.mul_emod_mul_of_pos _ _ hP,Int.mul_ediv_cancel_left _ (by omega)]
   rw [goalQ,goalR]
   rw [← hu] at hU
   clear goalQ goalR hu hloP r9 r11 r12 r10 rbor
   generalize hi * P + lo / Q = u at *
   generalize lo % Q * P = v at *
   generalize y * P = Y at *
   simp only [fdiv_pos _ 4294967296 (by decide),band32 (by omega:0 ≤ Y) hY1,band32 hv0 hv1,show ¬ Y / 4294967296 = 0 by omega,if_false]
   rw [guess Y u (v / 4294967296) hY0 hY1 hu0 huY (by omega) (by omega)]
   -- the rest of the first step
   have hd:(u * 4294967296 + v / 4294967296) / Y * Y + (u * 4294967296 + v / 4294967296) % Y = u * 4294967296 + v / 4294967296 := Int.ediv_mul_add_emod _ _
   have hR0:0 ≤ (u * 4294967296 + v / 4294967296) % Y := Int.emod_nonneg _ (by omega)
   have hR1:(u * 4294967296 + v / 4294967296) % Y < Y := Int.emod_lt_of_pos _ (by omega)
   have hq1:0 ≤ (u * 4294967296 + v / 4294967296) / Y := Int.ediv_nonneg (by omega) (by omega)
   have hq1':(u * 4294967296 + v / 4294967296) / Y < 4294967296 := by
     apply Int.ediv_lt_of_lt_mul (by omega); omega
   rw [wsub3 (by omega) (by omega)]
   generalize hq:(u * 4294967296 + v / 4294967296) / Y = q1 at *
   generalize hr:(u * 4294967296 + v / 4294967296) % Y = R at *
   have eR:u * 4294967296 + v / 4294967296 - q1 * Y = R := by omega
   rw [eR,div64_l1_val,guess Y R (v % 4294967296) hY0 hY1 hR0 hR1 (by omega) (by omega)]
   have hd2:(R * 4294967296 + v % 4294967296) / Y * Y + (R * 4294967296 + v % 4294967296) % Y = R * 4294967296 + v % 4294967296 := Int.ediv_mul_add_emod _ _
   have hS0:0 ≤ (R * 4294967296 + v % 4294967296) % Y := Int.emod_nonneg _ (by omega)
   have hS1:(R * 4294967296 + v % 4294967296) % Y < Y := Int.emod_lt_of_pos _ (by omega)
   have hq2:0 ≤ (R * 4294967296 + v % 4294967296) / Y := Int.ediv_nonneg (by omega) (by omega)
   have hq2':(R * 4294967296 + v % 4294967296) / Y < 4294967296 := by
     apply Int.ediv_lt_of_lt_mul (by omega); omega
   rw [wsub3 (by omega) (by omega)]
   generalize hq':(R * 4294967296 + v % 4294967296) / Y = q0 at *
   generalize hr':(R * 4294967296 + v % 4294967296) % Y = T at *
   have eT:R * 4294967296 + v % 4294967296 - q0 * Y = T := by omega
   have eU:U = T + Y * (q1 * 4294967296 + q0) := by
     have:Y * (q1 * 4294967296 + q0) = q1 * Y * 4294967296 + q0 * Y := by grind
     omega
   have fQ:U / Y = q1 * 4294967296 + q0 := by
     rw [eU,Int.add_mul_ediv_left _ _ (by omega:Y ≠ 0),Int.ediv_eq_zero_of_lt hS0 hS1]; omega
   have fR:U % Y = T := by
     rw [eU,Int.add_mul_emod_self_left,Int.emod_eq_of_lt hS0 hS1]
   rw [eT,fQ,fR,fdiv_pos _ _ hP]
   congr 1
   simp only [IntKind.wrap_u64]; omega
noncomputable def div64_c {α:Type} (ds:List D) (Q:SV → Hp → Option α):Option α :=
 dI ds fun hi ds => dI ds fun lo ds => dI ds fun y ds => dE ds (if (0 ≤ hi ∧ hi < y ∧ y < 18446744073709551616) ∧ 0 ≤ lo ∧ lo < 18446744073709551616 then
   Q (.tup [.int .u64 ((hi * 18446744073709551616 + lo) / y),.int .u64 ((hi * 18446744073709551616 + lo) % y)]) [] else none)
theorem div64_c_ok {α:Type}:FnOk E.P 116 (fEnt (α := α) div64_sp div64_c) :=
 fEnt_ok E look_lz64_ok (exec_sound E E_ok look_lz64_ok div64_l1_lps_ok 400) fun ds Q r h => by
   unfold div64_c at h
   obtain ⟨hi,ds,rfl,h1⟩ := dI_inv h
   obtain ⟨lo,ds,rfl,h2⟩ := dI_inv h1
   obtain ⟨y,ds,rfl,h3⟩ := dI_inv h2
   obtain ⟨rfl,hE⟩ := dE_inv h3
   split at hE
   · rename_i hc
     exact ⟨_,[],fun vs => by kernel_rfl,(div64_eq hi lo y Q).trans ((div64_val hi lo y hc.1.1 hc.1.2.1 hc.1.2.2 hc.2.1 hc.2.2 _).trans hE)⟩
   · cases hE
noncomputable def look_div64 {α:Type}:LookF α := addFn 116 (fEnt div64_sp div64_c) look_lz64
theorem look_div64_ok {α:Type}:LookOk E.P (look_div64 (α := α)) := addFn_ok div64_c_ok (look_lz64_ok)
end
section
open Go
def hiW (x:Int):Int := x / 18446744073709551616 % 18446744073709551616
def loW (x:Int):Int := x % 18446744073709551616
theorem hiW_lo (x:Int):0 ≤ hiW x ∧ hiW x < 18446744073709551616 := by unfold hiW; omega
theorem loW_lo (x:Int):0 ≤ loW x ∧ loW x < 18446744073709551616 := by unfold loW; omega
def R64 (n:Int):Prop := -9223372036854775808 ≤ n ∧ n < 9223372036854775808
theorem mul64_eq' {x y:Int} (h0:0 ≤ x) (h1:x < 18446744073709551616) (h2:0 ≤ y) (h3:y < 18446744073709551616) :
   V.mul64_r0 x y = x * y / 18446744073709551616 ∧ V.mul64_r1 x y = x * y % 18446744073709551616 := by
 refine ⟨?_,?_⟩
 · unfold V.mul64_r0
   rw [band32 h0 h1,band32 h2 h3,fdiv_pos x _ (by decide),fdiv_pos y _ (by decide)]
   have ex:x = x / 4294967296 * 4294967296 + x % 4294967296 := by omega
   have ey:y = y / 4294967296 * 4294967296 + y % 4294967296 := by omega
   have a1:0 ≤ x / 4294967296 ∧ x / 4294967296 ≤ 4294967295 := by omega
   have a2:0 ≤ x % 4294967296 ∧ x % 4294967296 ≤ 4294967295 := by omega
   have a3:0 ≤ y / 4294967296 ∧ y / 4294967296 ≤ 4294967295 := by omega
   have a4:0 ≤ y % 4294967296 ∧ y % 4294967296 ≤ 4294967295 := by omega
   generalize x / 4294967296 = x1 at *
   generalize x % 4294967296 = x0 at *
   generalize y / 4294967296 = y1 at *
   generalize y % 4294967296 = y0 at *
   have exy:x * y = x1 * y1 * 18446744073709551616 + (x1 * y0 + x0 * y1) * 4294967296 + x0 * y0 := by rw [ex,ey]; grind
   rw [exy]
   have b1:0 ≤ x1 * y1 ∧ x1 * y1 ≤ 4294967295 * 4294967295 := ⟨Int.mul_nonneg a1.1 a3.1,Int.mul_le_mul a1.2 a3.2 a3.1 (by omega)⟩
   have b2:0 ≤ x1 * y0 ∧ x1 * y0 ≤ 4294967295 * 4294967295 := ⟨Int.mul_nonneg a1.1 a4.1,Int.mul_le_mul a1.2 a4.2 a4.1 (by omega)⟩
   have b3:0 ≤ x0 * y1 ∧ x0 * y1 ≤ 4294967295 * 4294967295 := ⟨Int.mul_nonneg a2.1 a3.1,Int.mul_le_mul a2.2 a3.2 a3.1 (by omega)⟩
   have b4:0 ≤ x0 * y0 ∧ x0 * y0 ≤ 4294967295 * 4294967295 := ⟨Int.mul_nonneg a2.1 a4.1,Int.mul_le_mul a2.2 a4.2 a4.1 (by omega)⟩
   generalize x1 * y1 = p11 at *
   generalize x1 * y0 = p10 at *
   generalize x0 * y1 = p01 at *
   generalize x0 * y0 = p00 at *
   rw [u64_in' b1.1 (by omega),u64_in' b2.1 (by omega),u64_in' b3.1 (by omega),u64_in' b4.1 (by omega),fdiv_pos p00 _ (by decide)]
   have c1:0 ≤ p10 + p00 / 4294967296 ∧ p10 + p00 / 4294967296 < 18446744073709551616 := by omega
   rw [u64_in' c1.1 c1.2,band32 c1.1 c1.2,fdiv_pos _ 4294967296 (by decide)]
   rw [u64_in' (by omega:0 ≤ p11 + (p10 + p00 / 4294967296) / 4294967296) (by omega),u64_in' (by omega:0 ≤ (p10 + p00 / 4294967296) % 4294967296 + p01) (by omega),fdiv_pos _ 4294967296 (by decide),u64_in' (by omega) (by omega)]
   omega
 · unfold V.mul64_r1; rw [IntKind.wrap_u64]
theorem times_eq' {a b:Int} (ha:R64 a) (hb:R64 b):V.times_r0 a b = hiW (a * b) ∧ V.times_r1 a b = loW (a * b) := by
 unfold V.times_r0 V.times_r1
 unfold R64 at ha hb
 simp only [cLt_eq,decide_eq_true_eq]
 have hwa:0 ≤ IntKind.wrap .u64 a ∧ IntKind.wrap .u64 a < 18446744073709551616 := by rw [IntKind.wrap_u64]; omega
 have hwb:0 ≤ IntKind.wrap .u64 b ∧ IntKind.wrap .u64 b < 18446744073709551616 := by rw [IntKind.wrap_u64]; omega
 obtain ⟨e0,e1⟩ := mul64_eq' hwa.1 hwa.2 hwb.1 hwb.2
 rw [e0,e1]
 by_cases h1:a < 0
 · by_cases h2 : b < 0
   · simp only [h1, h2, if_true]
     rw [show IntKind.wrap .u64 a = a + 18446744073709551616 by rw [IntKind.wrap_u64]; omega,show IntKind.wrap .u64 b = b + 18446744073709551616 by rw [IntKind.wrap_u64]; omega]
     have e:(a + 18446744073709551616) * (b + 18446744073709551616) = a * b + (a + b + 18446744073709551616) * 18446744073709551616 := by grind
     rw [e]
     simp only [IntKind.wrap_u64,hiW,loW]
     generalize a * b = p
     omega
   · simp only [h1, h2, if_true, if_false]
     rw [show IntKind.wrap .u64 a = a + 18446744073709551616 by rw [IntKind.wrap_u64]; omega,show IntKind.wrap .u64 b = b by rw [IntKind.wrap_u64]; omega]
     have e:(a + 18446744073709551616) * b = a * b + b * 18446744073709551616 := by grind
     rw [e]
     simp only [IntKind.wrap_u64,hiW,loW]
     generalize a * b = p
     omega
 · by_cases h2 : b < 0
   · simp only [h1, h2, if_true, if_false]
     rw [show IntKind.wrap .u64 a = a by rw [IntKind.wrap_u64]; omega,show IntKind.wrap .u64 b = b + 18446744073709551616 by rw [IntKind.wrap_u64]; omega]
     have e:a * (b + 18446744073709551616) = a * b + a * 18446744073709551616 := by grind
     rw [e]
     simp only [IntKind.wrap_u64,hiW,loW]
     generalize a * b = p
     omega
   · simp only [h1, h2, if_false]
     rw [show IntKind.wrap .u64 a = a by rw [IntKind.wrap_u64]; omega,show IntKind.wrap .u64 b = b by rw [IntKind.wrap_u64]; omega]
     have hp:a * b ≤ 9223372036854775807 * 9223372036854775807 := Int.mul_le_mul (by omega) (by omega) (by omega) (by omega)
     have hp0:0 ≤ a * b := Int.mul_nonneg (by omega) (by omega)
     simp only [hiW,loW,and_true]
     generalize a * b = p at *
     omega
theorem wadd_eq' (x y:Int):V.wadd_g (hiW x) (loW x) (hiW y) (loW y) = true ∧ V.wadd_r0 (hiW x) (loW x) (hiW y) (loW y) = hiW (x + y) ∧ V.wadd_r1 (hiW x) (loW x) (hiW y) (loW y) = loW (x + y) := by
 unfold V.wadd_g V.wadd_r0 V.wadd_r1
 have a1 := hiW_lo x
 have a2 := loW_lo x
 have a3 := hiW_lo y
 have a4 := loW_lo y
 have hc:¬ Int.toNat (Int.ofNat ((Int.toNat (loW x) + Int.toNat (loW y) + (0:Nat)) / (18446744073709551616:Nat))) > (1:Nat) := by
   simp only [Int.ofNat_eq_natCast,Int.toNat_natCast]; omega
 simp only [if_neg hc]
 simp only [Int.ofNat_eq_natCast,Int.toNat_natCast,Nat.add_zero]
 unfold hiW loW at *
 simp only [true_and]
 omega
theorem minus_eq' (x:Int):V.minus_g (hiW x) (loW x) = true ∧ V.minus_r0 (hiW x) (loW x) = hiW (-x) ∧ V.minus_r1 (hiW x) (loW x) = loW (-x) := by
 unfold V.minus_g V.minus_r0 V.minus_r1
 have a1 := hiW_lo x
 have a2 := loW_lo x
 by_cases h:0 < (loW x).toNat
 · simp only [Int.ofNat_eq_natCast, Int.toNat_natCast, Nat.add_zero, Int.toNat_zero, h, if_true]
   rw [if_neg (by omega),if_neg (by omega),if_neg (by omega)]
   unfold hiW loW at *
   refine ⟨rfl,?_,?_⟩ <;> omega
 · simp only [Int.ofNat_eq_natCast, Int.toNat_natCast, Nat.add_zero, Int.toNat_zero, h, if_false]
   rw [if_neg (by omega),if_neg (by omega),if_neg (by omega)]
   unfold hiW loW at *
   refine ⟨rfl,?_,?_⟩ <;> omega
theorem neg_eq' {x:Int} (h0:-170141183460469231731687303715884105728 ≤ x) (h1:x < 170141183460469231731687303715884105728):V.neg_r0 (hiW x) (loW x) = decide (x < 0) := by
 unfold V.neg_r0
 rw [cEq_eq,fdiv_pos _ _ (by decide)]
 unfold hiW
 by_cases h:x < 0
 · simp only [h,decide_true,beq_iff_eq]; omega
 · simp only [h,decide_false,beq_eq_false_iff_ne,ne_eq]; omega
noncomputable def _root_.Go.Proofs.YtfkgmidgdpfnkaaGreat.V.isq (x:Int):Int := open Classical in if h:∃ r:Int,0 ≤ r ∧ r * r ≤ x ∧ x < (r + 1) * (r + 1) then Classical.choose h else 0
theorem isq_uniq {x r s:Int} (h1:0 ≤ r ∧ r * r ≤ x ∧ x < (r + 1) * (r + 1)) (h2:0 ≤ s ∧ s * s ≤ x ∧ x < (s + 1) * (s + 1)):r = s := by
 rcases Int.lt_trichotomy r s with h | h | h
 · have : (r + 1) * (r + 1) ≤ s * s := Int.mul_le_mul (by omega) (by omega) (by omega) (by omega)
   omega
 · exact h
 · have : (s + 1) * (s + 1) ≤ r * r := Int.mul_le_mul (by omega) (by omega) (by omega) (by omega)
   omega
theorem isq_eq {x r:Int} (h:0 ≤ r ∧ r * r ≤ x ∧ x < (r + 1) * (r + 1)):V.isq x = r := by
 unfold V.isq
 have he:∃ r:Int,0 ≤ r ∧ r * r ≤ x ∧ x < (r + 1) * (r + 1) := ⟨r,h⟩
 rw [dif_pos he]
 exact isq_uniq (Classical.choose_spec he) h
def _root_.Go.Proofs.YtfkgmidgdpfnkaaGreat.V.gv (o:Option Int):Int := o.getD 0
def _root_.Go.Proofs.YtfkgmidgdpfnkaaGreat.V.gn (o:Option Int) (bad:Bool):Bool := o.isNone || bad
def _root_.Go.Proofs.YtfkgmidgdpfnkaaGreat.V.tl (n:Int):Option Int := if isG n then none else some n
def _root_.Go.Proofs.YtfkgmidgdpfnkaaGreat.V.mAdd (a b:Int):Option Int := if isG a || isG b then none else V.tl (a + b)
def _root_.Go.Proofs.YtfkgmidgdpfnkaaGreat.V.mSub (a b:Int):Option Int := if isG a || isG b then none else V.tl (a - b)
def _root_.Go.Proofs.YtfkgmidgdpfnkaaGreat.V.qF (x c:Int):Option Int := if x / c == -18446744073709551616 && x % c != 0 then some 0 else V.tl (x / c)
def _root_.Go.Proofs.YtfkgmidgdpfnkaaGreat.V.mRatio (a b c:Int):Option Int := if c == 0 || isG a || isG b || isG c then none else if c < 0 then V.qF (-(a * b)) (-c) else V.qF (a * b) c
def _root_.Go.Proofs.YtfkgmidgdpfnkaaGreat.V.mMul (a b:Int):Option Int := if isG a || isG b then none else V.tl (a * b / 4294967296)
def _root_.Go.Proofs.YtfkgmidgdpfnkaaGreat.V.mDiv (a b:Int):Option Int := V.mRatio a 4294967296 b
noncomputable def _root_.Go.Proofs.YtfkgmidgdpfnkaaGreat.V.mRt (x:Int):Option Int := if 4611686018427387903 < V.isq x then none else some (V.isq x)
def _root_.Go.Proofs.YtfkgmidgdpfnkaaGreat.V.dotZ (a b:List Int):Int := (List.zipWith (· * ·) a b).sum
def _root_.Go.Proofs.YtfkgmidgdpfnkaaGreat.V.mDot (a b:List Int):Option Int := if a.length != b.length || decide (8 < a.length) || V.anyG a || V.anyG b then none else V.tl (V.dotZ a b / 4294967296)
noncomputable def _root_.Go.Proofs.YtfkgmidgdpfnkaaGreat.V.mNorm (l:List Int):Option Int := if decide (8 < l.length) || V.anyG l then none else V.mRt (V.dotZ l l)
theorem isG_iff (n:Int):isG n = true ↔ (n < -4611686018427387903 ∨ 4611686018427387903 < n) := by simp [isG]
theorem isG_false (n:Int):isG n = false ↔ (-4611686018427387903 ≤ n ∧ n ≤ 4611686018427387903) := by simp [isG]
end
section
open Go
set_option maxRecDepth 20000
noncomputable def M.tell {α:Type} (bad:Bool) (n:Int) (k0:Int → Bool → Option α):Option α := if V.anyG [n] = true then k0 (0:Int) true else k0 n bad
theorem tell_eq {α:Type} (bad:Bool) (n:Int) (Q:SV → Hp → Option α):callI E look_div64 (exec E look_div64 noLps 400) 77 ([SV.ptr (nat_lit 0) (nat_lit 0),SV.int .i64 n]) ([.cells [SV.bool bad] (nat_lit 27)]) Q = M.tell bad n (fun (x0:Int) (x1:Bool) => Q (SV.int .i64 x0) ([.cells [SV.bool x1] (nat_lit 27)])) := by kernel_rfl
def tell_sp:List AS := [.ptr 27 [.bool false],.val (.int .i64 0)]
theorem tell_v {α:Type} (bad:Bool) (n:Int) (k0:Int → Bool → Option α):M.tell bad n k0 = k0 (V.gv (V.tl n)) (V.gn (V.tl n) bad) := by
 unfold M.tell V.anyG V.tl V.gv V.gn
 cases h:isG n <;> simp [h]
noncomputable def tell_h {α:Type} (ds:List D) (Q:SV → Hp → Option α):Option α :=
 dB ds fun bad ds => dI ds fun n ds => dE ds (Q (.int .i64 (V.gv (V.tl n))) ([.cells [.bool (V.gn (V.tl n) bad)] 27]))
theorem tell_h_ok {α:Type}:FnOk E.P 77 (fEnt (α := α) tell_sp tell_h) :=
 fEnt_ok E (look_div64_ok) (exec_sound E E_ok (look_div64_ok) (noLps_ok _) 400) fun ds Q r h => by
   unfold tell_h at h
   obtain ⟨bad,ds,rfl,h1⟩ := dB_inv h
   obtain ⟨n,ds,rfl,h2⟩ := dI_inv h1
   obtain ⟨rfl,hE⟩ := dE_inv h2
   exact ⟨[SV.ptr (nat_lit 0) (nat_lit 0),SV.int .i64 n],[.cells [SV.bool bad] (nat_lit 27)],fun vs => by kernel_rfl,(tell_eq bad n Q).trans ((tell_v bad n _).trans hE)⟩
noncomputable def look_tell {α:Type}:LookF α := addFn 77 (fEnt tell_sp tell_h) look_div64
theorem look_tell_ok {α:Type}:LookOk E.P (look_tell (α := α)) := addFn_ok tell_h_ok (look_div64_ok)
noncomputable def M.shift {α:Type} (bad:Bool) (hi:Int) (lo:Int) (k0:Int → Bool → Option α):Option α := if (!cEq (Int.fdiv (IntKind.wrap .i64 hi) (4294967296:Int)) (Int.fdiv (IntKind.wrap .i64 (borI IntKind.u64 (IntKind.wrap IntKind.u64 (hi * (4294967296:Int))) (Int.fdiv lo (4294967296:Int)))) (9223372036854775808:Int))) = true then k0 (0:Int) true else k0 (V.gv (V.tl (IntKind.wrap .i64 (borI IntKind.u64 (IntKind.wrap IntKind.u64 (hi * (4294967296:Int))) (Int.fdiv lo (4294967296:Int)))))) (V.gn (V.tl (IntKind.wrap .i64 (borI IntKind.u64 (IntKind.wrap IntKind.u64 (hi * (4294967296:Int))) (Int.fdiv lo (4294967296:Int))))) bad)
theorem shift_eq {α:Type} (bad:Bool) (hi:Int) (lo:Int) (Q:SV → Hp → Option α):callI E look_tell (exec E look_tell noLps 400) 81 ([SV.ptr (nat_lit 0) (nat_lit 0),SV.agg [SV.int IntKind.u64 hi,SV.int IntKind.u64 lo]]) ([.cells [SV.bool bad] (nat_lit 27)]) Q = M.shift bad hi lo (fun (x2:Int) (x3:Bool) => Q (SV.int .i64 x2) ([.cells [SV.bool x3] (nat_lit 27)])) := by kernel_rfl
def shift_sp:List AS := [.ptr 27 [.bool false],.val (.agg [.int .u64 0,.int .u64 0])]
noncomputable def _root_.Go.Proofs.YtfkgmidgdpfnkaaGreat.V.shift_r0 (bad:Bool) (hi:Int) (lo:Int):Int := if (!cEq (Int.fdiv (IntKind.wrap .i64 hi) (4294967296:Int)) (Int.fdiv (IntKind.wrap .i64 (borI IntKind.u64 (IntKind.wrap IntKind.u64 (hi * (4294967296:Int))) (Int.fdiv lo (4294967296:Int)))) (9223372036854775808:Int))) = true then (0:Int) else V.gv (V.tl (IntKind.wrap .i64 (borI IntKind.u64 (IntKind.wrap IntKind.u64 (hi * (4294967296:Int))) (Int.fdiv lo (4294967296:Int)))))
noncomputable def _root_.Go.Proofs.YtfkgmidgdpfnkaaGreat.V.shift_r1 (bad:Bool) (hi:Int) (lo:Int):Bool := if (!cEq (Int.fdiv (IntKind.wrap .i64 hi) (4294967296:Int)) (Int.fdiv (IntKind.wrap .i64 (borI IntKind.u64 (IntKind.wrap IntKind.u64 (hi * (4294967296:Int))) (Int.fdiv lo (4294967296:Int)))) (9223372036854775808:Int))) = true then true else V.gn (V.tl (IntKind.wrap .i64 (borI IntKind.u64 (IntKind.wrap IntKind.u64 (hi * (4294967296:Int))) (Int.fdiv lo (4294967296:Int))))) bad
theorem shift_val {α:Type} (bad:Bool) (hi:Int) (lo:Int) (k0:Int → Bool → Option α):M.shift bad hi lo k0 = k0 (V.shift_r0 bad hi lo) (V.shift_r1 bad hi lo) := by
 unfold M.shift V.shift_r0 V.shift_r1
 repeat' first | rfl | (split <;> rename_i h <;> first | simp only [if_pos h] | simp only [if_neg h] | skip)
noncomputable def shift_c {α:Type} (ds:List D) (Q:SV → Hp → Option α):Option α :=
 dB ds fun bad ds => dI ds fun hi ds => dI ds fun lo ds => dE ds (Q (SV.int .i64 (V.shift_r0 bad hi lo)) ([.cells [SV.bool (V.shift_r1 bad hi lo)] (nat_lit 27)]))
theorem shift_c_ok {α:Type}:FnOk E.P 81 (fEnt (α := α) shift_sp shift_c) :=
 fEnt_ok E (look_tell_ok) (exec_sound E E_ok (look_tell_ok) (noLps_ok _) 400) fun ds Q r h => by
   unfold shift_c at h
   obtain ⟨bad,ds,rfl,h1⟩ := dB_inv h
   obtain ⟨hi,ds,rfl,h2⟩ := dI_inv h1
   obtain ⟨lo,ds,rfl,h3⟩ := dI_inv h2
   obtain ⟨rfl,hE⟩ := dE_inv h3
   exact ⟨[SV.ptr (nat_lit 0) (nat_lit 0),SV.agg [SV.int IntKind.u64 hi,SV.int IntKind.u64 lo]],[.cells [SV.bool bad] (nat_lit 27)],fun vs => by kernel_rfl,(shift_eq bad hi lo Q).trans ((shift_val bad hi lo (fun (x2:Int) (x3:Bool) => Q (SV.int .i64 x2) ([.cells [SV.bool x3] (nat_lit 27)]))).trans hE)⟩
noncomputable def look_shift {α:Type}:LookF α := addFn 81 (fEnt shift_sp shift_c) look_tell
theorem look_shift_ok {α:Type}:LookOk E.P (look_shift (α := α)) := addFn_ok shift_c_ok (look_tell_ok)
theorem shift_r {x:Int} (bad:Bool) (h0:-170141183460469231731687303715884105728 ≤ x) (h1:x < 170141183460469231731687303715884105728) :
   V.shift_r0 bad (hiW x) (loW x) = V.gv (V.tl (x / 4294967296)) ∧ V.shift_r1 bad (hiW x) (loW x) = V.gn (V.tl (x / 4294967296)) bad := by
 unfold V.shift_r0 V.shift_r1
 have a1 := hiW_lo x
 have a2 := loW_lo x
 have e1:borI IntKind.u64 (IntKind.wrap IntKind.u64 (hiW x * 4294967296)) (Int.fdiv (loW x) 4294967296) = hiW x % 4294967296 * 4294967296 + loW x / 4294967296 := by
   rw [fdiv_pos _ _ (by decide),show IntKind.wrap IntKind.u64 (hiW x * 4294967296) = hiW x % 4294967296 * 2 ^ 32 by rw [IntKind.wrap_u64]; omega]
   rw [bor_add (by omega) (by omega) (by omega) (by omega) (by omega)]
   omega
 rw [e1,cEq_eq,fdiv_pos _ _ (by decide),fdiv_pos _ _ (by decide)]
 unfold V.tl V.gv V.gn
 have hG := isG_iff (x / 4294967296)
 by_cases hb:isG (x / 4294967296) = true
 · have hb' := hG.1 hb
   by_cases hc:IntKind.wrap .i64 (hiW x) / 4294967296 = IntKind.wrap .i64 (hiW x % 4294967296 * 4294967296 + loW x / 4294967296) / 9223372036854775808
   · have : IntKind.wrap .i64 (hiW x % 4294967296 * 4294967296 + loW x / 4294967296) = x / 4294967296 := by
       simp only [IntKind.wrap_i64,hiW,loW] at *; omega
     simp [hc,this,hb]
   · simp [hc,hb]
 · have hb' : isG (x / 4294967296) = false := by simpa using hb
   have hb2 := (isG_false _).1 hb'
   have hn:IntKind.wrap .i64 (hiW x % 4294967296 * 4294967296 + loW x / 4294967296) = x / 4294967296 := by
     simp only [IntKind.wrap_i64,hiW,loW] at *; omega
   have hc:IntKind.wrap .i64 (hiW x) / 4294967296 = x / 4294967296 / 9223372036854775808 := by
     simp only [IntKind.wrap_i64,hiW,loW] at *; omega
   simp [hn,hc,hb']
noncomputable abbrev sum_S1 (y1:Value) (y2:List Int) (y3:Value) (y4:List Int) (y5 y6 y7 y8 y9 y10:Int):St := St.mk (none :: some (SV.ros y1 (K.int IntKind.i64) y2) :: none :: none :: some (SV.ptr (nat_lit 0) (nat_lit 0)) :: some (SV.ptr (nat_lit 1) (nat_lit 0)) :: none :: none :: some (SV.ros y3 (K.int IntKind.i64) y4) :: some (SV.int .i64 y5) :: some (SV.int .i64 y6) :: nn 14 ([])) [.cells [SV.int IntKind.u64 y7,SV.int IntKind.u64 y8] (nat_lit 117),.cells [SV.int IntKind.u64 y9,SV.int IntKind.u64 y10] (nat_lit 117)]
noncomputable abbrev sum_S2 (y1 y2 y3 y4:Int):St := St.mk (nn 4 (some (SV.ptr (nat_lit 0) (nat_lit 0)) :: some (SV.ptr (nat_lit 1) (nat_lit 0)) :: nn 19 ([]))) [.cells [SV.int IntKind.u64 y1,SV.int IntKind.u64 y2] (nat_lit 117),.cells [SV.int IntKind.u64 y3,SV.int IntKind.u64 y4] (nat_lit 117)]
noncomputable abbrev sum_S3:St := St.mk (none :: some (SV.ros undef (K.int IntKind.i64) []) :: none :: none :: some (SV.ptr (nat_lit 0) (nat_lit 0)) :: some (SV.ptr (nat_lit 1) (nat_lit 0)) :: none :: none :: some (SV.ros undef (K.int IntKind.i64) []) :: some (SV.int .i64 (0:Int)) :: some (SV.int .i64 (0:Int)) :: nn 14 ([])) [.cells [SV.int IntKind.u64 (0:Int),SV.int IntKind.u64 (0:Int)] (nat_lit 117),.cells [SV.int IntKind.u64 (0:Int),SV.int IntKind.u64 (0:Int)] (nat_lit 117)]
noncomputable def M.sum_l0_step {α:Type} (x17:List Int) (x19:List Int) (x20:Int) (kn:Int → Int → Int → Option α) (k1:Int → Int → Option α) (x21 x24 x25:Int):Option α := if cLt x21 x20 = true then if (0:Int) ≤ x21 ∧ x21 < (↑(List.length x19):Int) then if (0:Int) ≤ x21 ∧ x21 < (↑(List.length x17):Int) then if V.wadd_g x24 x25 (V.times_r0 (List.getD x19 (Int.toNat x21) (0:Int)) (List.getD x17 (Int.toNat x21) (0:Int))) (V.times_r1 (List.getD x19 (Int.toNat x21) (0:Int)) (List.getD x17 (Int.toNat x21) (0:Int))) = true then kn (IntKind.wrap .i64 (x21 + (1:Int))) (V.wadd_r0 x24 x25 (V.times_r0 (List.getD x19 (Int.toNat x21) (0:Int)) (List.getD x17 (Int.toNat x21) (0:Int))) (V.times_r1 (List.getD x19 (Int.toNat x21) (0:Int)) (List.getD x17 (Int.toNat x21) (0:Int)))) (V.wadd_r1 x24 x25 (V.times_r0 (List.getD x19 (Int.toNat x21) (0:Int)) (List.getD x17 (Int.toNat x21) (0:Int))) (V.times_r1 (List.getD x19 (Int.toNat x21) (0:Int)) (List.getD x17 (Int.toNat x21) (0:Int)))) else none else none else none else k1 x24 x25
noncomputable def M.sum_l0 {α:Type} (x17:List Int) (x19:List Int) (x20:Int) (k1:Int → Int → Option α):Nat → Int → Int → Int → Option α
 | 0,_,_,_ => none
 | n + 1,x21,x24,x25 => M.sum_l0_step x17 x19 x20 (M.sum_l0 x17 x19 x20 k1 n) k1 x21 x24 x25
theorem sum_l0_step_eq {α:Type} (x16:Value) (x17:List Int) (x18:Value) (x19:List Int) (x20 x21 x22 x23 x24 x25:Int) (Q:Ex → St → Option α):(loopStep E (exec E look_shift noLps 400) 101 [false,true,false,true,true] 0 (codeAt E.P 101 [false,true,false,true,true])) (sum_S1 x16 x17 x18 x19 x20 x21 x22 x23 x24 x25) Q = M.sum_l0_step x17 x19 x20 (fun (x28 x29 x30:Int) => Q .normal (sum_S1 x16 x17 x18 x19 x20 x28 x22 x23 x29 x30)) (fun (x26 x27:Int) => Q (.exit 0) (sum_S2 x22 x23 x26 x27)) x21 x24 x25 := by kernel_rfl
theorem sum_l0_iter {α:Type} (x16:Value) (x17:List Int) (x18:Value) (x19:List Int) (x20 x22 x23:Int) (Q:Ex → St → Option α):∀ (n:Nat) (x21 x24 x25:Int),iter (loopStep E (exec E look_shift noLps 400) 101 [false,true,false,true,true] 0 (codeAt E.P 101 [false,true,false,true,true])) n (sum_S1 x16 x17 x18 x19 x20 x21 x22 x23 x24 x25) Q = M.sum_l0 x17 x19 x20 (fun (x26 x27:Int) => Q (.exit 0) (sum_S2 x22 x23 x26 x27)) n x21 x24 x25
 | 0,_,_,_ => rfl
 | n + 1,x21,x24,x25 => (sum_l0_step_eq x16 x17 x18 x19 x20 x21 x22 x23 x24 x25 (iterK (loopStep E (exec E look_shift noLps 400) 101 [false,true,false,true,true] 0 (codeAt E.P 101 [false,true,false,true,true])) n Q)).trans (congrArg (fun kn => M.sum_l0_step x17 x19 x20 kn (fun (x26 x27:Int) => Q (.exit 0) (sum_S2 x22 x23 x26 x27)) x21 x24 x25) (funext fun x21 => funext fun x24 => funext fun x25 => sum_l0_iter x16 x17 x18 x19 x20 x22 x23 Q n x21 x24 x25))
noncomputable def sum_l0_go {α:Type} (ds:List D) (Q:Ex → St → Option α):Option α :=
 dV ds fun x16 ds => dL (K.int IntKind.i64) ds fun x17 ds => dV ds fun x18 ds => dL (K.int IntKind.i64) ds fun x19 ds => dI ds fun x20 ds => dI ds fun x21 ds => dI ds fun x22 ds => dI ds fun x23 ds => dI ds fun x24 ds => dI ds fun x25 ds => dE ds (M.sum_l0 x17 x19 x20 (fun (x26 x27:Int) => Q (.exit 0) (sum_S2 x22 x23 x26 x27)) (100 + x17.length + x19.length) x21 x24 x25)
theorem sum_l0_ok {α:Type}:LoopOk E.P 101 [false,true,false,true,true] 0 (lEnt (α := α) (sum_S3) sum_l0_go) :=
 lEnt_ok E (exec_sound E E_ok (look_shift_ok) (noLps_ok _) 400) fun ds Q r h S hS => by
   unfold sum_l0_go at h
   obtain ⟨x16,ds,rfl,h1⟩ := dV_inv h
   obtain ⟨x17,ds,rfl,h2⟩ := dL_inv h1
   obtain ⟨x18,ds,rfl,h3⟩ := dV_inv h2
   obtain ⟨x19,ds,rfl,h4⟩ := dL_inv h3
   obtain ⟨x20,ds,rfl,h5⟩ := dI_inv h4
   obtain ⟨x21,ds,rfl,h6⟩ := dI_inv h5
   obtain ⟨x22,ds,rfl,h7⟩ := dI_inv h6
   obtain ⟨x23,ds,rfl,h8⟩ := dI_inv h7
   obtain ⟨x24,ds,rfl,h9⟩ := dI_inv h8
   obtain ⟨x25,ds,rfl,h10⟩ := dI_inv h9
   obtain ⟨rfl,hE⟩ := dE_inv h10
   have e:fillS (sum_S3) [.v x16,.l (K.int IntKind.i64) x17,.v x18,.l (K.int IntKind.i64) x19,.i x20,.i x21,.i x22,.i x23,.i x24,.i x25] = some (sum_S1 x16 x17 x18 x19 x20 x21 x22 x23 x24 x25) := by kernel_rfl
   rw [e] at hS
   cases hS
   exact ⟨_,(sum_l0_iter x16 x17 x18 x19 x20 x22 x23 Q _ x21 x24 x25).trans hE⟩
noncomputable def sum_l0_lps {α:Type}:LookL α := addLp 101 [false,true,false,true,true] 0 (lEnt (sum_S3) sum_l0_go) noLps
theorem sum_l0_lps_ok {α:Type}:LoopsOk E.P (sum_l0_lps (α := α)) := addLp_ok sum_l0_ok (noLps_ok _)
noncomputable def M.sum {α:Type} (a:List Int) (b:List Int) (k0:Int → Int → Option α):Option α := M.sum_l0 b a (↑(List.length a):Int) (fun (x33 x34:Int) ↦ k0 x33 x34) ((100:Nat) + List.length b + List.length a) (0:Int) (0:Int) (0:Int)
theorem sum_eq {α:Type} (a:List Int) (b:List Int) (v31:Value) (v32:Value) (Q:SV → Hp → Option α):callI E look_shift (exec E look_shift sum_l0_lps 400) 101 ([SV.ros v31 (K.int IntKind.i64) a,SV.ros v32 (K.int IntKind.i64) b]) ([]) Q = M.sum a b (fun (x35 x36:Int) => Q (SV.agg [SV.int IntKind.u64 x35,SV.int IntKind.u64 x36]) ([])) := by kernel_rfl
def sum_sp:List AS := [.ro (.int .i64),.ro (.int .i64)]
theorem anyG_get {l:List Int} (h:V.anyG l = false) (i:Nat):R64 (l.getD i 0) := by
 unfold V.anyG at h
 by_cases hi:i < l.length
 · have := List.any_eq_false.1 h (l[i]) (List.getElem_mem hi)
   rw [Bool.not_eq_true,isG_false] at this
   have e:l.getD i 0 = l[i] := by simp [List.getD_eq_getElem?_getD,hi]
   rw [e]; unfold R64; omega
 · have e : l.getD i 0 = 0 := by simp [List.getD_eq_getElem?_getD, hi]
   rw [e]; unfold R64; omega
theorem dotZ_drop (a b:List Int) (i:Nat) (h1:i < a.length) (h2:i < b.length):V.dotZ (a.drop i) (b.drop i) = a.getD i 0 * b.getD i 0 + V.dotZ (a.drop (i + 1)) (b.drop (i + 1)) := by
 unfold V.dotZ
 rw [List.drop_eq_getElem_cons h1,List.drop_eq_getElem_cons h2,List.zipWith_cons_cons,List.sum_cons]
 simp [List.getD_eq_getElem?_getD,h1,h2]
theorem sum_l0_val {α:Type} (a b:List Int) (hl:a.length < 9223372036854775808) (hab:a.length = b.length) (ha:V.anyG a = false) (hb:V.anyG b = false) (k1:Int → Int → Option α):∀ (fuel i:Nat) (S:Int),i ≤ a.length → a.length - i < fuel →
   M.sum_l0 b a (a.length:Int) k1 fuel (i:Int) (hiW S) (loW S) = k1 (hiW (S + V.dotZ (a.drop i) (b.drop i))) (loW (S + V.dotZ (a.drop i) (b.drop i)))
 | 0,i,S,h1,h2 => by omega
 | n + 1,i,S,h1,h2 => by
   unfold M.sum_l0 M.sum_l0_step
   by_cases hi:i < a.length
   · have ih := sum_l0_val a b hl hab ha hb k1 n (i + 1) (S + a.getD i 0 * b.getD i 0) (by omega) (by omega)
     rw [IntWalk.i64_in _ (by omega:-9223372036854775808 ≤ (i:Int) + 1 ∧ (i:Int) + 1 ≤ 9223372036854775807)]
     push_cast at ih
     obtain ⟨t0,t1⟩ := times_eq' (anyG_get ha i) (anyG_get hb i)
     simp only [cLt_eq,getD_toNat,t0,t1]
     obtain ⟨w0,w1,w2⟩ := wadd_eq' S (a.getD i 0 * b.getD i 0)
     have:(i:Int) < (a.length:Int) := by omega
     have h2:(i:Int) < (b.length:Int) := by omega
     simp only [this,h2,decide_true,if_true,Int.natCast_nonneg,and_self,w0,w1,w2]
     rw [ih,dotZ_drop a b i hi (by omega),Int.add_assoc]
   · have : i = a.length := by omega
     subst this
     simp [cLt_eq,V.dotZ]
theorem sum_v {α:Type} (a b:List Int) (hl:a.length < 9223372036854775808) (hab:a.length = b.length) (ha:V.anyG a = false) (hb:V.anyG b = false) (k0:Int → Int → Option α):M.sum a b k0 = k0 (hiW (V.dotZ a b)) (loW (V.dotZ a b)) := by
 unfold M.sum
 have := sum_l0_val a b hl hab ha hb (fun x y => k0 x y) (100 + b.length + a.length) 0 0 (by omega) (by omega)
 simp only [List.drop_zero,Int.zero_add,Int.natCast_zero] at this
 exact this
noncomputable def sum_h {α:Type} (ds:List D) (Q:SV → Hp → Option α):Option α :=
 dL (K.int IntKind.i64) ds fun a ds => dL (K.int IntKind.i64) ds fun b ds => dE ds (if (a.length < 9223372036854775808 ∧ a.length = b.length) ∧ V.anyG a = false ∧ V.anyG b = false then Q (.agg [.int .u64 (hiW (V.dotZ a b)),.int .u64 (loW (V.dotZ a b))]) ([]) else none)
theorem sum_h_ok {α:Type}:FnOk E.P 101 (fEnt (α := α) sum_sp sum_h) :=
 fEntR_ok E (look_shift_ok) (exec_sound E E_ok (look_shift_ok) (sum_l0_lps_ok) 400) fun ds Q r h => by
   unfold sum_h at h
   obtain ⟨a,ds,rfl,h1⟩ := dL_inv h
   obtain ⟨b,ds,rfl,h2⟩ := dL_inv h1
   obtain ⟨rfl,hE⟩ := dE_inv h2
   split at hE
   · rename_i hg
     exact ⟨_,_,hE,fun vs => ⟨_,_,by kernel_rfl,(sum_eq a b (vs.headD undef) (vs.tail.headD undef) _).trans (sum_v a b hg.1.1 hg.1.2 hg.2.1 hg.2.2 _)⟩⟩
   · cases hE
noncomputable def look_sum {α:Type}:LookF α := addFn 101 (fEnt sum_sp sum_h) look_shift
theorem look_sum_ok {α:Type}:LookOk E.P (look_sum (α := α)) := addFn_ok sum_h_ok (look_shift_ok)
end
section
open Go
set_option maxRecDepth 20000
theorem anyG2 (a b:Int):V.anyG [a,b] = (isG a || isG b) := by simp [V.anyG]
theorem anyG3 (a b c:Int):V.anyG [a,b,c] = (isG a || isG b || isG c) := by simp [V.anyG,Bool.or_assoc]
theorem hilo {x:Int} (h0:0 ≤ x) (h1:x < 340282366920938463463374607431768211456):hiW x * 18446744073709551616 + loW x = x := by unfold hiW loW; omega
theorem prod_G {a b:Int} (ha:isG a = false) (hb:isG b = false):-21267647932558653957237540927630737409 ≤ a * b ∧ a * b ≤ 21267647932558653957237540927630737409 := by
 rw [isG_false] at ha hb
 have h1:∀ x y:Int,0 ≤ x → x ≤ 4611686018427387903 → 0 ≤ y → y ≤ 4611686018427387903 → 0 ≤ x * y ∧ x * y ≤ 4611686018427387903 * 4611686018427387903 := fun x y hx hx' hy hy' => ⟨Int.mul_nonneg hx hy,Int.mul_le_mul hx' hy' hy (by omega)⟩
 rcases Int.le_total 0 a with p | p <;> rcases Int.le_total 0 b with q | q
 · have := h1 a b p ha.2 q hb.2; omega
 · have := h1 a (-b) p ha.2 (by omega) (by omega); rw [Int.mul_neg] at this; omega
 · have := h1 (-a) b (by omega) (by omega) q hb.2; rw [Int.neg_mul] at this; omega
 · have := h1 (-a) (-b) (by omega) (by omega) (by omega) (by omega); rw [Int.neg_mul_neg] at this; omega
noncomputable def M.add {α:Type} (bad:Bool) (a:Int) (b:Int) (k0:Int → Bool → Option α):Option α := if V.anyG [a,b] = true then k0 (0:Int) true else k0 (V.gv (V.tl (IntKind.wrap .i64 (a + b)))) (V.gn (V.tl (IntKind.wrap .i64 (a + b))) bad)
theorem add_eq {α:Type} (bad:Bool) (a:Int) (b:Int) (Q:SV → Hp → Option α):callI E look_sum (exec E look_sum noLps 400) 35 ([SV.ptr (nat_lit 0) (nat_lit 0),SV.int .i64 a,SV.int .i64 b]) ([.cells [SV.bool bad] (nat_lit 27)]) Q = M.add bad a b (fun (x0:Int) (x1:Bool) => Q (SV.int .i64 x0) ([.cells [SV.bool x1] (nat_lit 27)])) := by kernel_rfl
def add_sp:List AS := [.ptr 27 [.bool false],.val (.int .i64 0),.val (.int .i64 0)]
theorem add_v {α:Type} (bad:Bool) (a b:Int) (k0:Int → Bool → Option α):M.add bad a b k0 = k0 (V.gv (V.mAdd a b)) (V.gn (V.mAdd a b) bad) := by
 unfold M.add V.mAdd
 rw [anyG2]
 by_cases h:(isG a || isG b) = true
 · simp [h,V.gv,V.gn]
 · have h' : (isG a || isG b) = false := by simpa using h
   simp only [h',Bool.false_eq_true,if_false]
   simp only [Bool.or_eq_false_iff,isG_false] at h'
   rw [IntWalk.i64_in _ (by omega)]
noncomputable def add_h {α:Type} (ds:List D) (Q:SV → Hp → Option α):Option α :=
 dB ds fun bad ds => dI ds fun a ds => dI ds fun b ds => dE ds (Q (.int .i64 (V.gv (V.mAdd a b))) ([.cells [.bool (V.gn (V.mAdd a b) bad)] 27]))
theorem add_h_ok {α:Type}:FnOk E.P 35 (fEnt (α := α) add_sp add_h) :=
 fEnt_ok E (look_sum_ok) (exec_sound E E_ok (look_sum_ok) (noLps_ok _) 400) fun ds Q r h => by
   unfold add_h at h
   obtain ⟨bad,ds,rfl,h1⟩ := dB_inv h
   obtain ⟨a,ds,rfl,h2⟩ := dI_inv h1
   obtain ⟨b,ds,rfl,h3⟩ := dI_inv h2
   obtain ⟨rfl,hE⟩ := dE_inv h3
   exact ⟨[SV.ptr (nat_lit 0) (nat_lit 0),SV.int .i64 a,SV.int .i64 b],[.cells [SV.bool bad] (nat_lit 27)],fun vs => by kernel_rfl,(add_eq bad a b Q).trans ((add_v bad a b _).trans hE)⟩
noncomputable def look_add {α:Type}:LookF α := addFn 35 (fEnt add_sp add_h) look_sum
theorem look_add_ok {α:Type}:LookOk E.P (look_add (α := α)) := addFn_ok add_h_ok (look_sum_ok)
noncomputable def M.sub {α:Type} (bad:Bool) (a:Int) (b:Int) (k0:Int → Bool → Option α):Option α := if V.anyG [a,b] = true then k0 (0:Int) true else k0 (V.gv (V.tl (IntKind.wrap .i64 (a - b)))) (V.gn (V.tl (IntKind.wrap .i64 (a - b))) bad)
theorem sub_eq {α:Type} (bad:Bool) (a:Int) (b:Int) (Q:SV → Hp → Option α):callI E look_add (exec E look_add noLps 400) 42 ([SV.ptr (nat_lit 0) (nat_lit 0),SV.int .i64 a,SV.int .i64 b]) ([.cells [SV.bool bad] (nat_lit 27)]) Q = M.sub bad a b (fun (x2:Int) (x3:Bool) => Q (SV.int .i64 x2) ([.cells [SV.bool x3] (nat_lit 27)])) := by kernel_rfl
def sub_sp:List AS := [.ptr 27 [.bool false],.val (.int .i64 0),.val (.int .i64 0)]
theorem sub_v {α:Type} (bad:Bool) (a b:Int) (k0:Int → Bool → Option α):M.sub bad a b k0 = k0 (V.gv (V.mSub a b)) (V.gn (V.mSub a b) bad) := by
 unfold M.sub V.mSub
 rw [anyG2]
 by_cases h:(isG a || isG b) = true
 · simp [h,V.gv,V.gn]
 · have h' : (isG a || isG b) = false := by simpa using h
   simp only [h',Bool.false_eq_true,if_false]
   simp only [Bool.or_eq_false_iff,isG_false] at h'
   rw [IntWalk.i64_in _ (by omega)]
noncomputable def sub_h {α:Type} (ds:List D) (Q:SV → Hp → Option α):Option α :=
 dB ds fun bad ds => dI ds fun a ds => dI ds fun b ds => dE ds (Q (.int .i64 (V.gv (V.mSub a b))) ([.cells [.bool (V.gn (V.mSub a b) bad)] 27]))
theorem sub_h_ok {α:Type}:FnOk E.P 42 (fEnt (α := α) sub_sp sub_h) :=
 fEnt_ok E (look_add_ok) (exec_sound E E_ok (look_add_ok) (noLps_ok _) 400) fun ds Q r h => by
   unfold sub_h at h
   obtain ⟨bad,ds,rfl,h1⟩ := dB_inv h
   obtain ⟨a,ds,rfl,h2⟩ := dI_inv h1
   obtain ⟨b,ds,rfl,h3⟩ := dI_inv h2
   obtain ⟨rfl,hE⟩ := dE_inv h3
   exact ⟨[SV.ptr (nat_lit 0) (nat_lit 0),SV.int .i64 a,SV.int .i64 b],[.cells [SV.bool bad] (nat_lit 27)],fun vs => by kernel_rfl,(sub_eq bad a b Q).trans ((sub_v bad a b _).trans hE)⟩
noncomputable def look_sub {α:Type}:LookF α := addFn 42 (fEnt sub_sp sub_h) look_add
theorem look_sub_ok {α:Type}:LookOk E.P (look_sub (α := α)) := addFn_ok sub_h_ok (look_add_ok)
noncomputable def M.mul {α:Type} (bad:Bool) (a:Int) (b:Int) (k0:Int → Bool → Option α):Option α := if V.anyG [a,b] = true then k0 (0:Int) true else k0 (V.shift_r0 bad (V.times_r0 a b) (V.times_r1 a b)) (V.shift_r1 bad (V.times_r0 a b) (V.times_r1 a b))
theorem mul_eq {α:Type} (bad:Bool) (a:Int) (b:Int) (Q:SV → Hp → Option α):callI E look_sub (exec E look_sub noLps 400) 39 ([SV.ptr (nat_lit 0) (nat_lit 0),SV.int .i64 a,SV.int .i64 b]) ([.cells [SV.bool bad] (nat_lit 27)]) Q = M.mul bad a b (fun (x4:Int) (x5:Bool) => Q (SV.int .i64 x4) ([.cells [SV.bool x5] (nat_lit 27)])) := by kernel_rfl
def mul_sp:List AS := [.ptr 27 [.bool false],.val (.int .i64 0),.val (.int .i64 0)]
theorem G_R {a:Int} (h:isG a = false):R64 a := by rw [isG_false] at h; unfold R64; omega
theorem mul_v {α:Type} (bad:Bool) (a b:Int) (k0:Int → Bool → Option α):M.mul bad a b k0 = k0 (V.gv (V.mMul a b)) (V.gn (V.mMul a b) bad) := by
 unfold M.mul V.mMul
 rw [anyG2]
 by_cases h:(isG a || isG b) = true
 · simp [h,V.gv,V.gn]
 · have h' : (isG a || isG b) = false := by simpa using h
   have hab := h'
   simp only [h',Bool.false_eq_true,if_false]
   simp only [Bool.or_eq_false_iff] at h'
   obtain ⟨t0,t1⟩ := times_eq' (G_R h'.1) (G_R h'.2)
   have hp := prod_G h'.1 h'.2
   obtain ⟨s0,s1⟩ := shift_r (x := a * b) bad (by omega) (by omega)
   rw [t0,t1,s0,s1]
noncomputable def mul_h {α:Type} (ds:List D) (Q:SV → Hp → Option α):Option α :=
 dB ds fun bad ds => dI ds fun a ds => dI ds fun b ds => dE ds (Q (.int .i64 (V.gv (V.mMul a b))) ([.cells [.bool (V.gn (V.mMul a b) bad)] 27]))
theorem mul_h_ok {α:Type}:FnOk E.P 39 (fEnt (α := α) mul_sp mul_h) :=
 fEnt_ok E (look_sub_ok) (exec_sound E E_ok (look_sub_ok) (noLps_ok _) 400) fun ds Q r h => by
   unfold mul_h at h
   obtain ⟨bad,ds,rfl,h1⟩ := dB_inv h
   obtain ⟨a,ds,rfl,h2⟩ := dI_inv h1
   obtain ⟨b,ds,rfl,h3⟩ := dI_inv h2
   obtain ⟨rfl,hE⟩ := dE_inv h3
   exact ⟨[SV.ptr (nat_lit 0) (nat_lit 0),SV.int .i64 a,SV.int .i64 b],[.cells [SV.bool bad] (nat_lit 27)],fun vs => by kernel_rfl,(mul_eq bad a b Q).trans ((mul_v bad a b _).trans hE)⟩
noncomputable def look_mul {α:Type}:LookF α := addFn 39 (fEnt mul_sp mul_h) look_sub
theorem look_mul_ok {α:Type}:LookOk E.P (look_mul (α := α)) := addFn_ok mul_h_ok (look_sub_ok)
end
section
open Go
set_option maxRecDepth 20000
noncomputable def M.ratio {α:Type} (bad:Bool) (a:Int) (b:Int) (c:Int) (k0:Int → Bool → Option α):Option α := let s0 := V.minus_r1 (V.minus_r0 (V.times_r0 a b) (V.times_r1 a b)) (V.minus_r1 (V.times_r0 a b) (V.times_r1 a b)); let s1 := V.minus_r0 (V.minus_r0 (V.times_r0 a b) (V.times_r1 a b)) (V.minus_r1 (V.times_r0 a b) (V.times_r1 a b)); let s2 := IntKind.wrap IntKind.u64 (IntKind.wrap .i64 ((0:Int) - c)); let s3 := V.times_r0 a b * (18446744073709551616:Int) + V.times_r1 a b; let s4 := V.minus_r0 (V.times_r0 a b) (V.times_r1 a b) * (18446744073709551616:Int) + V.minus_r1 (V.times_r0 a b) (V.times_r1 a b); let s5 := s3 / IntKind.wrap IntKind.u64 c; let s6 := IntKind.wrap .i64 s5; let s7 := s4 / IntKind.wrap IntKind.u64 c; let s8 := IntKind.wrap .i64 s7; let s9 := s1 * (18446744073709551616:Int) + s0; let s10 := IntKind.wrap IntKind.u64 (s5 + (1:Int)); let s11 := IntKind.wrap .i64 s10; let s12 := IntKind.wrap IntKind.u64 (s7 + (1:Int)); let s13 := s4 / s2; let s14 := IntKind.wrap .i64 s12; let s15 := IntKind.wrap .i64 s13; let s16 := IntKind.wrap IntKind.u64 (s13 + (1:Int)); let s17 := IntKind.wrap .i64 s16; let s18 := s9 / s2; let s19 := IntKind.wrap .i64 s18; let s20 := IntKind.wrap IntKind.u64 (s18 + (1:Int)); let s21 := IntKind.wrap .i64 s20; if cEq c (0:Int) = true then k0 (0:Int) true else if V.anyG [a,b,c] = true then k0 (0:Int) true else if cLt c (0:Int) = true then if V.minus_g (V.times_r0 a b) (V.times_r1 a b) = true then if V.neg_r0 (V.minus_r0 (V.times_r0 a b) (V.times_r1 a b)) (V.minus_r1 (V.times_r0 a b) (V.times_r1 a b)) = true then if V.minus_g (V.minus_r0 (V.times_r0 a b) (V.times_r1 a b)) (V.minus_r1 (V.times_r0 a b) (V.times_r1 a b)) = true then if cLe s2 s1 = true then k0 (0:Int) true else if ((0:Int) ≤ s1 ∧ s1 < s2 ∧ s2 < (18446744073709551616:Int)) ∧ (0:Int) ≤ s0 ∧ s0 < (18446744073709551616:Int) then if V.neg_r0 (V.minus_r0 (V.times_r0 a b) (V.times_r1 a b)) (V.minus_r1 (V.times_r0 a b) (V.times_r1 a b)) = true then if cLt (0:Int) (s9 % s2) = true then if cLt (4611686018427387903:Int) s20 = true then k0 (0:Int) true else if V.neg_r0 (V.minus_r0 (V.times_r0 a b) (V.times_r1 a b)) (V.minus_r1 (V.times_r0 a b) (V.times_r1 a b)) = true then k0 (IntKind.wrap .i64 ((0:Int) - s21)) bad else k0 s21 bad else if cLt (4611686018427387903:Int) s18 = true then k0 (0:Int) true else if V.neg_r0 (V.minus_r0 (V.times_r0 a b) (V.times_r1 a b)) (V.minus_r1 (V.times_r0 a b) (V.times_r1 a b)) = true then k0 (IntKind.wrap .i64 ((0:Int) - s19)) bad else k0 s19 bad else if cLt (4611686018427387903:Int) s18 = true then k0 (0:Int) true else if V.neg_r0 (V.minus_r0 (V.times_r0 a b) (V.times_r1 a b)) (V.minus_r1 (V.times_r0 a b) (V.times_r1 a b)) = true then k0 (IntKind.wrap .i64 ((0:Int) - s19)) bad else k0 s19 bad else none else none else if cLe s2 (V.minus_r0 (V.times_r0 a b) (V.times_r1 a b)) = true then k0 (0:Int) true else if ((0:Int) ≤ V.minus_r0 (V.times_r0 a b) (V.times_r1 a b) ∧ V.minus_r0 (V.times_r0 a b) (V.times_r1 a b) < s2 ∧ s2 < (18446744073709551616:Int)) ∧ (0:Int) ≤ V.minus_r1 (V.times_r0 a b) (V.times_r1 a b) ∧ V.minus_r1 (V.times_r0 a b) (V.times_r1 a b) < (18446744073709551616:Int) then if V.neg_r0 (V.minus_r0 (V.times_r0 a b) (V.times_r1 a b)) (V.minus_r1 (V.times_r0 a b) (V.times_r1 a b)) = true then if cLt (0:Int) (s4 % s2) = true then if cLt (4611686018427387903:Int) s16 = true then k0 (0:Int) true else if V.neg_r0 (V.minus_r0 (V.times_r0 a b) (V.times_r1 a b)) (V.minus_r1 (V.times_r0 a b) (V.times_r1 a b)) = true then k0 (IntKind.wrap .i64 ((0:Int) - s17)) bad else k0 s17 bad else if cLt (4611686018427387903:Int) s13 = true then k0 (0:Int) true else if V.neg_r0 (V.minus_r0 (V.times_r0 a b) (V.times_r1 a b)) (V.minus_r1 (V.times_r0 a b) (V.times_r1 a b)) = true then k0 (IntKind.wrap .i64 ((0:Int) - s15)) bad else k0 s15 bad else if cLt (4611686018427387903:Int) s13 = true then k0 (0:Int) true else if V.neg_r0 (V.minus_r0 (V.times_r0 a b) (V.times_r1 a b)) (V.minus_r1 (V.times_r0 a b) (V.times_r1 a b)) = true then k0 (IntKind.wrap .i64 ((0:Int) - s15)) bad else k0 s15 bad else none else none else if V.neg_r0 (V.times_r0 a b) (V.times_r1 a b) = true then if V.minus_g (V.times_r0 a b) (V.times_r1 a b) = true then if cLe (IntKind.wrap IntKind.u64 c) (V.minus_r0 (V.times_r0 a b) (V.times_r1 a b)) = true then k0 (0:Int) true else if ((0:Int) ≤ V.minus_r0 (V.times_r0 a b) (V.times_r1 a b) ∧ V.minus_r0 (V.times_r0 a b) (V.times_r1 a b) < IntKind.wrap IntKind.u64 c ∧ IntKind.wrap IntKind.u64 c < (18446744073709551616:Int)) ∧ (0:Int) ≤ V.minus_r1 (V.times_r0 a b) (V.times_r1 a b) ∧ V.minus_r1 (V.times_r0 a b) (V.times_r1 a b) < (18446744073709551616:Int) then if V.neg_r0 (V.times_r0 a b) (V.times_r1 a b) = true then if cLt (0:Int) (s4 % IntKind.wrap IntKind.u64 c) = true then if cLt (4611686018427387903:Int) s12 = true then k0 (0:Int) true else if V.neg_r0 (V.times_r0 a b) (V.times_r1 a b) = true then k0 (IntKind.wrap .i64 ((0:Int) - s14)) bad else k0 s14 bad else if cLt (4611686018427387903:Int) s7 = true then k0 (0:Int) true else if V.neg_r0 (V.times_r0 a b) (V.times_r1 a b) = true then k0 (IntKind.wrap .i64 ((0:Int) - s8)) bad else k0 s8 bad else if cLt (4611686018427387903:Int) s7 = true then k0 (0:Int) true else if V.neg_r0 (V.times_r0 a b) (V.times_r1 a b) = true then k0 (IntKind.wrap .i64 ((0:Int) - s8)) bad else k0 s8 bad else none else none else if cLe (IntKind.wrap IntKind.u64 c) (V.times_r0 a b) = true then k0 (0:Int) true else if ((0:Int) ≤ V.times_r0 a b ∧ V.times_r0 a b < IntKind.wrap IntKind.u64 c ∧ IntKind.wrap IntKind.u64 c < (18446744073709551616:Int)) ∧ (0:Int) ≤ V.times_r1 a b ∧ V.times_r1 a b < (18446744073709551616:Int) then if V.neg_r0 (V.times_r0 a b) (V.times_r1 a b) = true then if cLt (0:Int) (s3 % IntKind.wrap IntKind.u64 c) = true then if cLt (4611686018427387903:Int) s10 = true then k0 (0:Int) true else if V.neg_r0 (V.times_r0 a b) (V.times_r1 a b) = true then k0 (IntKind.wrap .i64 ((0:Int) - s11)) bad else k0 s11 bad else if cLt (4611686018427387903:Int) s5 = true then k0 (0:Int) true else if V.neg_r0 (V.times_r0 a b) (V.times_r1 a b) = true then k0 (IntKind.wrap .i64 ((0:Int) - s6)) bad else k0 s6 bad else if cLt (4611686018427387903:Int) s5 = true then k0 (0:Int) true else if V.neg_r0 (V.times_r0 a b) (V.times_r1 a b) = true then k0 (IntKind.wrap .i64 ((0:Int) - s6)) bad else k0 s6 bad else none
theorem ratio_eq {α:Type} (bad:Bool) (a:Int) (b:Int) (c:Int) (Q:SV → Hp → Option α):callI E look_mul (exec E look_mul noLps 400) 84 ([SV.ptr (nat_lit 0) (nat_lit 0),SV.int .i64 a,SV.int .i64 b,SV.int .i64 c]) ([.cells [SV.bool bad] (nat_lit 27)]) Q = M.ratio bad a b c (fun (x22:Int) (x23:Bool) => Q (SV.int .i64 x22) ([.cells [SV.bool x23] (nat_lit 27)])) := by kernel_rfl
def ratio_sp:List AS := [.ptr 27 [.bool false],.val (.int .i64 0),.val (.int .i64 0),.val (.int .i64 0)]
noncomputable def tailF {α:Type} (neg:Bool) (hi lo cc:Int) (bad:Bool) (k0:Int → Bool → Option α):Option α :=
 if cLe cc hi = true then k0 (0:Int) true
 else
   if (0 ≤ hi ∧ hi < cc ∧ cc < 18446744073709551616) ∧ 0 ≤ lo ∧ lo < 18446744073709551616 then
     if neg = true then
       if cLt (0:Int) ((hi * 18446744073709551616 + lo) % cc) = true then
         if cLt (4611686018427387903:Int) (IntKind.wrap IntKind.u64 ((hi * 18446744073709551616 + lo) / cc + 1)) = true then k0 (0:Int) true
         else
           if neg = true then k0 (IntKind.wrap IntKind.i64 ((0:Int) - IntKind.wrap IntKind.i64 (IntKind.wrap IntKind.u64 ((hi * 18446744073709551616 + lo) / cc + 1)))) bad
           else k0 (IntKind.wrap IntKind.i64 (IntKind.wrap IntKind.u64 ((hi * 18446744073709551616 + lo) / cc + 1))) bad
       else
         if cLt (4611686018427387903:Int) ((hi * 18446744073709551616 + lo) / cc) = true then k0 (0:Int) true
         else
           if neg = true then k0 (IntKind.wrap IntKind.i64 ((0:Int) - IntKind.wrap IntKind.i64 ((hi * 18446744073709551616 + lo) / cc))) bad
           else k0 (IntKind.wrap IntKind.i64 ((hi * 18446744073709551616 + lo) / cc)) bad
     else
       if cLt (4611686018427387903:Int) ((hi * 18446744073709551616 + lo) / cc) = true then k0 (0:Int) true
       else
         if neg = true then k0 (IntKind.wrap IntKind.i64 ((0:Int) - IntKind.wrap IntKind.i64 ((hi * 18446744073709551616 + lo) / cc))) bad
         else k0 (IntKind.wrap IntKind.i64 ((hi * 18446744073709551616 + lo) / cc)) bad
   else none
theorem tailF_v {α:Type} (neg:Bool) (x cc:Int) (bad:Bool) (k0:Int → Bool → Option α) (hc0:0 < cc) (hc1:cc ≤ 4611686018427387903) (hx0:0 ≤ x) (hx1:x < 170141183460469231731687303715884105728) :
   tailF neg (hiW x) (loW x) cc bad k0 = k0 (V.gv (V.qF (if neg then -x else x) cc)) (V.gn (V.qF (if neg then -x else x) cc) bad) := by
 unfold tailF
 have a1 := hiW_lo x
 have a2 := loW_lo x
 rw [hilo hx0 (by omega)]
 have hd:x / cc * cc + x % cc = x := Int.ediv_mul_add_emod x cc
 have hm0:0 ≤ x % cc := Int.emod_nonneg x (by omega)
 have hm1:x % cc < cc := Int.emod_lt_of_pos x hc0
 have hq0:0 ≤ x / cc := Int.ediv_nonneg hx0 (by omega)
 have hd2:(-x) / cc * cc + (-x) % cc = -x := Int.ediv_mul_add_emod (-x) cc
 have hn0:0 ≤ (-x) % cc := Int.emod_nonneg (-x) (by omega)
 have hn1:(-x) % cc < cc := Int.emod_lt_of_pos (-x) hc0
 have hneg:(-x) / cc = if 0 < x % cc then -(x / cc) - 1 else -(x / cc) := by
   split
   · rename_i h
     apply Int.ediv_eq_iff_of_pos hc0 |>.2
     have e:(-(x / cc) - 1) * cc = -(x / cc * cc) - cc := by grind
     constructor <;> grind
   · rename_i h
     have e:x = cc * (x / cc) := by rw [Int.mul_comm]; omega
     have:-x = cc * (-(x / cc)) := by rw [Int.mul_neg,← e]
     rw [this,Int.mul_ediv_cancel_left _ (by omega)]
 have hnm:((-x) % cc = 0) ↔ x % cc = 0 := by
   constructor
   · intro h
     rw [hneg] at hd2
     split at hd2
     · have e : (-(x / cc) - 1) * cc = -(x / cc * cc) - cc := by grind
       omega
     · omega
   · intro h
     rw [hneg,if_neg (by omega)] at hd2
     have e:(-(x / cc)) * cc = -(x / cc * cc) := by grind
     omega
 simp only [cLe_eq,cLt_eq]
 have hbig:cc ≤ hiW x → 18446744073709551616 ≤ x / cc := by
   intro h1
   apply Int.le_ediv_of_mul_le hc0
   have:18446744073709551616 * cc ≤ 18446744073709551616 * hiW x := Int.mul_le_mul_of_nonneg_left h1 (by decide)
   unfold hiW at this
   omega
 have hsmall:¬ cc ≤ hiW x → x / cc < 18446744073709551616 := by
   intro h1
   apply Int.ediv_lt_of_lt_mul hc0
   have:18446744073709551616 * (hiW x + 1) ≤ 18446744073709551616 * cc := Int.mul_le_mul_of_nonneg_left (by omega) (by decide)
   unfold hiW at this
   omega
 cases neg with
 | false =>
   simp only [Bool.false_eq_true,if_false]
   unfold V.qF V.tl V.gv V.gn
   have hne:(x / cc == -18446744073709551616) = false := by
     simp only [beq_eq_false_iff_ne,ne_eq]; omega
   rw [hne]
   simp only [Bool.false_and,Bool.false_eq_true,if_false]
   by_cases h1:cc ≤ hiW x
   · have : isG (x / cc) = true := by rw [isG_iff]; have := hbig h1; omega
     simp [h1,this]
   · have hq1 := hsmall h1
     simp only [h1,decide_false,Bool.false_eq_true,if_false]
     rw [if_pos ⟨⟨a1.1,by omega,by omega⟩,a2⟩]
     by_cases c1:4611686018427387903 < x / cc
     · have : isG (x / cc) = true := by rw [isG_iff]; omega
       simp [c1,this]
     · have : isG (x / cc) = false := by rw [isG_false]; omega
       rw [IntWalk.i64_in _ (by omega)]
       simp [c1,this]
 | true =>
   simp only [if_true]
   unfold V.qF V.tl V.gv V.gn
   by_cases h1:cc ≤ hiW x
   · have hb := hbig h1
     simp only [h1,decide_true,if_true]
     have hg:isG ((-x) / cc) = true := by rw [isG_iff,hneg]; split <;> omega
     have hne:((-x) / cc == -18446744073709551616 && (-x) % cc != 0) = false := by
       by_cases h:(-x) % cc = 0
       · simp [h]
       · have : 0 < x % cc := by
           rw [hnm] at h; omega
         rw [hneg,if_pos this]
         simp only [Bool.and_eq_false_iff,beq_eq_false_iff_ne,ne_eq]
         left; omega
     simp [hne,hg]
   · have hq1 := hsmall h1
     simp only [h1,decide_false,Bool.false_eq_true,if_false]
     rw [if_pos ⟨⟨a1.1,by omega,by omega⟩,a2⟩]
     by_cases c0:0 < x % cc
     · rw [hneg, if_pos c0]
       have hn:((-x) % cc != 0) = true := by
         simp only [bne_iff_ne,ne_eq]
         rw [hnm]; omega
       rw [hn,Bool.and_true]
       simp only [c0,decide_true,if_true]
       generalize x / cc = q at *
       by_cases c2:q = 18446744073709551615
       · subst c2
         have e:IntKind.wrap .u64 (18446744073709551615 + 1) = 0 := by rw [IntKind.wrap_u64]; rfl
         rw [e]
         have e2:(-18446744073709551615 - 1 == (-18446744073709551616:Int)) = true := by decide
         rw [e2,IntWalk.i64_in 0 (by omega)]
         simp only [Int.sub_zero,if_true]
         rw [IntWalk.i64_in 0 (by omega)]
         rfl
       · have e2 : (-q - 1 == (-18446744073709551616 : Int)) = false := by
           simp only [beq_eq_false_iff_ne,ne_eq]; omega
         rw [e2,u64_in' (by omega:0 ≤ q + 1) (by omega)]
         by_cases c1:4611686018427387903 < q + 1
         · have : isG (-q - 1) = true := by rw [isG_iff]; omega
           simp [c1,this]
         · have : isG (-q - 1) = false := by rw [isG_false]; omega
           rw [IntWalk.i64_in (q + 1) (by omega),IntWalk.i64_in _ (by omega)]
           simp only [c1,this,decide_false,Bool.false_eq_true,if_false]
           rw [show (0:Int) - (q + 1) = -q - 1 by omega]
           rfl
     · rw [hneg, if_neg c0]
       have hn:((-x) % cc != 0) = false := by
         simp only [bne_eq_false_iff_eq]
         rw [hnm]; omega
       rw [hn,Bool.and_false]
       simp only [c0,decide_false,Bool.false_eq_true,if_false]
       generalize x / cc = q at *
       by_cases c1:4611686018427387903 < q
       · have : isG (-q) = true := by rw [isG_iff]; omega
         simp [c1,this]
       · have : isG (-q) = false := by rw [isG_false]; omega
         rw [IntWalk.i64_in q (by omega),IntWalk.i64_in _ (by omega)]
         simp only [c1,this,decide_false,Bool.false_eq_true,if_false]
         rw [show (0:Int) - q = -q by omega]
         rfl
theorem ratio_tail {α:Type} (bad:Bool) (a b c:Int) (k0:Int → Bool → Option α):M.ratio bad a b c k0 =
   if cEq c 0 = true then k0 0 true else if V.anyG [a,b,c] = true then k0 0 true else
     if cLt c 0 = true then
       (if V.minus_g (V.times_r0 a b) (V.times_r1 a b) = true then
         (if V.neg_r0 (V.minus_r0 (V.times_r0 a b) (V.times_r1 a b)) (V.minus_r1 (V.times_r0 a b) (V.times_r1 a b)) = true then
           (if V.minus_g (V.minus_r0 (V.times_r0 a b) (V.times_r1 a b)) (V.minus_r1 (V.times_r0 a b) (V.times_r1 a b)) = true then
             tailF (V.neg_r0 (V.minus_r0 (V.times_r0 a b) (V.times_r1 a b)) (V.minus_r1 (V.times_r0 a b) (V.times_r1 a b))) (V.minus_r0 (V.minus_r0 (V.times_r0 a b) (V.times_r1 a b)) (V.minus_r1 (V.times_r0 a b) (V.times_r1 a b))) (V.minus_r1 (V.minus_r0 (V.times_r0 a b) (V.times_r1 a b)) (V.minus_r1 (V.times_r0 a b) (V.times_r1 a b))) (IntKind.wrap .u64 (IntKind.wrap .i64 (0 - c))) bad k0
           else none)
         else tailF (V.neg_r0 (V.minus_r0 (V.times_r0 a b) (V.times_r1 a b)) (V.minus_r1 (V.times_r0 a b) (V.times_r1 a b))) (V.minus_r0 (V.times_r0 a b) (V.times_r1 a b)) (V.minus_r1 (V.times_r0 a b) (V.times_r1 a b)) (IntKind.wrap .u64 (IntKind.wrap .i64 (0 - c))) bad k0)
       else none)
     else
       (if V.neg_r0 (V.times_r0 a b) (V.times_r1 a b) = true then
         (if V.minus_g (V.times_r0 a b) (V.times_r1 a b) = true then
           tailF (V.neg_r0 (V.times_r0 a b) (V.times_r1 a b)) (V.minus_r0 (V.times_r0 a b) (V.times_r1 a b)) (V.minus_r1 (V.times_r0 a b) (V.times_r1 a b)) (IntKind.wrap .u64 c) bad k0
         else none)
       else tailF (V.neg_r0 (V.times_r0 a b) (V.times_r1 a b)) (V.times_r0 a b) (V.times_r1 a b) (IntKind.wrap .u64 c) bad k0) := rfl
theorem ratio_v {α:Type} (bad:Bool) (a b c:Int) (k0:Int → Bool → Option α):M.ratio bad a b c k0 = k0 (V.gv (V.mRatio a b c)) (V.gn (V.mRatio a b c) bad) := by
 rw [ratio_tail,anyG3,cEq_eq,cLt_eq]
 unfold V.mRatio
 by_cases hc:c = 0
 · simp [hc,V.gv,V.gn]
 have hc':(c == 0) = false := by simpa using hc
 cases hG:(isG a || isG b || isG c) with
 | true =>
   rw [hc',Bool.false_or,hG]
   simp [V.gv,V.gn]
 | false =>
   rw [hc',Bool.false_or,hG]
   simp only [Bool.false_eq_true,if_false]
   simp only [Bool.or_eq_false_iff] at hG
   obtain ⟨t0,t1⟩ := times_eq' (G_R hG.1.1) (G_R hG.1.2)
   have hp := prod_G hG.1.1 hG.1.2
   have hcb := (isG_false c).1 hG.2
   rw [t0,t1]
   generalize a * b = x at *
   obtain ⟨m0,m1,m2⟩ := minus_eq' x
   have n0 := neg_eq' (x := x) (by omega) (by omega)
   have n1 := neg_eq' (x := -x) (by omega) (by omega)
   obtain ⟨mm0,mm1,mm2⟩ := minus_eq' (-x)
   rw [Int.neg_neg] at mm1 mm2
   by_cases hn:c < 0
   · have ec : IntKind.wrap .u64 (IntKind.wrap .i64 (0 - c)) = -c := by
       rw [IntWalk.i64_in _ (by omega),u64_in' (by omega) (by omega)]; omega
     simp only [hn,decide_true,if_true,m0,m1,m2,n1,mm0,mm1,mm2,ec]
     by_cases hx:-x < 0
     · simp only [hx, decide_true, if_true]
       rw [tailF_v true x (-c) bad k0 (by omega) (by omega) (by omega) (by omega)]
       simp
     · simp only [hx, decide_false, Bool.false_eq_true, if_false]
       rw [tailF_v false (-x) (-c) bad k0 (by omega) (by omega) (by omega) (by omega)]
       simp
   · have ec : IntKind.wrap .u64 c = c := u64_in' (by omega) (by omega)
     simp only [hn,decide_false,Bool.false_eq_true,if_false,m0,m1,m2,n0,ec]
     by_cases hx:x < 0
     · simp only [hx, decide_true, if_true]
       rw [tailF_v true (-x) c bad k0 (by omega) (by omega) (by omega) (by omega)]
       simp
     · simp only [hx, decide_false, Bool.false_eq_true, if_false]
       rw [tailF_v false x c bad k0 (by omega) (by omega) (by omega) (by omega)]
       simp
noncomputable def ratio_h {α:Type} (ds:List D) (Q:SV → Hp → Option α):Option α :=
 dB ds fun bad ds => dI ds fun a ds => dI ds fun b ds => dI ds fun c ds => dE ds (Q (.int .i64 (V.gv (V.mRatio a b c))) ([.cells [.bool (V.gn (V.mRatio a b c) bad)] 27]))
theorem ratio_h_ok {α:Type}:FnOk E.P 84 (fEnt (α := α) ratio_sp ratio_h) :=
 fEnt_ok E (look_mul_ok) (exec_sound E E_ok (look_mul_ok) (noLps_ok _) 400) fun ds Q r h => by
   unfold ratio_h at h
   obtain ⟨bad,ds,rfl,h1⟩ := dB_inv h
   obtain ⟨a,ds,rfl,h2⟩ := dI_inv h1
   obtain ⟨b,ds,rfl,h3⟩ := dI_inv h2
   obtain ⟨c,ds,rfl,h4⟩ := dI_inv h3
   obtain ⟨rfl,hE⟩ := dE_inv h4
   exact ⟨[SV.ptr (nat_lit 0) (nat_lit 0),SV.int .i64 a,SV.int .i64 b,SV.int .i64 c],[.cells [SV.bool bad] (nat_lit 27)],fun vs => by kernel_rfl,(ratio_eq bad a b c Q).trans ((ratio_v bad a b c _).trans hE)⟩
noncomputable def look_ratio {α:Type}:LookF α := addFn 84 (fEnt ratio_sp ratio_h) look_mul
theorem look_ratio_ok {α:Type}:LookOk E.P (look_ratio (α := α)) := addFn_ok ratio_h_ok (look_mul_ok)
noncomputable def M.div {α:Type} (bad:Bool) (a:Int) (b:Int) (k0:Int → Bool → Option α):Option α := k0 (V.gv (V.mRatio a (4294967296:Int) b)) (V.gn (V.mRatio a (4294967296:Int) b) bad)
theorem div_eq {α:Type} (bad:Bool) (a:Int) (b:Int) (Q:SV → Hp → Option α):callI E look_ratio (exec E look_ratio noLps 400) 41 ([SV.ptr (nat_lit 0) (nat_lit 0),SV.int .i64 a,SV.int .i64 b]) ([.cells [SV.bool bad] (nat_lit 27)]) Q = M.div bad a b (fun (x24:Int) (x25:Bool) => Q (SV.int .i64 x24) ([.cells [SV.bool x25] (nat_lit 27)])) := by kernel_rfl
def div_sp:List AS := [.ptr 27 [.bool false],.val (.int .i64 0),.val (.int .i64 0)]
noncomputable def div_h {α:Type} (ds:List D) (Q:SV → Hp → Option α):Option α :=
 dB ds fun bad ds => dI ds fun a ds => dI ds fun b ds => dE ds (Q (.int .i64 (V.gv (V.mDiv a b))) ([.cells [.bool (V.gn (V.mDiv a b) bad)] 27]))
theorem div_h_ok {α:Type}:FnOk E.P 41 (fEnt (α := α) div_sp div_h) :=
 fEnt_ok E (look_ratio_ok) (exec_sound E E_ok (look_ratio_ok) (noLps_ok _) 400) fun ds Q r h => by
   unfold div_h at h
   obtain ⟨bad,ds,rfl,h1⟩ := dB_inv h
   obtain ⟨a,ds,rfl,h2⟩ := dI_inv h1
   obtain ⟨b,ds,rfl,h3⟩ := dI_inv h2
   obtain ⟨rfl,hE⟩ := dE_inv h3
   exact ⟨[SV.ptr (nat_lit 0) (nat_lit 0),SV.int .i64 a,SV.int .i64 b],[.cells [SV.bool bad] (nat_lit 27)],fun vs => by kernel_rfl,(div_eq bad a b Q).trans ((rfl).trans hE)⟩
noncomputable def look_div {α:Type}:LookF α := addFn 41 (fEnt div_sp div_h) look_ratio
theorem look_div_ok {α:Type}:LookOk E.P (look_div (α := α)) := addFn_ok div_h_ok (look_ratio_ok)
end
section
open Go
set_option maxRecDepth 20000
noncomputable def M.dot {α:Type} (bad:Bool) (a:List Int) (b:List Int) (k0:Int → Bool → Option α):Option α := if (!cEq (↑(List.length a):Int) (↑(List.length b):Int)) = true then k0 (0:Int) true else if cLt (8:Int) (↑(List.length a):Int) = true then k0 (0:Int) true else if List.length a < (9223372036854775808:Nat) then if V.anyG a = true then k0 (0:Int) true else if List.length b < (9223372036854775808:Nat) then if V.anyG b = true then k0 (0:Int) true else if (List.length a < (9223372036854775808:Nat) ∧ List.length a = List.length b) ∧ V.anyG a = false ∧ V.anyG b = false then k0 (V.shift_r0 bad (hiW (V.dotZ a b)) (loW (V.dotZ a b))) (V.shift_r1 bad (hiW (V.dotZ a b)) (loW (V.dotZ a b))) else none else none else none
theorem dot_eq {α:Type} (bad:Bool) (a:List Int) (b:List Int) (v0:Value) (v1:Value) (Q:SV → Hp → Option α):callI E look_div (exec E look_div noLps 400) 65 ([SV.ptr (nat_lit 0) (nat_lit 0),SV.ros v0 (K.int IntKind.i64) a,SV.ros v1 (K.int IntKind.i64) b]) ([.cells [SV.bool bad] (nat_lit 27)]) Q = M.dot bad a b (fun (x2:Int) (x3:Bool) => Q (SV.int .i64 x2) ([.cells [SV.bool x3] (nat_lit 27)])) := by kernel_rfl
def dot_sp:List AS := [.ptr 27 [.bool false],.ro (.int .i64),.ro (.int .i64)]
theorem anyG_cons (x:Int) (l:List Int):V.anyG (x :: l) = (isG x || V.anyG l) := by simp [V.anyG]
theorem dotZ_cons (x y:Int) (a b:List Int):V.dotZ (x :: a) (y :: b) = x * y + V.dotZ a b := by simp [V.dotZ]
theorem dotZ_bound:∀ (a b:List Int),V.anyG a = false → V.anyG b = false → -21267647932558653957237540927630737409 * (a.length:Int) ≤ V.dotZ a b ∧ V.dotZ a b ≤ 21267647932558653957237540927630737409 * (a.length:Int)
 | [],b,_,_ => by simp [V.dotZ]
 | x :: a,[],_,_ => by simp [V.dotZ]; omega
 | x :: a,y :: b,ha,hb => by
   rw [anyG_cons,Bool.or_eq_false_iff] at ha hb
   have h1 := prod_G ha.1 hb.1
   have h2 := dotZ_bound a b ha.2 hb.2
   rw [dotZ_cons,List.length_cons]
   push_cast
   omega
theorem dot_v {α:Type} (bad:Bool) (a b:List Int) (k0:Int → Bool → Option α):M.dot bad a b k0 = k0 (V.gv (V.mDot a b)) (V.gn (V.mDot a b) bad) := by
 unfold M.dot V.mDot
 rw [cEq_eq,cLt_eq]
 by_cases h1:a.length = b.length
 · have e1 : ((a.length : Int) == (b.length : Int)) = true := by simp [h1]
   have e2:(a.length != b.length) = false := by simp [h1]
   rw [e1,e2]
   by_cases h2:8 < a.length
   · have : (8 : Int) < (a.length : Int) := by omega
     simp [h2,this,V.gv,V.gn]
   · have : ¬ (8 : Int) < (a.length : Int) := by omega
     have l1:a.length < 9223372036854775808 := by omega
     have l2:b.length < 9223372036854775808 := by omega
     simp only [this,h2,l1,l2,if_true,decide_false,Bool.not_true,Bool.false_or,Bool.or_false,Bool.false_eq_true,if_false]
     cases ga:V.anyG a with
     | true => simp [V.gv,V.gn]
     | false => cases gb:V.anyG b with
       | true => simp [V.gv,V.gn]
       | false =>
         have hb := dotZ_bound a b ga gb
         obtain ⟨s0,s1⟩ := shift_r (x := V.dotZ a b) bad (by omega) (by omega)
         simp [h1,s0,s1]
 · have e1 : ((a.length : Int) == (b.length : Int)) = false := by
     simp only [beq_eq_false_iff_ne,ne_eq]; omega
   have e2:(a.length != b.length) = true := by simp [h1]
   rw [e1,e2]
   simp [V.gv,V.gn]
noncomputable def dot_h {α:Type} (ds:List D) (Q:SV → Hp → Option α):Option α :=
 dB ds fun bad ds => dL (K.int IntKind.i64) ds fun a ds => dL (K.int IntKind.i64) ds fun b ds => dE ds (Q (.int .i64 (V.gv (V.mDot a b))) ([.cells [.bool (V.gn (V.mDot a b) bad)] 27]))
theorem dot_h_ok {α:Type}:FnOk E.P 65 (fEnt (α := α) dot_sp dot_h) :=
 fEntR_ok E (look_div_ok) (exec_sound E E_ok (look_div_ok) (noLps_ok _) 400) fun ds Q r h => by
   unfold dot_h at h
   obtain ⟨bad,ds,rfl,h1⟩ := dB_inv h
   obtain ⟨a,ds,rfl,h2⟩ := dL_inv h1
   obtain ⟨b,ds,rfl,h3⟩ := dL_inv h2
   obtain ⟨rfl,hE⟩ := dE_inv h3
   exact ⟨_,_,hE,fun vs => ⟨_,_,by kernel_rfl,(dot_eq bad a b (vs.tail.headD undef) (vs.tail.tail.headD undef) _).trans (dot_v bad a b _)⟩⟩
noncomputable def look_dot {α:Type}:LookF α := addFn 65 (fEnt dot_sp dot_h) look_div
theorem look_dot_ok {α:Type}:LookOk E.P (look_dot (α := α)) := addFn_ok dot_h_ok (look_div_ok)
end
end Go.Proofs.YtfkgmidgdpfnkaaGreat.Sx
section
namespace Go.Proofs.YtfkgmidgdpfnkaaGreat
open Go Go.Proofs.YtfkgmidgdpfnkaaGreat.Sx
abbrev V.T3 := Int × Int × Int
abbrev V.T4 := Int × Int × Int × Int
abbrev V.T9 := (Int × Int × Int) × (Int × Int × Int) × (Int × Int × Int)
def V.on {β:Type} (o:Option β) (bad:Bool):Bool := o.isNone || bad
def V.no (l:List (Option Int)):Bool := l.any Option.isNone
def V.q3 (o:Option V.T3):V.T3 := o.getD (0,0,0)
def V.q4 (o:Option V.T4):V.T4 := o.getD (0,0,0,0)
def V.q9 (o:Option V.T9):V.T9 := o.getD ((0,0,0),(0,0,0),(0,0,0))
def V.x3 (o:Option V.T3):Int := (V.q3 o).1
def V.y3 (o:Option V.T3):Int := (V.q3 o).2.1
def V.z3 (o:Option V.T3):Int := (V.q3 o).2.2
def V.w4 (o:Option V.T4):Int := (V.q4 o).1
def V.x4 (o:Option V.T4):Int := (V.q4 o).2.1
def V.y4 (o:Option V.T4):Int := (V.q4 o).2.2.1
def V.z4 (o:Option V.T4):Int := (V.q4 o).2.2.2
def V.m0 (o:Option V.T9):Int := (V.q9 o).1.1
def V.m1 (o:Option V.T9):Int := (V.q9 o).1.2.1
def V.m2 (o:Option V.T9):Int := (V.q9 o).1.2.2
def V.m3 (o:Option V.T9):Int := (V.q9 o).2.1.1
def V.m4 (o:Option V.T9):Int := (V.q9 o).2.1.2.1
def V.m5 (o:Option V.T9):Int := (V.q9 o).2.1.2.2
def V.m6 (o:Option V.T9):Int := (V.q9 o).2.2.1
def V.m7 (o:Option V.T9):Int := (V.q9 o).2.2.2.1
def V.m8 (o:Option V.T9):Int := (V.q9 o).2.2.2.2
noncomputable def V.t3 (a b c:Option Int):Option V.T3 := if V.no [a,b,c] = true then none else some (V.gv a,V.gv b,V.gv c)
noncomputable def V.tAdd (a b:V.T3):Option V.T3 := V.t3 (V.mAdd a.1 b.1) (V.mAdd a.2.1 b.2.1) (V.mAdd a.2.2 b.2.2)
noncomputable def V.tSub (a b:V.T3):Option V.T3 := V.t3 (V.mSub a.1 b.1) (V.mSub a.2.1 b.2.1) (V.mSub a.2.2 b.2.2)
noncomputable def V.tScale (a:V.T3) (n:Int):Option V.T3 := V.t3 (V.mMul a.1 n) (V.mMul a.2.1 n) (V.mMul a.2.2 n)
noncomputable def V.tDot (a b:V.T3):Option Int := V.mDot [a.1,a.2.1,a.2.2] [b.1,b.2.1,b.2.2]
noncomputable def V.tCross (a b:V.T3):Option V.T3 :=
 if V.no [V.mSub 0 b.1,V.mSub 0 b.2.1,V.mSub 0 b.2.2] = true then none else
 V.t3 (V.mDot [a.2.1,a.2.2] [b.2.2,V.gv (V.mSub 0 b.2.1)]) (V.mDot [a.2.2,a.1] [b.1,V.gv (V.mSub 0 b.2.2)]) (V.mDot [a.1,a.2.1] [b.2.1,V.gv (V.mSub 0 b.1)])
noncomputable def V.tLen (a:V.T3):Option Int := V.mNorm [a.1,a.2.1,a.2.2]
noncomputable def V.tUnit (a:V.T3):Option V.T3 :=
 if V.no [V.tLen a] = true then none else V.t3 (V.mDiv a.1 (V.gv (V.tLen a))) (V.mDiv a.2.1 (V.gv (V.tLen a))) (V.mDiv a.2.2 (V.gv (V.tLen a)))
noncomputable def V.tTurn (m:V.T9) (a:V.T3):Option V.T3 := V.t3 (V.tDot m.1 a) (V.tDot m.2.1 a) (V.tDot m.2.2 a)
def V.tr (m:V.T9):V.T9 := ((m.1.1,m.2.1.1,m.2.2.1),(m.1.2.1,m.2.1.2.1,m.2.2.2.1),(m.1.2.2,m.2.1.2.2,m.2.2.2.2))
noncomputable def V.tBack (m:V.T9) (a:V.T3):Option V.T3 := V.tTurn (V.tr m) a
noncomputable def V.t4 (a b c d:Option Int):Option V.T4 := if V.no [a,b,c,d] = true then none else some (V.gv a,V.gv b,V.gv c,V.gv d)
noncomputable def V.tLen4 (q:V.T4):Option Int := V.mNorm [q.1,q.2.1,q.2.2.1,q.2.2.2]
noncomputable def V.tWhole (q:V.T4):Option V.T4 :=
 if V.gv (V.tLen4 q) < 2147483648 ∨ V.no [V.tLen4 q] = true then none else
 V.t4 (V.mDiv q.1 (V.gv (V.tLen4 q))) (V.mDiv q.2.1 (V.gv (V.tLen4 q))) (V.mDiv q.2.2.1 (V.gv (V.tLen4 q))) (V.mDiv q.2.2.2 (V.gv (V.tLen4 q)))
noncomputable def V.dbl (n:Int):Int := V.gv (V.mAdd n n)
noncomputable def V.neg (n:Int):Int := V.gv (V.mSub 0 n)
noncomputable def V.twoD (a b c d:Int):Option Int := V.mDot [a,b] [c,d]
noncomputable def V.tRows (q:V.T4):Option V.T9 :=
 let w := q.1; let x := q.2.1; let y := q.2.2.1; let z := q.2.2.2
 if V.no [V.mAdd w w,V.mAdd x x,V.mAdd y y,V.mAdd z z,V.mSub 0 x,V.mSub 0 y,V.mSub 0 z,V.twoD (V.dbl y) (V.dbl z) y z,V.twoD (V.dbl x) (V.dbl z) x z,V.twoD (V.dbl x) (V.dbl y) x y] = true then none else
 if V.no [V.mSub 4294967296 (V.gv (V.twoD (V.dbl y) (V.dbl z) y z)),V.twoD (V.dbl x) (V.dbl w) y (V.neg z),V.twoD (V.dbl x) (V.dbl w) z y,V.twoD (V.dbl x) (V.dbl w) y z,
   V.mSub 4294967296 (V.gv (V.twoD (V.dbl x) (V.dbl z) x z)),V.twoD (V.dbl y) (V.dbl w) z (V.neg x),V.twoD (V.dbl x) (V.dbl w) z (V.neg y),V.twoD (V.dbl y) (V.dbl w) z x,
   V.mSub 4294967296 (V.gv (V.twoD (V.dbl x) (V.dbl y) x y))] = true then none else
 some ((V.gv (V.mSub 4294967296 (V.gv (V.twoD (V.dbl y) (V.dbl z) y z))),V.gv (V.twoD (V.dbl x) (V.dbl w) y (V.neg z)),V.gv (V.twoD (V.dbl x) (V.dbl w) z y)),
   (V.gv (V.twoD (V.dbl x) (V.dbl w) y z),V.gv (V.mSub 4294967296 (V.gv (V.twoD (V.dbl x) (V.dbl z) x z))),V.gv (V.twoD (V.dbl y) (V.dbl w) z (V.neg x))),
   (V.gv (V.twoD (V.dbl x) (V.dbl w) z (V.neg y)),V.gv (V.twoD (V.dbl y) (V.dbl w) z x),V.gv (V.mSub 4294967296 (V.gv (V.twoD (V.dbl x) (V.dbl y) x y)))))
end Go.Proofs.YtfkgmidgdpfnkaaGreat
namespace Go.Proofs.YtfkgmidgdpfnkaaGreat.Sx
theorem if_flag {β:Type} {f g:Bool} (h:f = g) (a b:β):(if f = true then a else b) = if g = true then a else b := by rw [h]
theorem no_cons (o:Option Int) (l:List (Option Int)):V.no (o :: l) = (o.isNone || V.no l) := rfl
theorem no_nil:V.no [] = false := rfl
end Go.Proofs.YtfkgmidgdpfnkaaGreat.Sx
end
namespace Go.Proofs.YtfkgmidgdpfnkaaGreat.Sx
section
open Go
set_option maxRecDepth 20000
noncomputable def M.vadd {α:Type} (bad:Bool) (ax:Int) (ay:Int) (az:Int) (bx:Int) (b_y:Int) (bz:Int) (k0:Int → Int → Int → Bool → Option α):Option α := if V.gn (V.mAdd az bz) (V.gn (V.mAdd ay b_y) (V.gn (V.mAdd ax bx) false)) = true then k0 (0:Int) (0:Int) (0:Int) true else k0 (V.gv (V.mAdd ax bx)) (V.gv (V.mAdd ay b_y)) (V.gv (V.mAdd az bz)) bad
theorem vadd_eq {α:Type} (bad:Bool) (ax:Int) (ay:Int) (az:Int) (bx:Int) (b_y:Int) (bz:Int) (Q:SV → Hp → Option α):callI E look_dot (exec E look_dot noLps 400) 61 ([SV.ptr (nat_lit 0) (nat_lit 0),SV.agg [SV.int .i64 ax,SV.int .i64 ay,SV.int .i64 az],SV.agg [SV.int .i64 bx,SV.int .i64 b_y,SV.int .i64 bz]]) ([.cells [SV.bool bad] (nat_lit 27)]) Q = M.vadd bad ax ay az bx b_y bz (fun (x0 x1 x2:Int) (x3:Bool) => Q (SV.agg [SV.int .i64 x0,SV.int .i64 x1,SV.int .i64 x2]) ([.cells [SV.bool x3] (nat_lit 27)])) := by kernel_rfl
def vadd_sp:List AS := [.ptr 27 [.bool false],.val (.agg [.int .i64 0,.int .i64 0,.int .i64 0]),.val (.agg [.int .i64 0,.int .i64 0,.int .i64 0])]
theorem vadd_v {α:Type} (bad:Bool) (ax:Int) (ay:Int) (az:Int) (bx:Int) (b_y:Int) (bz:Int) (k0:Int → Int → Int → Bool → Option α):M.vadd bad ax ay az bx b_y bz k0 = k0 (V.x3 (V.tAdd (ax,ay,az) (bx,b_y,bz))) (V.y3 (V.tAdd (ax,ay,az) (bx,b_y,bz))) (V.z3 (V.tAdd (ax,ay,az) (bx,b_y,bz))) (V.on (V.tAdd (ax,ay,az) (bx,b_y,bz)) bad) := by
 unfold M.vadd V.tAdd V.t3
 generalize h0:V.mAdd ax bx = o0
 generalize h1:V.mAdd ay b_y = o1
 generalize h2:V.mAdd az bz = o2
 cases o0 <;> cases o1 <;> cases o2 <;> rfl
noncomputable def vadd_h {α:Type} (ds:List D) (Q:SV → Hp → Option α):Option α :=
 dB ds fun bad ds => dI ds fun ax ds => dI ds fun ay ds => dI ds fun az ds => dI ds fun bx ds => dI ds fun b_y ds => dI ds fun bz ds => dE ds (Q (.agg [.int .i64 (V.x3 (V.tAdd (ax,ay,az) (bx,b_y,bz))),.int .i64 (V.y3 (V.tAdd (ax,ay,az) (bx,b_y,bz))),.int .i64 (V.z3 (V.tAdd (ax,ay,az) (bx,b_y,bz)))]) ([.cells [.bool (V.on (V.tAdd (ax,ay,az) (bx,b_y,bz)) bad)] 27]))
theorem vadd_h_ok {α:Type}:FnOk E.P 61 (fEnt (α := α) vadd_sp vadd_h) :=
 fEnt_ok E (look_dot_ok) (exec_sound E E_ok (look_dot_ok) (noLps_ok _) 400) fun ds Q r h => by
   unfold vadd_h at h
   obtain ⟨bad,ds,rfl,h1⟩ := dB_inv h
   obtain ⟨ax,ds,rfl,h2⟩ := dI_inv h1
   obtain ⟨ay,ds,rfl,h3⟩ := dI_inv h2
   obtain ⟨az,ds,rfl,h4⟩ := dI_inv h3
   obtain ⟨bx,ds,rfl,h5⟩ := dI_inv h4
   obtain ⟨b_y,ds,rfl,h6⟩ := dI_inv h5
   obtain ⟨bz,ds,rfl,h7⟩ := dI_inv h6
   obtain ⟨rfl,hE⟩ := dE_inv h7
   exact ⟨[SV.ptr (nat_lit 0) (nat_lit 0),SV.agg [SV.int .i64 ax,SV.int .i64 ay,SV.int .i64 az],SV.agg [SV.int .i64 bx,SV.int .i64 b_y,SV.int .i64 bz]],[.cells [SV.bool bad] (nat_lit 27)],fun vs => by kernel_rfl,(vadd_eq bad ax ay az bx b_y bz Q).trans ((vadd_v bad ax ay az bx b_y bz _).trans hE)⟩
noncomputable def look_vadd {α:Type}:LookF α := addFn 61 (fEnt vadd_sp vadd_h) look_dot
theorem look_vadd_ok {α:Type}:LookOk E.P (look_vadd (α := α)) := addFn_ok vadd_h_ok (look_dot_ok)
noncomputable def M.vsub {α:Type} (bad:Bool) (ax:Int) (ay:Int) (az:Int) (bx:Int) (b_y:Int) (bz:Int) (k0:Int → Int → Int → Bool → Option α):Option α := if V.gn (V.mSub az bz) (V.gn (V.mSub ay b_y) (V.gn (V.mSub ax bx) false)) = true then k0 (0:Int) (0:Int) (0:Int) true else k0 (V.gv (V.mSub ax bx)) (V.gv (V.mSub ay b_y)) (V.gv (V.mSub az bz)) bad
theorem vsub_eq {α:Type} (bad:Bool) (ax:Int) (ay:Int) (az:Int) (bx:Int) (b_y:Int) (bz:Int) (Q:SV → Hp → Option α):callI E look_vadd (exec E look_vadd noLps 400) 29 ([SV.ptr (nat_lit 0) (nat_lit 0),SV.agg [SV.int .i64 ax,SV.int .i64 ay,SV.int .i64 az],SV.agg [SV.int .i64 bx,SV.int .i64 b_y,SV.int .i64 bz]]) ([.cells [SV.bool bad] (nat_lit 27)]) Q = M.vsub bad ax ay az bx b_y bz (fun (x4 x5 x6:Int) (x7:Bool) => Q (SV.agg [SV.int .i64 x4,SV.int .i64 x5,SV.int .i64 x6]) ([.cells [SV.bool x7] (nat_lit 27)])) := by kernel_rfl
def vsub_sp:List AS := [.ptr 27 [.bool false],.val (.agg [.int .i64 0,.int .i64 0,.int .i64 0]),.val (.agg [.int .i64 0,.int .i64 0,.int .i64 0])]
theorem vsub_v {α:Type} (bad:Bool) (ax:Int) (ay:Int) (az:Int) (bx:Int) (b_y:Int) (bz:Int) (k0:Int → Int → Int → Bool → Option α):M.vsub bad ax ay az bx b_y bz k0 = k0 (V.x3 (V.tSub (ax,ay,az) (bx,b_y,bz))) (V.y3 (V.tSub (ax,ay,az) (bx,b_y,bz))) (V.z3 (V.tSub (ax,ay,az) (bx,b_y,bz))) (V.on (V.tSub (ax,ay,az) (bx,b_y,bz)) bad) := by
 unfold M.vsub V.tSub V.t3
 generalize h0:V.mSub ax bx = o0
 generalize h1:V.mSub ay b_y = o1
 generalize h2:V.mSub az bz = o2
 cases o0 <;> cases o1 <;> cases o2 <;> rfl
noncomputable def vsub_h {α:Type} (ds:List D) (Q:SV → Hp → Option α):Option α :=
 dB ds fun bad ds => dI ds fun ax ds => dI ds fun ay ds => dI ds fun az ds => dI ds fun bx ds => dI ds fun b_y ds => dI ds fun bz ds => dE ds (Q (.agg [.int .i64 (V.x3 (V.tSub (ax,ay,az) (bx,b_y,bz))),.int .i64 (V.y3 (V.tSub (ax,ay,az) (bx,b_y,bz))),.int .i64 (V.z3 (V.tSub (ax,ay,az) (bx,b_y,bz)))]) ([.cells [.bool (V.on (V.tSub (ax,ay,az) (bx,b_y,bz)) bad)] 27]))
theorem vsub_h_ok {α:Type}:FnOk E.P 29 (fEnt (α := α) vsub_sp vsub_h) :=
 fEnt_ok E (look_vadd_ok) (exec_sound E E_ok (look_vadd_ok) (noLps_ok _) 400) fun ds Q r h => by
   unfold vsub_h at h
   obtain ⟨bad,ds,rfl,h1⟩ := dB_inv h
   obtain ⟨ax,ds,rfl,h2⟩ := dI_inv h1
   obtain ⟨ay,ds,rfl,h3⟩ := dI_inv h2
   obtain ⟨az,ds,rfl,h4⟩ := dI_inv h3
   obtain ⟨bx,ds,rfl,h5⟩ := dI_inv h4
   obtain ⟨b_y,ds,rfl,h6⟩ := dI_inv h5
   obtain ⟨bz,ds,rfl,h7⟩ := dI_inv h6
   obtain ⟨rfl,hE⟩ := dE_inv h7
   exact ⟨[SV.ptr (nat_lit 0) (nat_lit 0),SV.agg [SV.int .i64 ax,SV.int .i64 ay,SV.int .i64 az],SV.agg [SV.int .i64 bx,SV.int .i64 b_y,SV.int .i64 bz]],[.cells [SV.bool bad] (nat_lit 27)],fun vs => by kernel_rfl,(vsub_eq bad ax ay az bx b_y bz Q).trans ((vsub_v bad ax ay az bx b_y bz _).trans hE)⟩
noncomputable def look_vsub {α:Type}:LookF α := addFn 29 (fEnt vsub_sp vsub_h) look_vadd
theorem look_vsub_ok {α:Type}:LookOk E.P (look_vsub (α := α)) := addFn_ok vsub_h_ok (look_vadd_ok)
noncomputable def M.vscale {α:Type} (bad:Bool) (ax:Int) (ay:Int) (az:Int) (n:Int) (k0:Int → Int → Int → Bool → Option α):Option α := if V.gn (V.mMul az n) (V.gn (V.mMul ay n) (V.gn (V.mMul ax n) false)) = true then k0 (0:Int) (0:Int) (0:Int) true else k0 (V.gv (V.mMul ax n)) (V.gv (V.mMul ay n)) (V.gv (V.mMul az n)) bad
theorem vscale_eq {α:Type} (bad:Bool) (ax:Int) (ay:Int) (az:Int) (n:Int) (Q:SV → Hp → Option α):callI E look_vsub (exec E look_vsub noLps 400) 45 ([SV.ptr (nat_lit 0) (nat_lit 0),SV.agg [SV.int .i64 ax,SV.int .i64 ay,SV.int .i64 az],SV.int .i64 n]) ([.cells [SV.bool bad] (nat_lit 27)]) Q = M.vscale bad ax ay az n (fun (x8 x9 x10:Int) (x11:Bool) => Q (SV.agg [SV.int .i64 x8,SV.int .i64 x9,SV.int .i64 x10]) ([.cells [SV.bool x11] (nat_lit 27)])) := by kernel_rfl
def vscale_sp:List AS := [.ptr 27 [.bool false],.val (.agg [.int .i64 0,.int .i64 0,.int .i64 0]),.val (.int .i64 0)]
theorem vscale_v {α:Type} (bad:Bool) (ax:Int) (ay:Int) (az:Int) (n:Int) (k0:Int → Int → Int → Bool → Option α):M.vscale bad ax ay az n k0 = k0 (V.x3 (V.tScale (ax,ay,az) n)) (V.y3 (V.tScale (ax,ay,az) n)) (V.z3 (V.tScale (ax,ay,az) n)) (V.on (V.tScale (ax,ay,az) n) bad) := by
 unfold M.vscale V.tScale V.t3
 generalize h0:V.mMul ax n = o0
 generalize h1:V.mMul ay n = o1
 generalize h2:V.mMul az n = o2
 cases o0 <;> cases o1 <;> cases o2 <;> rfl
noncomputable def vscale_h {α:Type} (ds:List D) (Q:SV → Hp → Option α):Option α :=
 dB ds fun bad ds => dI ds fun ax ds => dI ds fun ay ds => dI ds fun az ds => dI ds fun n ds => dE ds (Q (.agg [.int .i64 (V.x3 (V.tScale (ax,ay,az) n)),.int .i64 (V.y3 (V.tScale (ax,ay,az) n)),.int .i64 (V.z3 (V.tScale (ax,ay,az) n))]) ([.cells [.bool (V.on (V.tScale (ax,ay,az) n) bad)] 27]))
theorem vscale_h_ok {α:Type}:FnOk E.P 45 (fEnt (α := α) vscale_sp vscale_h) :=
 fEnt_ok E (look_vsub_ok) (exec_sound E E_ok (look_vsub_ok) (noLps_ok _) 400) fun ds Q r h => by
   unfold vscale_h at h
   obtain ⟨bad,ds,rfl,h1⟩ := dB_inv h
   obtain ⟨ax,ds,rfl,h2⟩ := dI_inv h1
   obtain ⟨ay,ds,rfl,h3⟩ := dI_inv h2
   obtain ⟨az,ds,rfl,h4⟩ := dI_inv h3
   obtain ⟨n,ds,rfl,h5⟩ := dI_inv h4
   obtain ⟨rfl,hE⟩ := dE_inv h5
   exact ⟨[SV.ptr (nat_lit 0) (nat_lit 0),SV.agg [SV.int .i64 ax,SV.int .i64 ay,SV.int .i64 az],SV.int .i64 n],[.cells [SV.bool bad] (nat_lit 27)],fun vs => by kernel_rfl,(vscale_eq bad ax ay az n Q).trans ((vscale_v bad ax ay az n _).trans hE)⟩
noncomputable def look_vscale {α:Type}:LookF α := addFn 45 (fEnt vscale_sp vscale_h) look_vsub
theorem look_vscale_ok {α:Type}:LookOk E.P (look_vscale (α := α)) := addFn_ok vscale_h_ok (look_vsub_ok)
noncomputable def M.vdot {α:Type} (bad:Bool) (ax:Int) (ay:Int) (az:Int) (bx:Int) (b_y:Int) (bz:Int) (k0:Int → Bool → Option α):Option α := if V.gn (V.mDot [ax,ay,az] [bx,b_y,bz]) false = true then k0 (0:Int) true else k0 (V.gv (V.mDot [ax,ay,az] [bx,b_y,bz])) bad
theorem vdot_eq {α:Type} (bad:Bool) (ax:Int) (ay:Int) (az:Int) (bx:Int) (b_y:Int) (bz:Int) (Q:SV → Hp → Option α):callI E look_vscale (exec E look_vscale noLps 400) 28 ([SV.ptr (nat_lit 0) (nat_lit 0),SV.agg [SV.int .i64 ax,SV.int .i64 ay,SV.int .i64 az],SV.agg [SV.int .i64 bx,SV.int .i64 b_y,SV.int .i64 bz]]) ([.cells [SV.bool bad] (nat_lit 27)]) Q = M.vdot bad ax ay az bx b_y bz (fun (x12:Int) (x13:Bool) => Q (SV.int .i64 x12) ([.cells [SV.bool x13] (nat_lit 27)])) := by kernel_rfl
def vdot_sp:List AS := [.ptr 27 [.bool false],.val (.agg [.int .i64 0,.int .i64 0,.int .i64 0]),.val (.agg [.int .i64 0,.int .i64 0,.int .i64 0])]
theorem vdot_v {α:Type} (bad:Bool) (ax:Int) (ay:Int) (az:Int) (bx:Int) (b_y:Int) (bz:Int) (k0:Int → Bool → Option α):M.vdot bad ax ay az bx b_y bz k0 = k0 (V.gv (V.tDot (ax,ay,az) (bx,b_y,bz))) (V.gn (V.tDot (ax,ay,az) (bx,b_y,bz)) bad) := by
 unfold M.vdot V.tDot
 generalize h0:V.mDot [ax,ay,az] [bx,b_y,bz] = o0
 cases o0 <;> rfl
noncomputable def vdot_h {α:Type} (ds:List D) (Q:SV → Hp → Option α):Option α :=
 dB ds fun bad ds => dI ds fun ax ds => dI ds fun ay ds => dI ds fun az ds => dI ds fun bx ds => dI ds fun b_y ds => dI ds fun bz ds => dE ds (Q (.int .i64 (V.gv (V.tDot (ax,ay,az) (bx,b_y,bz)))) ([.cells [.bool (V.gn (V.tDot (ax,ay,az) (bx,b_y,bz)) bad)] 27]))
theorem vdot_h_ok {α:Type}:FnOk E.P 28 (fEnt (α := α) vdot_sp vdot_h) :=
 fEnt_ok E (look_vscale_ok) (exec_sound E E_ok (look_vscale_ok) (noLps_ok _) 400) fun ds Q r h => by
   unfold vdot_h at h
   obtain ⟨bad,ds,rfl,h1⟩ := dB_inv h
   obtain ⟨ax,ds,rfl,h2⟩ := dI_inv h1
   obtain ⟨ay,ds,rfl,h3⟩ := dI_inv h2
   obtain ⟨az,ds,rfl,h4⟩ := dI_inv h3
   obtain ⟨bx,ds,rfl,h5⟩ := dI_inv h4
   obtain ⟨b_y,ds,rfl,h6⟩ := dI_inv h5
   obtain ⟨bz,ds,rfl,h7⟩ := dI_inv h6
   obtain ⟨rfl,hE⟩ := dE_inv h7
   exact ⟨[SV.ptr (nat_lit 0) (nat_lit 0),SV.agg [SV.int .i64 ax,SV.int .i64 ay,SV.int .i64 az],SV.agg [SV.int .i64 bx,SV.int .i64 b_y,SV.int .i64 bz]],[.cells [SV.bool bad] (nat_lit 27)],fun vs => by kernel_rfl,(vdot_eq bad ax ay az bx b_y bz Q).trans ((vdot_v bad ax ay az bx b_y bz _).trans hE)⟩
noncomputable def look_vdot {α:Type}:LookF α := addFn 28 (fEnt vdot_sp vdot_h) look_vscale
theorem look_vdot_ok {α:Type}:LookOk E.P (look_vdot (α := α)) := addFn_ok vdot_h_ok (look_vscale_ok)
noncomputable def M.vcross {α:Type} (bad:Bool) (ax:Int) (ay:Int) (az:Int) (bx:Int) (b_y:Int) (bz:Int) (k0:Int → Int → Int → Bool → Option α):Option α := if V.gn (V.mDot [ax,ay] [b_y,V.gv (V.mSub (0:Int) bx)]) (V.gn (V.mDot [az,ax] [bx,V.gv (V.mSub (0:Int) bz)]) (V.gn (V.mDot [ay,az] [bz,V.gv (V.mSub (0:Int) b_y)]) (V.gn (V.mSub (0:Int) bz) (V.gn (V.mSub (0:Int) b_y) (V.gn (V.mSub (0:Int) bx) false))))) = true then k0 (0:Int) (0:Int) (0:Int) true else k0 (V.gv (V.mDot [ay,az] [bz,V.gv (V.mSub (0:Int) b_y)])) (V.gv (V.mDot [az,ax] [bx,V.gv (V.mSub (0:Int) bz)])) (V.gv (V.mDot [ax,ay] [b_y,V.gv (V.mSub (0:Int) bx)])) bad
theorem vcross_eq {α:Type} (bad:Bool) (ax:Int) (ay:Int) (az:Int) (bx:Int) (b_y:Int) (bz:Int) (Q:SV → Hp → Option α):callI E look_vdot (exec E look_vdot noLps 400) 62 ([SV.ptr (nat_lit 0) (nat_lit 0),SV.agg [SV.int .i64 ax,SV.int .i64 ay,SV.int .i64 az],SV.agg [SV.int .i64 bx,SV.int .i64 b_y,SV.int .i64 bz]]) ([.cells [SV.bool bad] (nat_lit 27)]) Q = M.vcross bad ax ay az bx b_y bz (fun (x14 x15 x16:Int) (x17:Bool) => Q (SV.agg [SV.int .i64 x14,SV.int .i64 x15,SV.int .i64 x16]) ([.cells [SV.bool x17] (nat_lit 27)])) := by kernel_rfl
def vcross_sp:List AS := [.ptr 27 [.bool false],.val (.agg [.int .i64 0,.int .i64 0,.int .i64 0]),.val (.agg [.int .i64 0,.int .i64 0,.int .i64 0])]
theorem vcross_v {α:Type} (bad:Bool) (ax:Int) (ay:Int) (az:Int) (bx:Int) (b_y:Int) (bz:Int) (k0:Int → Int → Int → Bool → Option α):M.vcross bad ax ay az bx b_y bz k0 = k0 (V.x3 (V.tCross (ax,ay,az) (bx,b_y,bz))) (V.y3 (V.tCross (ax,ay,az) (bx,b_y,bz))) (V.z3 (V.tCross (ax,ay,az) (bx,b_y,bz))) (V.on (V.tCross (ax,ay,az) (bx,b_y,bz)) bad) := by
 unfold M.vcross V.tCross V.t3
 generalize V.mDot [ax,ay] [b_y,V.gv (V.mSub 0 bx)] = o3
 generalize V.mDot [az,ax] [bx,V.gv (V.mSub 0 bz)] = o4
 generalize V.mDot [ay,az] [bz,V.gv (V.mSub 0 b_y)] = o5
 generalize V.mSub 0 bx = o0
 generalize V.mSub 0 b_y = o1
 generalize V.mSub 0 bz = o2
 cases o0 <;> cases o1 <;> cases o2 <;> cases o3 <;> cases o4 <;> cases o5 <;> rfl
noncomputable def vcross_h {α:Type} (ds:List D) (Q:SV → Hp → Option α):Option α :=
 dB ds fun bad ds => dI ds fun ax ds => dI ds fun ay ds => dI ds fun az ds => dI ds fun bx ds => dI ds fun b_y ds => dI ds fun bz ds => dE ds (Q (.agg [.int .i64 (V.x3 (V.tCross (ax,ay,az) (bx,b_y,bz))),.int .i64 (V.y3 (V.tCross (ax,ay,az) (bx,b_y,bz))),.int .i64 (V.z3 (V.tCross (ax,ay,az) (bx,b_y,bz)))]) ([.cells [.bool (V.on (V.tCross (ax,ay,az) (bx,b_y,bz)) bad)] 27]))
theorem vcross_h_ok {α:Type}:FnOk E.P 62 (fEnt (α := α) vcross_sp vcross_h) :=
 fEnt_ok E (look_vdot_ok) (exec_sound E E_ok (look_vdot_ok) (noLps_ok _) 400) fun ds Q r h => by
   unfold vcross_h at h
   obtain ⟨bad,ds,rfl,h1⟩ := dB_inv h
   obtain ⟨ax,ds,rfl,h2⟩ := dI_inv h1
   obtain ⟨ay,ds,rfl,h3⟩ := dI_inv h2
   obtain ⟨az,ds,rfl,h4⟩ := dI_inv h3
   obtain ⟨bx,ds,rfl,h5⟩ := dI_inv h4
   obtain ⟨b_y,ds,rfl,h6⟩ := dI_inv h5
   obtain ⟨bz,ds,rfl,h7⟩ := dI_inv h6
   obtain ⟨rfl,hE⟩ := dE_inv h7
   exact ⟨[SV.ptr (nat_lit 0) (nat_lit 0),SV.agg [SV.int .i64 ax,SV.int .i64 ay,SV.int .i64 az],SV.agg [SV.int .i64 bx,SV.int .i64 b_y,SV.int .i64 bz]],[.cells [SV.bool bad] (nat_lit 27)],fun vs => by kernel_rfl,(vcross_eq bad ax ay az bx b_y bz Q).trans ((vcross_v bad ax ay az bx b_y bz _).trans hE)⟩
noncomputable def look_vcross {α:Type}:LookF α := addFn 62 (fEnt vcross_sp vcross_h) look_vdot
theorem look_vcross_ok {α:Type}:LookOk E.P (look_vcross (α := α)) := addFn_ok vcross_h_ok (look_vdot_ok)
noncomputable def M.vturn {α:Type} (bad:Bool) (m0:Int) (m1:Int) (m2:Int) (m3:Int) (m4:Int) (m5:Int) (m6:Int) (m7:Int) (m8:Int) (ax:Int) (ay:Int) (az:Int) (k0:Int → Int → Int → Bool → Option α):Option α := if V.gn (V.mDot [m6,m7,m8] [ax,ay,az]) (V.gn (V.mDot [m3,m4,m5] [ax,ay,az]) (V.gn (V.mDot [m0,m1,m2] [ax,ay,az]) false)) = true then k0 (0:Int) (0:Int) (0:Int) true else k0 (V.gv (V.mDot [m0,m1,m2] [ax,ay,az])) (V.gv (V.mDot [m3,m4,m5] [ax,ay,az])) (V.gv (V.mDot [m6,m7,m8] [ax,ay,az])) bad
theorem vturn_eq {α:Type} (bad:Bool) (m0:Int) (m1:Int) (m2:Int) (m3:Int) (m4:Int) (m5:Int) (m6:Int) (m7:Int) (m8:Int) (ax:Int) (ay:Int) (az:Int) (Q:SV → Hp → Option α):callI E look_vcross (exec E look_vcross noLps 400) 109 ([SV.ptr (nat_lit 0) (nat_lit 0),SV.agg [SV.int .i64 m0,SV.int .i64 m1,SV.int .i64 m2,SV.int .i64 m3,SV.int .i64 m4,SV.int .i64 m5,SV.int .i64 m6,SV.int .i64 m7,SV.int .i64 m8],SV.agg [SV.int .i64 ax,SV.int .i64 ay,SV.int .i64 az]]) ([.cells [SV.bool bad] (nat_lit 27)]) Q = M.vturn bad m0 m1 m2 m3 m4 m5 m6 m7 m8 ax ay az (fun (x18 x19 x20:Int) (x21:Bool) => Q (SV.agg [SV.int .i64 x18,SV.int .i64 x19,SV.int .i64 x20]) ([.cells [SV.bool x21] (nat_lit 27)])) := by kernel_rfl
def vturn_sp:List AS := [.ptr 27 [.bool false],.val (.agg [.int .i64 0,.int .i64 0,.int .i64 0,.int .i64 0,.int .i64 0,.int .i64 0,.int .i64 0,.int .i64 0,.int .i64 0]),.val (.agg [.int .i64 0,.int .i64 0,.int .i64 0])]
theorem vturn_v {α:Type} (bad:Bool) (m0:Int) (m1:Int) (m2:Int) (m3:Int) (m4:Int) (m5:Int) (m6:Int) (m7:Int) (m8:Int) (ax:Int) (ay:Int) (az:Int) (k0:Int → Int → Int → Bool → Option α):M.vturn bad m0 m1 m2 m3 m4 m5 m6 m7 m8 ax ay az k0 = k0 (V.x3 (V.tTurn ((m0,m1,m2),(m3,m4,m5),(m6,m7,m8)) (ax,ay,az))) (V.y3 (V.tTurn ((m0,m1,m2),(m3,m4,m5),(m6,m7,m8)) (ax,ay,az))) (V.z3 (V.tTurn ((m0,m1,m2),(m3,m4,m5),(m6,m7,m8)) (ax,ay,az))) (V.on (V.tTurn ((m0,m1,m2),(m3,m4,m5),(m6,m7,m8)) (ax,ay,az)) bad) := by
 unfold M.vturn V.tTurn V.t3 V.tDot
 generalize h0:V.mDot [m0,m1,m2] [ax,ay,az] = o0
 generalize h1:V.mDot [m3,m4,m5] [ax,ay,az] = o1
 generalize h2:V.mDot [m6,m7,m8] [ax,ay,az] = o2
 cases o0 <;> cases o1 <;> cases o2 <;> rfl
noncomputable def vturn_h {α:Type} (ds:List D) (Q:SV → Hp → Option α):Option α :=
 dB ds fun bad ds => dI ds fun m0 ds => dI ds fun m1 ds => dI ds fun m2 ds => dI ds fun m3 ds => dI ds fun m4 ds => dI ds fun m5 ds => dI ds fun m6 ds => dI ds fun m7 ds => dI ds fun m8 ds => dI ds fun ax ds => dI ds fun ay ds => dI ds fun az ds => dE ds (Q (.agg [.int .i64 (V.x3 (V.tTurn ((m0,m1,m2),(m3,m4,m5),(m6,m7,m8)) (ax,ay,az))),.int .i64 (V.y3 (V.tTurn ((m0,m1,m2),(m3,m4,m5),(m6,m7,m8)) (ax,ay,az))),.int .i64 (V.z3 (V.tTurn ((m0,m1,m2),(m3,m4,m5),(m6,m7,m8)) (ax,ay,az)))]) ([.cells [.bool (V.on (V.tTurn ((m0,m1,m2),(m3,m4,m5),(m6,m7,m8)) (ax,ay,az)) bad)] 27]))
theorem vturn_h_ok {α:Type}:FnOk E.P 109 (fEnt (α := α) vturn_sp vturn_h) :=
 fEnt_ok E (look_vcross_ok) (exec_sound E E_ok (look_vcross_ok) (noLps_ok _) 400) fun ds Q r h => by
   unfold vturn_h at h
   obtain ⟨bad,ds,rfl,h1⟩ := dB_inv h
   obtain ⟨m0,ds,rfl,h2⟩ := dI_inv h1
   obtain ⟨m1,ds,rfl,h3⟩ := dI_inv h2
   obtain ⟨m2,ds,rfl,h4⟩ := dI_inv h3
   obtain ⟨m3,ds,rfl,h5⟩ := dI_inv h4
   obtain ⟨m4,ds,rfl,h6⟩ := dI_inv h5
   obtain ⟨m5,ds,rfl,h7⟩ := dI_inv h6
   obtain ⟨m6,ds,rfl,h8⟩ := dI_inv h7
   obtain ⟨m7,ds,rfl,h9⟩ := dI_inv h8
   obtain ⟨m8,ds,rfl,h10⟩ := dI_inv h9
   obtain ⟨ax,ds,rfl,h11⟩ := dI_inv h10
   obtain ⟨ay,ds,rfl,h12⟩ := dI_inv h11
   obtain ⟨az,ds,rfl,h13⟩ := dI_inv h12
   obtain ⟨rfl,hE⟩ := dE_inv h13
   exact ⟨[SV.ptr (nat_lit 0) (nat_lit 0),SV.agg [SV.int .i64 m0,SV.int .i64 m1,SV.int .i64 m2,SV.int .i64 m3,SV.int .i64 m4,SV.int .i64 m5,SV.int .i64 m6,SV.int .i64 m7,SV.int .i64 m8],SV.agg [SV.int .i64 ax,SV.int .i64 ay,SV.int .i64 az]],[.cells [SV.bool bad] (nat_lit 27)],fun vs => by kernel_rfl,(vturn_eq bad m0 m1 m2 m3 m4 m5 m6 m7 m8 ax ay az Q).trans ((vturn_v bad m0 m1 m2 m3 m4 m5 m6 m7 m8 ax ay az _).trans hE)⟩
noncomputable def look_vturn {α:Type}:LookF α := addFn 109 (fEnt vturn_sp vturn_h) look_vcross
theorem look_vturn_ok {α:Type}:LookOk E.P (look_vturn (α := α)) := addFn_ok vturn_h_ok (look_vcross_ok)
noncomputable def M.vback {α:Type} (bad:Bool) (m0:Int) (m1:Int) (m2:Int) (m3:Int) (m4:Int) (m5:Int) (m6:Int) (m7:Int) (m8:Int) (ax:Int) (ay:Int) (az:Int) (k0:Int → Int → Int → Bool → Option α):Option α := k0 (V.x3 (V.tTurn ((m0,m3,m6),(m1,m4,m7),m2,m5,m8) (ax,ay,az))) (V.y3 (V.tTurn ((m0,m3,m6),(m1,m4,m7),m2,m5,m8) (ax,ay,az))) (V.z3 (V.tTurn ((m0,m3,m6),(m1,m4,m7),m2,m5,m8) (ax,ay,az))) (V.on (V.tTurn ((m0,m3,m6),(m1,m4,m7),m2,m5,m8) (ax,ay,az)) bad)
theorem vback_eq {α:Type} (bad:Bool) (m0:Int) (m1:Int) (m2:Int) (m3:Int) (m4:Int) (m5:Int) (m6:Int) (m7:Int) (m8:Int) (ax:Int) (ay:Int) (az:Int) (Q:SV → Hp → Option α):callI E look_vturn (exec E look_vturn noLps 400) 110 ([SV.ptr (nat_lit 0) (nat_lit 0),SV.agg [SV.int .i64 m0,SV.int .i64 m1,SV.int .i64 m2,SV.int .i64 m3,SV.int .i64 m4,SV.int .i64 m5,SV.int .i64 m6,SV.int .i64 m7,SV.int .i64 m8],SV.agg [SV.int .i64 ax,SV.int .i64 ay,SV.int .i64 az]]) ([.cells [SV.bool bad] (nat_lit 27)]) Q = M.vback bad m0 m1 m2 m3 m4 m5 m6 m7 m8 ax ay az (fun (x22 x23 x24:Int) (x25:Bool) => Q (SV.agg [SV.int .i64 x22,SV.int .i64 x23,SV.int .i64 x24]) ([.cells [SV.bool x25] (nat_lit 27)])) := by kernel_rfl
def vback_sp:List AS := [.ptr 27 [.bool false],.val (.agg [.int .i64 0,.int .i64 0,.int .i64 0,.int .i64 0,.int .i64 0,.int .i64 0,.int .i64 0,.int .i64 0,.int .i64 0]),.val (.agg [.int .i64 0,.int .i64 0,.int .i64 0])]
theorem vback_v {α:Type} (bad:Bool) (m0:Int) (m1:Int) (m2:Int) (m3:Int) (m4:Int) (m5:Int) (m6:Int) (m7:Int) (m8:Int) (ax:Int) (ay:Int) (az:Int) (k0:Int → Int → Int → Bool → Option α):M.vback bad m0 m1 m2 m3 m4 m5 m6 m7 m8 ax ay az k0 = k0 (V.x3 (V.tBack ((m0,m1,m2),(m3,m4,m5),(m6,m7,m8)) (ax,ay,az))) (V.y3 (V.tBack ((m0,m1,m2),(m3,m4,m5),(m6,m7,m8)) (ax,ay,az))) (V.z3 (V.tBack ((m0,m1,m2),(m3,m4,m5),(m6,m7,m8)) (ax,ay,az))) (V.on (V.tBack ((m0,m1,m2),(m3,m4,m5),(m6,m7,m8)) (ax,ay,az)) bad) := by
 rfl
noncomputable def vback_h {α:Type} (ds:List D) (Q:SV → Hp → Option α):Option α :=
 dB ds fun bad ds => dI ds fun m0 ds => dI ds fun m1 ds => dI ds fun m2 ds => dI ds fun m3 ds => dI ds fun m4 ds => dI ds fun m5 ds => dI ds fun m6 ds => dI ds fun m7 ds => dI ds fun m8 ds => dI ds fun ax ds => dI ds fun ay ds => dI ds fun az ds => dE ds (Q (.agg [.int .i64 (V.x3 (V.tBack ((m0,m1,m2),(m3,m4,m5),(m6,m7,m8)) (ax,ay,az))),.int .i64 (V.y3 (V.tBack ((m0,m1,m2),(m3,m4,m5),(m6,m7,m8)) (ax,ay,az))),.int .i64 (V.z3 (V.tBack ((m0,m1,m2),(m3,m4,m5),(m6,m7,m8)) (ax,ay,az)))]) ([.cells [.bool (V.on (V.tBack ((m0,m1,m2),(m3,m4,m5),(m6,m7,m8)) (ax,ay,az)) bad)] 27]))
theorem vback_h_ok {α:Type}:FnOk E.P 110 (fEnt (α := α) vback_sp vback_h) :=
 fEnt_ok E (look_vturn_ok) (exec_sound E E_ok (look_vturn_ok) (noLps_ok _) 400) fun ds Q r h => by
   unfold vback_h at h
   obtain ⟨bad,ds,rfl,h1⟩ := dB_inv h
   obtain ⟨m0,ds,rfl,h2⟩ := dI_inv h1
   obtain ⟨m1,ds,rfl,h3⟩ := dI_inv h2
   obtain ⟨m2,ds,rfl,h4⟩ := dI_inv h3
   obtain ⟨m3,ds,rfl,h5⟩ := dI_inv h4
   obtain ⟨m4,ds,rfl,h6⟩ := dI_inv h5
   obtain ⟨m5,ds,rfl,h7⟩ := dI_inv h6
   obtain ⟨m6,ds,rfl,h8⟩ := dI_inv h7
   obtain ⟨m7,ds,rfl,h9⟩ := dI_inv h8
   obtain ⟨m8,ds,rfl,h10⟩ := dI_inv h9
   obtain ⟨ax,ds,rfl,h11⟩ := dI_inv h10
   obtain ⟨ay,ds,rfl,h12⟩ := dI_inv h11
   obtain ⟨az,ds,rfl,h13⟩ := dI_inv h12
   obtain ⟨rfl,hE⟩ := dE_inv h13
   exact ⟨[SV.ptr (nat_lit 0) (nat_lit 0),SV.agg [SV.int .i64 m0,SV.int .i64 m1,SV.int .i64 m2,SV.int .i64 m3,SV.int .i64 m4,SV.int .i64 m5,SV.int .i64 m6,SV.int .i64 m7,SV.int .i64 m8],SV.agg [SV.int .i64 ax,SV.int .i64 ay,SV.int .i64 az]],[.cells [SV.bool bad] (nat_lit 27)],fun vs => by kernel_rfl,(vback_eq bad m0 m1 m2 m3 m4 m5 m6 m7 m8 ax ay az Q).trans ((vback_v bad m0 m1 m2 m3 m4 m5 m6 m7 m8 ax ay az _).trans hE)⟩
noncomputable def look_vback {α:Type}:LookF α := addFn 110 (fEnt vback_sp vback_h) look_vturn
theorem look_vback_ok {α:Type}:LookOk E.P (look_vback (α := α)) := addFn_ok vback_h_ok (look_vturn_ok)
end
section
open Go
set_option maxRecDepth 20000
noncomputable def M.vrows {α:Type} (bad:Bool) (qw:Int) (qx:Int) (qy:Int) (qz:Int) (k0:Int → Int → Int → Int → Int → Int → Int → Int → Int → Bool → Option α):Option α := if V.gn (V.mSub (4294967296:Int) (V.gv (V.mDot [V.gv (V.mAdd qx qx),V.gv (V.mAdd qy qy)] [qx,qy]))) (V.gn (V.mDot [V.gv (V.mAdd qx qx),V.gv (V.mAdd qy qy)] [qx,qy]) (V.gn (V.mDot [V.gv (V.mAdd qy qy),V.gv (V.mAdd qw qw)] [qz,qx]) (V.gn (V.mDot [V.gv (V.mAdd qx qx),V.gv (V.mAdd qw qw)] [qz,V.gv (V.mSub (0:Int) qy)]) (V.gn (V.mDot [V.gv (V.mAdd qy qy),V.gv (V.mAdd qw qw)] [qz,V.gv (V.mSub (0:Int) qx)]) (V.gn (V.mSub (4294967296:Int) (V.gv (V.mDot [V.gv (V.mAdd qx qx),V.gv (V.mAdd qz qz)] [qx,qz]))) (V.gn (V.mDot [V.gv (V.mAdd qx qx),V.gv (V.mAdd qz qz)] [qx,qz]) (V.gn (V.mDot [V.gv (V.mAdd qx qx),V.gv (V.mAdd qw qw)] [qy,qz]) (V.gn (V.mDot [V.gv (V.mAdd qx qx),V.gv (V.mAdd qw qw)] [qz,qy]) (V.gn (V.mDot [V.gv (V.mAdd qx qx),V.gv (V.mAdd qw qw)] [qy,V.gv (V.mSub (0:Int) qz)]) (V.gn (V.mSub (4294967296:Int) (V.gv (V.mDot [V.gv (V.mAdd qy qy),V.gv (V.mAdd qz qz)] [qy,qz]))) (V.gn (V.mDot [V.gv (V.mAdd qy qy),V.gv (V.mAdd qz qz)] [qy,qz]) (V.gn (V.mSub (0:Int) qz) (V.gn (V.mSub (0:Int) qy) (V.gn (V.mSub (0:Int) qx) (V.gn (V.mAdd qz qz) (V.gn (V.mAdd qy qy) (V.gn (V.mAdd qx qx) (V.gn (V.mAdd qw qw) false)))))))))))))))))) = true then k0 (0:Int) (0:Int) (0:Int) (0:Int) (0:Int) (0:Int) (0:Int) (0:Int) (0:Int) true else k0 (V.gv (V.mSub (4294967296:Int) (V.gv (V.mDot [V.gv (V.mAdd qy qy),V.gv (V.mAdd qz qz)] [qy,qz])))) (V.gv (V.mDot [V.gv (V.mAdd qx qx),V.gv (V.mAdd qw qw)] [qy,V.gv (V.mSub (0:Int) qz)])) (V.gv (V.mDot [V.gv (V.mAdd qx qx),V.gv (V.mAdd qw qw)] [qz,qy])) (V.gv (V.mDot [V.gv (V.mAdd qx qx),V.gv (V.mAdd qw qw)] [qy,qz])) (V.gv (V.mSub (4294967296:Int) (V.gv (V.mDot [V.gv (V.mAdd qx qx),V.gv (V.mAdd qz qz)] [qx,qz])))) (V.gv (V.mDot [V.gv (V.mAdd qy qy),V.gv (V.mAdd qw qw)] [qz,V.gv (V.mSub (0:Int) qx)])) (V.gv (V.mDot [V.gv (V.mAdd qx qx),V.gv (V.mAdd qw qw)] [qz,V.gv (V.mSub (0:Int) qy)])) (V.gv (V.mDot [V.gv (V.mAdd qy qy),V.gv (V.mAdd qw qw)] [qz,qx])) (V.gv (V.mSub (4294967296:Int) (V.gv (V.mDot [V.gv (V.mAdd qx qx),V.gv (V.mAdd qy qy)] [qx,qy])))) bad
theorem vrows_eq {α:Type} (bad:Bool) (qw:Int) (qx:Int) (qy:Int) (qz:Int) (Q:SV → Hp → Option α):callI E look_vback (exec E look_vback noLps 400) 108 ([SV.ptr (nat_lit 0) (nat_lit 0),SV.agg [SV.int .i64 qw,SV.int .i64 qx,SV.int .i64 qy,SV.int .i64 qz]]) ([.cells [SV.bool bad] (nat_lit 27)]) Q = M.vrows bad qw qx qy qz (fun (x0 x1 x2 x3 x4 x5 x6 x7 x8:Int) (x9:Bool) => Q (SV.agg [SV.int .i64 x0,SV.int .i64 x1,SV.int .i64 x2,SV.int .i64 x3,SV.int .i64 x4,SV.int .i64 x5,SV.int .i64 x6,SV.int .i64 x7,SV.int .i64 x8]) ([.cells [SV.bool x9] (nat_lit 27)])) := by kernel_rfl
def vrows_sp:List AS := [.ptr 27 [.bool false],.val (.agg [.int .i64 0,.int .i64 0,.int .i64 0,.int .i64 0])]
theorem vrows_v {α:Type} (bad:Bool) (qw:Int) (qx:Int) (qy:Int) (qz:Int) (k0:Int → Int → Int → Int → Int → Int → Int → Int → Int → Bool → Option α):M.vrows bad qw qx qy qz k0 = k0 (V.m0 (V.tRows (qw,qx,qy,qz))) (V.m1 (V.tRows (qw,qx,qy,qz))) (V.m2 (V.tRows (qw,qx,qy,qz))) (V.m3 (V.tRows (qw,qx,qy,qz))) (V.m4 (V.tRows (qw,qx,qy,qz))) (V.m5 (V.tRows (qw,qx,qy,qz))) (V.m6 (V.tRows (qw,qx,qy,qz))) (V.m7 (V.tRows (qw,qx,qy,qz))) (V.m8 (V.tRows (qw,qx,qy,qz))) (V.on (V.tRows (qw,qx,qy,qz)) bad) := by
 unfold M.vrows V.tRows
 refine (if_flag (g := V.no [V.mAdd qw qw,V.mAdd qx qx,V.mAdd qy qy,V.mAdd qz qz,V.mSub 0 qx,V.mSub 0 qy,V.mSub 0 qz,V.twoD (V.dbl qy) (V.dbl qz) qy qz,V.twoD (V.dbl qx) (V.dbl qz) qx qz,V.twoD (V.dbl qx) (V.dbl qy) qx qy] || V.no [V.mSub 4294967296 (V.gv (V.twoD (V.dbl qy) (V.dbl qz) qy qz)),V.twoD (V.dbl qx) (V.dbl qw) qy (V.neg qz),V.twoD (V.dbl qx) (V.dbl qw) qz qy,V.twoD (V.dbl qx) (V.dbl qw) qy qz,
   V.mSub 4294967296 (V.gv (V.twoD (V.dbl qx) (V.dbl qz) qx qz)),V.twoD (V.dbl qy) (V.dbl qw) qz (V.neg qx),V.twoD (V.dbl qx) (V.dbl qw) qz (V.neg qy),V.twoD (V.dbl qy) (V.dbl qw) qz qx,
   V.mSub 4294967296 (V.gv (V.twoD (V.dbl qx) (V.dbl qy) qx qy))]) ?_ _ _).trans ?_
 · simp only [V.gn, no_cons, no_nil, V.twoD, V.dbl, V.neg, Bool.or_false]
   ac_rfl
 · simp only []
   generalize V.no [V.mAdd qw qw,V.mAdd qx qx,V.mAdd qy qy,V.mAdd qz qz,V.mSub 0 qx,V.mSub 0 qy,V.mSub 0 qz,V.twoD (V.dbl qy) (V.dbl qz) qy qz,V.twoD (V.dbl qx) (V.dbl qz) qx qz,V.twoD (V.dbl qx) (V.dbl qy) qx qy] = f
   generalize V.no _ = g
   cases f <;> cases g <;> rfl
noncomputable def vrows_h {α:Type} (ds:List D) (Q:SV → Hp → Option α):Option α :=
 dB ds fun bad ds => dI ds fun qw ds => dI ds fun qx ds => dI ds fun qy ds => dI ds fun qz ds => dE ds (Q (.agg [.int .i64 (V.m0 (V.tRows (qw,qx,qy,qz))),.int .i64 (V.m1 (V.tRows (qw,qx,qy,qz))),.int .i64 (V.m2 (V.tRows (qw,qx,qy,qz))),.int .i64 (V.m3 (V.tRows (qw,qx,qy,qz))),.int .i64 (V.m4 (V.tRows (qw,qx,qy,qz))),.int .i64 (V.m5 (V.tRows (qw,qx,qy,qz))),.int .i64 (V.m6 (V.tRows (qw,qx,qy,qz))),.int .i64 (V.m7 (V.tRows (qw,qx,qy,qz))),.int .i64 (V.m8 (V.tRows (qw,qx,qy,qz)))]) ([.cells [.bool (V.on (V.tRows (qw,qx,qy,qz)) bad)] 27]))
theorem vrows_h_ok {α:Type}:FnOk E.P 108 (fEnt (α := α) vrows_sp vrows_h) :=
 fEnt_ok E (look_vback_ok) (exec_sound E E_ok (look_vback_ok) (noLps_ok _) 400) fun ds Q r h => by
   unfold vrows_h at h
   obtain ⟨bad,ds,rfl,h1⟩ := dB_inv h
   obtain ⟨qw,ds,rfl,h2⟩ := dI_inv h1
   obtain ⟨qx,ds,rfl,h3⟩ := dI_inv h2
   obtain ⟨qy,ds,rfl,h4⟩ := dI_inv h3
   obtain ⟨qz,ds,rfl,h5⟩ := dI_inv h4
   obtain ⟨rfl,hE⟩ := dE_inv h5
   exact ⟨[SV.ptr (nat_lit 0) (nat_lit 0),SV.agg [SV.int .i64 qw,SV.int .i64 qx,SV.int .i64 qy,SV.int .i64 qz]],[.cells [SV.bool bad] (nat_lit 27)],fun vs => by kernel_rfl,(vrows_eq bad qw qx qy qz Q).trans ((vrows_v bad qw qx qy qz _).trans hE)⟩
noncomputable def look_vrows {α:Type}:LookF α := addFn 108 (fEnt vrows_sp vrows_h) look_vback
theorem look_vrows_ok {α:Type}:LookOk E.P (look_vrows (α := α)) := addFn_ok vrows_h_ok (look_vback_ok)
end
section
open Go
set_option maxRecDepth 20000
noncomputable def M.bdspeed {α:Type} (bad:Bool) (bk:Int) (ax:Int) (ay:Int) (az:Int) (tw:Int) (tx:Int) (ty:Int) (tz:Int) (px:Int) (p_y:Int) (pz:Int) (lx:Int) (ly:Int) (lz:Int) (bm:Int) (ix:Int) (iy:Int) (iz:Int) (sk:Int) (sr:Int) (hx:Int) (hy:Int) (hz:Int) (pts:L3) (bg:Int) (mk:Int) (fr:Int) (fast:Bool) (qt:Int) (asl:Bool) (bout:Bool) (k0:Int → Int → Int → Bool → Option α):Option α := if cEq bk (2:Int) = true then k0 (V.gv (V.mDiv px bm)) (V.gv (V.mDiv p_y bm)) (V.gv (V.mDiv pz bm)) (V.gn (V.mDiv pz bm) (V.gn (V.mDiv p_y bm) (V.gn (V.mDiv px bm) bad))) else k0 (0:Int) (0:Int) (0:Int) bad
theorem bdspeed_eq {α:Type} (bad:Bool) (bk:Int) (ax:Int) (ay:Int) (az:Int) (tw:Int) (tx:Int) (ty:Int) (tz:Int) (px:Int) (p_y:Int) (pz:Int) (lx:Int) (ly:Int) (lz:Int) (bm:Int) (ix:Int) (iy:Int) (iz:Int) (sk:Int) (sr:Int) (hx:Int) (hy:Int) (hz:Int) (pts:L3) (bg:Int) (mk:Int) (fr:Int) (fast:Bool) (qt:Int) (asl:Bool) (bout:Bool) (v0:Value) (Q:SV → Hp → Option α):callI E look_vrows (exec E look_vrows noLps 400) 60 ([SV.ptr (nat_lit 0) (nat_lit 0),
 SV.agg
   [SV.int .i64 bk,SV.int .i64 ax,SV.int .i64 ay,SV.int .i64 az,SV.int .i64 tw,SV.int .i64 tx,SV.int .i64 ty,SV.int .i64 tz,SV.int .i64 px,SV.int .i64 p_y,SV.int .i64 pz,SV.int .i64 lx,SV.int .i64 ly,SV.int .i64 lz,SV.int .i64 bm,SV.int .i64 ix,SV.int .i64 iy,SV.int .i64 iz,SV.int .i64 sk,SV.int .i64 sr,SV.int .i64 hx,
     SV.int .i64 hy,SV.int .i64 hz,SV.ros v0 kP pts,SV.int .i64 bg,SV.int .i64 mk,SV.int .i64 fr,SV.bool fast,SV.int .i64 qt,SV.bool asl,SV.bool bout]]) ([.cells [SV.bool bad] (nat_lit 27)]) Q = M.bdspeed bad bk ax ay az tw tx ty tz px p_y pz lx ly lz bm ix iy iz sk sr hx hy hz pts bg mk fr fast qt asl bout (fun (x1 x2 x3:Int) (x4:Bool) => Q (SV.agg [SV.int .i64 x1,SV.int .i64 x2,SV.int .i64 x3]) ([.cells [SV.bool x4] (nat_lit 27)])) := by kernel_rfl
def bdspeed_sp:List AS := [.ptr 27 [.bool false],.st [.leaf (.int .i64 0),.leaf (.int .i64 0),.leaf (.int .i64 0),.leaf (.int .i64 0),.leaf (.int .i64 0),.leaf (.int .i64 0),.leaf (.int .i64 0),.leaf (.int .i64 0),.leaf (.int .i64 0),.leaf (.int .i64 0),.leaf (.int .i64 0),.leaf (.int .i64 0),.leaf (.int .i64 0),.leaf (.int .i64 0),.leaf (.int .i64 0),.leaf (.int .i64 0),.leaf (.int .i64 0),.leaf (.int .i64 0),.leaf (.int .i64 0),.leaf (.int .i64 0),.leaf (.int .i64 0),.leaf (.int .i64 0),.leaf (.int .i64 0),.ro kP,.leaf (.int .i64 0),.leaf (.int .i64 0),.leaf (.int .i64 0),.leaf (.bool false),.leaf (.int .i64 0),.leaf (.bool false),.leaf (.bool false)]]
noncomputable def _root_.Go.Proofs.YtfkgmidgdpfnkaaGreat.V.bSpd (bk px p_y pz bm:Int):Int × Int × Int := if cEq bk 2 = true then (V.gv (V.mDiv px bm),V.gv (V.mDiv p_y bm),V.gv (V.mDiv pz bm)) else (0,0,0)
noncomputable def _root_.Go.Proofs.YtfkgmidgdpfnkaaGreat.V.bSpdB (bk px p_y pz bm:Int) (bad:Bool):Bool := if cEq bk 2 = true then V.gn (V.mDiv pz bm) (V.gn (V.mDiv p_y bm) (V.gn (V.mDiv px bm) bad)) else bad
noncomputable def _root_.Go.Proofs.YtfkgmidgdpfnkaaGreat.V.bYld (bk tw tx ty tz ix iy iz vx vy vz:Int):Int × Int × Int := if cEq bk 2 = true then V.q3 (V.tTurn (V.q9 (V.tRows (tw,tx,ty,tz))) (V.gv (V.mDiv (V.x3 (V.tBack (V.q9 (V.tRows (tw,tx,ty,tz))) (vx,vy,vz))) ix),V.gv (V.mDiv (V.y3 (V.tBack (V.q9 (V.tRows (tw,tx,ty,tz))) (vx,vy,vz))) iy),V.gv (V.mDiv (V.z3 (V.tBack (V.q9 (V.tRows (tw,tx,ty,tz))) (vx,vy,vz))) iz))) else (0,0,0)
noncomputable def _root_.Go.Proofs.YtfkgmidgdpfnkaaGreat.V.bYldB (bk tw tx ty tz ix iy iz vx vy vz:Int) (bad:Bool):Bool := if cEq bk 2 = true then V.on (V.tTurn (V.q9 (V.tRows (tw,tx,ty,tz))) (V.gv (V.mDiv (V.x3 (V.tBack (V.q9 (V.tRows (tw,tx,ty,tz))) (vx,vy,vz))) ix),V.gv (V.mDiv (V.y3 (V.tBack (V.q9 (V.tRows (tw,tx,ty,tz))) (vx,vy,vz))) iy),V.gv (V.mDiv (V.z3 (V.tBack (V.q9 (V.tRows (tw,tx,ty,tz))) (vx,vy,vz))) iz))) (V.gn (V.mDiv (V.z3 (V.tBack (V.q9 (V.tRows (tw,tx,ty,tz))) (vx,vy,vz))) iz) (V.gn (V.mDiv (V.y3 (V.tBack (V.q9 (V.tRows (tw,tx,ty,tz))) (vx,vy,vz))) iy) (V.gn (V.mDiv (V.x3 (V.tBack (V.q9 (V.tRows (tw,tx,ty,tz))) (vx,vy,vz))) ix) (V.on (V.tBack (V.q9 (V.tRows (tw,tx,ty,tz))) (vx,vy,vz)) (V.on (V.tRows (tw,tx,ty,tz)) bad))))) else bad
theorem bdspeed_v {α:Type} (bad:Bool) (bk:Int) (ax:Int) (ay:Int) (az:Int) (tw:Int) (tx:Int) (ty:Int) (tz:Int) (px:Int) (p_y:Int) (pz:Int) (lx:Int) (ly:Int) (lz:Int) (bm:Int) (ix:Int) (iy:Int) (iz:Int) (sk:Int) (sr:Int) (hx:Int) (hy:Int) (hz:Int) (pts:List (Int × Int × Int)) (bg:Int) (mk:Int) (fr:Int) (fast:Bool) (qt:Int) (asl:Bool) (bout:Bool) (k0:Int → Int → Int → Bool → Option α):M.bdspeed bad bk ax ay az tw tx ty tz px p_y pz lx ly lz bm ix iy iz sk sr hx hy hz pts bg mk fr fast qt asl bout k0 = k0 (V.bSpd bk px p_y pz bm).1 (V.bSpd bk px p_y pz bm).2.1 (V.bSpd bk px p_y pz bm).2.2 (V.bSpdB bk px p_y pz bm bad) := by
 unfold M.bdspeed V.bSpd V.bSpdB
 cases cEq bk 2 <;> rfl
noncomputable def bdspeed_h {α:Type} (ds:List D) (Q:SV → Hp → Option α):Option α :=
 dB ds fun bad ds => dI ds fun bk ds => dI ds fun ax ds => dI ds fun ay ds => dI ds fun az ds => dI ds fun tw ds => dI ds fun tx ds => dI ds fun ty ds => dI ds fun tz ds => dI ds fun px ds => dI ds fun p_y ds => dI ds fun pz ds => dI ds fun lx ds => dI ds fun ly ds => dI ds fun lz ds => dI ds fun bm ds => dI ds fun ix ds => dI ds fun iy ds => dI ds fun iz ds => dI ds fun sk ds => dI ds fun sr ds => dI ds fun hx ds => dI ds fun hy ds => dI ds fun hz ds => dL kP ds fun pts ds => dI ds fun bg ds => dI ds fun mk ds => dI ds fun fr ds => dB ds fun fast ds => dI ds fun qt ds => dB ds fun asl ds => dB ds fun bout ds => dE ds (Q (.agg [.int .i64 (V.bSpd bk px p_y pz bm).1,.int .i64 (V.bSpd bk px p_y pz bm).2.1,.int .i64 (V.bSpd bk px p_y pz bm).2.2]) ([.cells [.bool (V.bSpdB bk px p_y pz bm bad)] 27]))
theorem bdspeed_h_ok {α:Type}:FnOk E.P 60 (fEnt (α := α) bdspeed_sp bdspeed_h) :=
 fEntR_ok E (look_vrows_ok) (exec_sound E E_ok (look_vrows_ok) (noLps_ok _) 400) fun ds Q r h => by
   unfold bdspeed_h at h
   obtain ⟨bad,ds,rfl,h1⟩ := dB_inv h
   obtain ⟨bk,ds,rfl,h2⟩ := dI_inv h1
   obtain ⟨ax,ds,rfl,h3⟩ := dI_inv h2
   obtain ⟨ay,ds,rfl,h4⟩ := dI_inv h3
   obtain ⟨az,ds,rfl,h5⟩ := dI_inv h4
   obtain ⟨tw,ds,rfl,h6⟩ := dI_inv h5
   obtain ⟨tx,ds,rfl,h7⟩ := dI_inv h6
   obtain ⟨ty,ds,rfl,h8⟩ := dI_inv h7
   obtain ⟨tz,ds,rfl,h9⟩ := dI_inv h8
   obtain ⟨px,ds,rfl,h10⟩ := dI_inv h9
   obtain ⟨p_y,ds,rfl,h11⟩ := dI_inv h10
   obtain ⟨pz,ds,rfl,h12⟩ := dI_inv h11
   obtain ⟨lx,ds,rfl,h13⟩ := dI_inv h12
   obtain ⟨ly,ds,rfl,h14⟩ := dI_inv h13
   obtain ⟨lz,ds,rfl,h15⟩ := dI_inv h14
   obtain ⟨bm,ds,rfl,h16⟩ := dI_inv h15
   obtain ⟨ix,ds,rfl,h17⟩ := dI_inv h16
   obtain ⟨iy,ds,rfl,h18⟩ := dI_inv h17
   obtain ⟨iz,ds,rfl,h19⟩ := dI_inv h18
   obtain ⟨sk,ds,rfl,h20⟩ := dI_inv h19
   obtain ⟨sr,ds,rfl,h21⟩ := dI_inv h20
   obtain ⟨hx,ds,rfl,h22⟩ := dI_inv h21
   obtain ⟨hy,ds,rfl,h23⟩ := dI_inv h22
   obtain ⟨hz,ds,rfl,h24⟩ := dI_inv h23
   obtain ⟨pts,ds,rfl,h25⟩ := dL_inv h24
   obtain ⟨bg,ds,rfl,h26⟩ := dI_inv h25
   obtain ⟨mk,ds,rfl,h27⟩ := dI_inv h26
   obtain ⟨fr,ds,rfl,h28⟩ := dI_inv h27
   obtain ⟨fast,ds,rfl,h29⟩ := dB_inv h28
   obtain ⟨qt,ds,rfl,h30⟩ := dI_inv h29
   obtain ⟨asl,ds,rfl,h31⟩ := dB_inv h30
   obtain ⟨bout,ds,rfl,h32⟩ := dB_inv h31
   obtain ⟨rfl,hE⟩ := dE_inv h32
   exact ⟨_,_,hE,fun vs => ⟨_,_,by kernel_rfl,(bdspeed_eq bad bk ax ay az tw tx ty tz px p_y pz lx ly lz bm ix iy iz sk sr hx hy hz pts bg mk fr fast qt asl bout ((cellsV (vs.tail.headD undef)).tail.tail.tail.tail.tail.tail.tail.tail.tail.tail.tail.tail.tail.tail.tail.tail.tail.tail.tail.tail.tail.tail.tail.headD undef) _).trans (bdspeed_v bad bk ax ay az tw tx ty tz px p_y pz lx ly lz bm ix iy iz sk sr hx hy hz pts bg mk fr fast qt asl bout _)⟩⟩
noncomputable def look_bdspeed {α:Type}:LookF α := addFn 60 (fEnt bdspeed_sp bdspeed_h) look_vrows
theorem look_bdspeed_ok {α:Type}:LookOk E.P (look_bdspeed (α := α)) := addFn_ok bdspeed_h_ok (look_vrows_ok)
noncomputable def M.bdyield {α:Type} (bad:Bool) (bk:Int) (ax:Int) (ay:Int) (az:Int) (tw:Int) (tx:Int) (ty:Int) (tz:Int) (px:Int) (p_y:Int) (pz:Int) (lx:Int) (ly:Int) (lz:Int) (bm:Int) (ix:Int) (iy:Int) (iz:Int) (sk:Int) (sr:Int) (hx:Int) (hy:Int) (hz:Int) (pts:L3) (bg:Int) (mk:Int) (fr:Int) (fast:Bool) (qt:Int) (asl:Bool) (bout:Bool) (vx:Int) (vy:Int) (vz:Int) (k0:Int → Int → Int → Bool → Option α):Option α := if cEq bk (2:Int) = true then k0 (V.x3 (V.tTurn (V.q9 (V.tRows (tw,tx,ty,tz))) (V.gv (V.mDiv (V.x3 (V.tBack (V.q9 (V.tRows (tw,tx,ty,tz))) (vx,vy,vz))) ix),V.gv (V.mDiv (V.y3 (V.tBack (V.q9 (V.tRows (tw,tx,ty,tz))) (vx,vy,vz))) iy),V.gv (V.mDiv (V.z3 (V.tBack (V.q9 (V.tRows (tw,tx,ty,tz))) (vx,vy,vz))) iz)))) (V.y3 (V.tTurn (V.q9 (V.tRows (tw,tx,ty,tz))) (V.gv (V.mDiv (V.x3 (V.tBack (V.q9 (V.tRows (tw,tx,ty,tz))) (vx,vy,vz))) ix),V.gv (V.mDiv (V.y3 (V.tBack (V.q9 (V.tRows (tw,tx,ty,tz))) (vx,vy,vz))) iy),V.gv (V.mDiv (V.z3 (V.tBack (V.q9 (V.tRows (tw,tx,ty,tz))) (vx,vy,vz))) iz)))) (V.z3 (V.tTurn (V.q9 (V.tRows (tw,tx,ty,tz))) (V.gv (V.mDiv (V.x3 (V.tBack (V.q9 (V.tRows (tw,tx,ty,tz))) (vx,vy,vz))) ix),V.gv (V.mDiv (V.y3 (V.tBack (V.q9 (V.tRows (tw,tx,ty,tz))) (vx,vy,vz))) iy),V.gv (V.mDiv (V.z3 (V.tBack (V.q9 (V.tRows (tw,tx,ty,tz))) (vx,vy,vz))) iz)))) (V.on (V.tTurn (V.q9 (V.tRows (tw,tx,ty,tz))) (V.gv (V.mDiv (V.x3 (V.tBack (V.q9 (V.tRows (tw,tx,ty,tz))) (vx,vy,vz))) ix),V.gv (V.mDiv (V.y3 (V.tBack (V.q9 (V.tRows (tw,tx,ty,tz))) (vx,vy,vz))) iy),V.gv (V.mDiv (V.z3 (V.tBack (V.q9 (V.tRows (tw,tx,ty,tz))) (vx,vy,vz))) iz))) (V.gn (V.mDiv (V.z3 (V.tBack (V.q9 (V.tRows (tw,tx,ty,tz))) (vx,vy,vz))) iz) (V.gn (V.mDiv (V.y3 (V.tBack (V.q9 (V.tRows (tw,tx,ty,tz))) (vx,vy,vz))) iy) (V.gn (V.mDiv (V.x3 (V.tBack (V.q9 (V.tRows (tw,tx,ty,tz))) (vx,vy,vz))) ix) (V.on (V.tBack (V.q9 (V.tRows (tw,tx,ty,tz))) (vx,vy,vz)) (V.on (V.tRows (tw,tx,ty,tz)) bad)))))) else k0 (0:Int) (0:Int) (0:Int) bad
theorem bdyield_eq {α:Type} (bad:Bool) (bk:Int) (ax:Int) (ay:Int) (az:Int) (tw:Int) (tx:Int) (ty:Int) (tz:Int) (px:Int) (p_y:Int) (pz:Int) (lx:Int) (ly:Int) (lz:Int) (bm:Int) (ix:Int) (iy:Int) (iz:Int) (sk:Int) (sr:Int) (hx:Int) (hy:Int) (hz:Int) (pts:L3) (bg:Int) (mk:Int) (fr:Int) (fast:Bool) (qt:Int) (asl:Bool) (bout:Bool) (vx:Int) (vy:Int) (vz:Int) (v5:Value) (Q:SV → Hp → Option α):callI E look_bdspeed (exec E look_bdspeed noLps 400) 78 ([SV.ptr (nat_lit 0) (nat_lit 0),
 SV.agg
   [SV.int .i64 bk,SV.int .i64 ax,SV.int .i64 ay,SV.int .i64 az,SV.int .i64 tw,SV.int .i64 tx,SV.int .i64 ty,SV.int .i64 tz,SV.int .i64 px,SV.int .i64 p_y,SV.int .i64 pz,SV.int .i64 lx,SV.int .i64 ly,SV.int .i64 lz,SV.int .i64 bm,SV.int .i64 ix,SV.int .i64 iy,SV.int .i64 iz,SV.int .i64 sk,SV.int .i64 sr,SV.int .i64 hx,
     SV.int .i64 hy,SV.int .i64 hz,SV.ros v5 kP pts,SV.int .i64 bg,SV.int .i64 mk,SV.int .i64 fr,SV.bool fast,SV.int .i64 qt,SV.bool asl,SV.bool bout],
 SV.agg [SV.int .i64 vx,SV.int .i64 vy,SV.int .i64 vz]]) ([.cells [SV.bool bad] (nat_lit 27)]) Q = M.bdyield bad bk ax ay az tw tx ty tz px p_y pz lx ly lz bm ix iy iz sk sr hx hy hz pts bg mk fr fast qt asl bout vx vy vz (fun (x6 x7 x8:Int) (x9:Bool) => Q (SV.agg [SV.int .i64 x6,SV.int .i64 x7,SV.int .i64 x8]) ([.cells [SV.bool x9] (nat_lit 27)])) := by kernel_rfl
def bdyield_sp:List AS := [.ptr 27 [.bool false],.st [.leaf (.int .i64 0),.leaf (.int .i64 0),.leaf (.int .i64 0),.leaf (.int .i64 0),.leaf (.int .i64 0),.leaf (.int .i64 0),.leaf (.int .i64 0),.leaf (.int .i64 0),.leaf (.int .i64 0),.leaf (.int .i64 0),.leaf (.int .i64 0),.leaf (.int .i64 0),.leaf (.int .i64 0),.leaf (.int .i64 0),.leaf (.int .i64 0),.leaf (.int .i64 0),.leaf (.int .i64 0),.leaf (.int .i64 0),.leaf (.int .i64 0),.leaf (.int .i64 0),.leaf (.int .i64 0),.leaf (.int .i64 0),.leaf (.int .i64 0),.ro kP,.leaf (.int .i64 0),.leaf (.int .i64 0),.leaf (.int .i64 0),.leaf (.bool false),.leaf (.int .i64 0),.leaf (.bool false),.leaf (.bool false)],.val (.agg [.int .i64 0,.int .i64 0,.int .i64 0])]
theorem bdyield_v {α:Type} (bad:Bool) (bk:Int) (ax:Int) (ay:Int) (az:Int) (tw:Int) (tx:Int) (ty:Int) (tz:Int) (px:Int) (p_y:Int) (pz:Int) (lx:Int) (ly:Int) (lz:Int) (bm:Int) (ix:Int) (iy:Int) (iz:Int) (sk:Int) (sr:Int) (hx:Int) (hy:Int) (hz:Int) (pts:List (Int × Int × Int)) (bg:Int) (mk:Int) (fr:Int) (fast:Bool) (qt:Int) (asl:Bool) (bout:Bool) (vx:Int) (vy:Int) (vz:Int) (k0:Int → Int → Int → Bool → Option α):M.bdyield bad bk ax ay az tw tx ty tz px p_y pz lx ly lz bm ix iy iz sk sr hx hy hz pts bg mk fr fast qt asl bout vx vy vz k0 = k0 (V.bYld bk tw tx ty tz ix iy iz vx vy vz).1 (V.bYld bk tw tx ty tz ix iy iz vx vy vz).2.1 (V.bYld bk tw tx ty tz ix iy iz vx vy vz).2.2 (V.bYldB bk tw tx ty tz ix iy iz vx vy vz bad) := by
 unfold M.bdyield V.bYld V.bYldB
 cases cEq bk 2 <;> rfl
noncomputable def bdyield_h {α:Type} (ds:List D) (Q:SV → Hp → Option α):Option α :=
 dB ds fun bad ds => dI ds fun bk ds => dI ds fun ax ds => dI ds fun ay ds => dI ds fun az ds => dI ds fun tw ds => dI ds fun tx ds => dI ds fun ty ds => dI ds fun tz ds => dI ds fun px ds => dI ds fun p_y ds => dI ds fun pz ds => dI ds fun lx ds => dI ds fun ly ds => dI ds fun lz ds => dI ds fun bm ds => dI ds fun ix ds => dI ds fun iy ds => dI ds fun iz ds => dI ds fun sk ds => dI ds fun sr ds => dI ds fun hx ds => dI ds fun hy ds => dI ds fun hz ds => dL kP ds fun pts ds => dI ds fun bg ds => dI ds fun mk ds => dI ds fun fr ds => dB ds fun fast ds => dI ds fun qt ds => dB ds fun asl ds => dB ds fun bout ds => dI ds fun vx ds => dI ds fun vy ds => dI ds fun vz ds => dE ds (Q (.agg [.int .i64 (V.bYld bk tw tx ty tz ix iy iz vx vy vz).1,.int .i64 (V.bYld bk tw tx ty tz ix iy iz vx vy vz).2.1,.int .i64 (V.bYld bk tw tx ty tz ix iy iz vx vy vz).2.2]) ([.cells [.bool (V.bYldB bk tw tx ty tz ix iy iz vx vy vz bad)] 27]))
theorem bdyield_h_ok {α:Type}:FnOk E.P 78 (fEnt (α := α) bdyield_sp bdyield_h) :=
 fEntR_ok E (look_bdspeed_ok) (exec_sound E E_ok (look_bdspeed_ok) (noLps_ok _) 400) fun ds Q r h => by
   unfold bdyield_h at h
   obtain ⟨bad,ds,rfl,h1⟩ := dB_inv h
   obtain ⟨bk,ds,rfl,h2⟩ := dI_inv h1
   obtain ⟨ax,ds,rfl,h3⟩ := dI_inv h2
   obtain ⟨ay,ds,rfl,h4⟩ := dI_inv h3
   obtain ⟨az,ds,rfl,h5⟩ := dI_inv h4
   obtain ⟨tw,ds,rfl,h6⟩ := dI_inv h5
   obtain ⟨tx,ds,rfl,h7⟩ := dI_inv h6
   obtain ⟨ty,ds,rfl,h8⟩ := dI_inv h7
   obtain ⟨tz,ds,rfl,h9⟩ := dI_inv h8
   obtain ⟨px,ds,rfl,h10⟩ := dI_inv h9
   obtain ⟨p_y,ds,rfl,h11⟩ := dI_inv h10
   obtain ⟨pz,ds,rfl,h12⟩ := dI_inv h11
   obtain ⟨lx,ds,rfl,h13⟩ := dI_inv h12
   obtain ⟨ly,ds,rfl,h14⟩ := dI_inv h13
   obtain ⟨lz,ds,rfl,h15⟩ := dI_inv h14
   obtain ⟨bm,ds,rfl,h16⟩ := dI_inv h15
   obtain ⟨ix,ds,rfl,h17⟩ := dI_inv h16
   obtain ⟨iy,ds,rfl,h18⟩ := dI_inv h17
   obtain ⟨iz,ds,rfl,h19⟩ := dI_inv h18
   obtain ⟨sk,ds,rfl,h20⟩ := dI_inv h19
   obtain ⟨sr,ds,rfl,h21⟩ := dI_inv h20
   obtain ⟨hx,ds,rfl,h22⟩ := dI_inv h21
   obtain ⟨hy,ds,rfl,h23⟩ := dI_inv h22
   obtain ⟨hz,ds,rfl,h24⟩ := dI_inv h23
   obtain ⟨pts,ds,rfl,h25⟩ := dL_inv h24
   obtain ⟨bg,ds,rfl,h26⟩ := dI_inv h25
   obtain ⟨mk,ds,rfl,h27⟩ := dI_inv h26
   obtain ⟨fr,ds,rfl,h28⟩ := dI_inv h27
   obtain ⟨fast,ds,rfl,h29⟩ := dB_inv h28
   obtain ⟨qt,ds,rfl,h30⟩ := dI_inv h29
   obtain ⟨asl,ds,rfl,h31⟩ := dB_inv h30
   obtain ⟨bout,ds,rfl,h32⟩ := dB_inv h31
   obtain ⟨vx,ds,rfl,h33⟩ := dI_inv h32
   obtain ⟨vy,ds,rfl,h34⟩ := dI_inv h33
   obtain ⟨vz,ds,rfl,h35⟩ := dI_inv h34
   obtain ⟨rfl,hE⟩ := dE_inv h35
   exact ⟨_,_,hE,fun vs => ⟨_,_,by kernel_rfl,(bdyield_eq bad bk ax ay az tw tx ty tz px p_y pz lx ly lz bm ix iy iz sk sr hx hy hz pts bg mk fr fast qt asl bout vx vy vz ((cellsV (vs.tail.headD undef)).tail.tail.tail.tail.tail.tail.tail.tail.tail.tail.tail.tail.tail.tail.tail.tail.tail.tail.tail.tail.tail.tail.tail.headD undef) _).trans (bdyield_v bad bk ax ay az tw tx ty tz px p_y pz lx ly lz bm ix iy iz sk sr hx hy hz pts bg mk fr fast qt asl bout vx vy vz _)⟩⟩
noncomputable def look_bdyield {α:Type}:LookF α := addFn 78 (fEnt bdyield_sp bdyield_h) look_bdspeed
theorem look_bdyield_ok {α:Type}:LookOk E.P (look_bdyield (α := α)) := addFn_ok bdyield_h_ok (look_bdspeed_ok)
noncomputable def M.bdspin {α:Type} (bad:Bool) (bk:Int) (ax:Int) (ay:Int) (az:Int) (tw:Int) (tx:Int) (ty:Int) (tz:Int) (px:Int) (p_y:Int) (pz:Int) (lx:Int) (ly:Int) (lz:Int) (bm:Int) (ix:Int) (iy:Int) (iz:Int) (sk:Int) (sr:Int) (hx:Int) (hy:Int) (hz:Int) (pts:L3) (bg:Int) (mk:Int) (fr:Int) (fast:Bool) (qt:Int) (asl:Bool) (bout:Bool) (k0:Int → Int → Int → Bool → Option α):Option α := k0 (Prod.fst (V.bYld bk tw tx ty tz ix iy iz lx ly lz)) (Prod.fst (Prod.snd (V.bYld bk tw tx ty tz ix iy iz lx ly lz))) (Prod.snd (Prod.snd (V.bYld bk tw tx ty tz ix iy iz lx ly lz))) (V.bYldB bk tw tx ty tz ix iy iz lx ly lz bad)
theorem bdspin_eq {α:Type} (bad:Bool) (bk:Int) (ax:Int) (ay:Int) (az:Int) (tw:Int) (tx:Int) (ty:Int) (tz:Int) (px:Int) (p_y:Int) (pz:Int) (lx:Int) (ly:Int) (lz:Int) (bm:Int) (ix:Int) (iy:Int) (iz:Int) (sk:Int) (sr:Int) (hx:Int) (hy:Int) (hz:Int) (pts:L3) (bg:Int) (mk:Int) (fr:Int) (fast:Bool) (qt:Int) (asl:Bool) (bout:Bool) (v10:Value) (Q:SV → Hp → Option α):callI E look_bdyield (exec E look_bdyield noLps 400) 59 ([SV.ptr (nat_lit 0) (nat_lit 0),
 SV.agg
   [SV.int .i64 bk,SV.int .i64 ax,SV.int .i64 ay,SV.int .i64 az,SV.int .i64 tw,SV.int .i64 tx,SV.int .i64 ty,SV.int .i64 tz,SV.int .i64 px,SV.int .i64 p_y,SV.int .i64 pz,SV.int .i64 lx,SV.int .i64 ly,SV.int .i64 lz,SV.int .i64 bm,SV.int .i64 ix,SV.int .i64 iy,SV.int .i64 iz,SV.int .i64 sk,SV.int .i64 sr,SV.int .i64 hx,
     SV.int .i64 hy,SV.int .i64 hz,SV.ros v10 kP pts,SV.int .i64 bg,SV.int .i64 mk,SV.int .i64 fr,SV.bool fast,SV.int .i64 qt,SV.bool asl,SV.bool bout]]) ([.cells [SV.bool bad] (nat_lit 27)]) Q = M.bdspin bad bk ax ay az tw tx ty tz px p_y pz lx ly lz bm ix iy iz sk sr hx hy hz pts bg mk fr fast qt asl bout (fun (x11 x12 x13:Int) (x14:Bool) => Q (SV.agg [SV.int .i64 x11,SV.int .i64 x12,SV.int .i64 x13]) ([.cells [SV.bool x14] (nat_lit 27)])) := by kernel_rfl
def bdspin_sp:List AS := [.ptr 27 [.bool false],.st [.leaf (.int .i64 0),.leaf (.int .i64 0),.leaf (.int .i64 0),.leaf (.int .i64 0),.leaf (.int .i64 0),.leaf (.int .i64 0),.leaf (.int .i64 0),.leaf (.int .i64 0),.leaf (.int .i64 0),.leaf (.int .i64 0),.leaf (.int .i64 0),.leaf (.int .i64 0),.leaf (.int .i64 0),.leaf (.int .i64 0),.leaf (.int .i64 0),.leaf (.int .i64 0),.leaf (.int .i64 0),.leaf (.int .i64 0),.leaf (.int .i64 0),.leaf (.int .i64 0),.leaf (.int .i64 0),.leaf (.int .i64 0),.leaf (.int .i64 0),.ro kP,.leaf (.int .i64 0),.leaf (.int .i64 0),.leaf (.int .i64 0),.leaf (.bool false),.leaf (.int .i64 0),.leaf (.bool false),.leaf (.bool false)]]
theorem bdspin_v {α:Type} (bad:Bool) (bk:Int) (ax:Int) (ay:Int) (az:Int) (tw:Int) (tx:Int) (ty:Int) (tz:Int) (px:Int) (p_y:Int) (pz:Int) (lx:Int) (ly:Int) (lz:Int) (bm:Int) (ix:Int) (iy:Int) (iz:Int) (sk:Int) (sr:Int) (hx:Int) (hy:Int) (hz:Int) (pts:List (Int × Int × Int)) (bg:Int) (mk:Int) (fr:Int) (fast:Bool) (qt:Int) (asl:Bool) (bout:Bool) (k0:Int → Int → Int → Bool → Option α):M.bdspin bad bk ax ay az tw tx ty tz px p_y pz lx ly lz bm ix iy iz sk sr hx hy hz pts bg mk fr fast qt asl bout k0 = k0 (V.bYld bk tw tx ty tz ix iy iz lx ly lz).1 (V.bYld bk tw tx ty tz ix iy iz lx ly lz).2.1 (V.bYld bk tw tx ty tz ix iy iz lx ly lz).2.2 (V.bYldB bk tw tx ty tz ix iy iz lx ly lz bad) := by
 unfold M.bdspin; rfl
noncomputable def bdspin_h {α:Type} (ds:List D) (Q:SV → Hp → Option α):Option α :=
 dB ds fun bad ds => dI ds fun bk ds => dI ds fun ax ds => dI ds fun ay ds => dI ds fun az ds => dI ds fun tw ds => dI ds fun tx ds => dI ds fun ty ds => dI ds fun tz ds => dI ds fun px ds => dI ds fun p_y ds => dI ds fun pz ds => dI ds fun lx ds => dI ds fun ly ds => dI ds fun lz ds => dI ds fun bm ds => dI ds fun ix ds => dI ds fun iy ds => dI ds fun iz ds => dI ds fun sk ds => dI ds fun sr ds => dI ds fun hx ds => dI ds fun hy ds => dI ds fun hz ds => dL kP ds fun pts ds => dI ds fun bg ds => dI ds fun mk ds => dI ds fun fr ds => dB ds fun fast ds => dI ds fun qt ds => dB ds fun asl ds => dB ds fun bout ds => dE ds (Q (.agg [.int .i64 (V.bYld bk tw tx ty tz ix iy iz lx ly lz).1,.int .i64 (V.bYld bk tw tx ty tz ix iy iz lx ly lz).2.1,.int .i64 (V.bYld bk tw tx ty tz ix iy iz lx ly lz).2.2]) ([.cells [.bool (V.bYldB bk tw tx ty tz ix iy iz lx ly lz bad)] 27]))
theorem bdspin_h_ok {α:Type}:FnOk E.P 59 (fEnt (α := α) bdspin_sp bdspin_h) :=
 fEntR_ok E (look_bdyield_ok) (exec_sound E E_ok (look_bdyield_ok) (noLps_ok _) 400) fun ds Q r h => by
   unfold bdspin_h at h
   obtain ⟨bad,ds,rfl,h1⟩ := dB_inv h
   obtain ⟨bk,ds,rfl,h2⟩ := dI_inv h1
   obtain ⟨ax,ds,rfl,h3⟩ := dI_inv h2
   obtain ⟨ay,ds,rfl,h4⟩ := dI_inv h3
   obtain ⟨az,ds,rfl,h5⟩ := dI_inv h4
   obtain ⟨tw,ds,rfl,h6⟩ := dI_inv h5
   obtain ⟨tx,ds,rfl,h7⟩ := dI_inv h6
   obtain ⟨ty,ds,rfl,h8⟩ := dI_inv h7
   obtain ⟨tz,ds,rfl,h9⟩ := dI_inv h8
   obtain ⟨px,ds,rfl,h10⟩ := dI_inv h9
   obtain ⟨p_y,ds,rfl,h11⟩ := dI_inv h10
   obtain ⟨pz,ds,rfl,h12⟩ := dI_inv h11
   obtain ⟨lx,ds,rfl,h13⟩ := dI_inv h12
   obtain ⟨ly,ds,rfl,h14⟩ := dI_inv h13
   obtain ⟨lz,ds,rfl,h15⟩ := dI_inv h14
   obtain ⟨bm,ds,rfl,h16⟩ := dI_inv h15
   obtain ⟨ix,ds,rfl,h17⟩ := dI_inv h16
   obtain ⟨iy,ds,rfl,h18⟩ := dI_inv h17
   obtain ⟨iz,ds,rfl,h19⟩ := dI_inv h18
   obtain ⟨sk,ds,rfl,h20⟩ := dI_inv h19
   obtain ⟨sr,ds,rfl,h21⟩ := dI_inv h20
   obtain ⟨hx,ds,rfl,h22⟩ := dI_inv h21
   obtain ⟨hy,ds,rfl,h23⟩ := dI_inv h22
   obtain ⟨hz,ds,rfl,h24⟩ := dI_inv h23
   obtain ⟨pts,ds,rfl,h25⟩ := dL_inv h24
   obtain ⟨bg,ds,rfl,h26⟩ := dI_inv h25
   obtain ⟨mk,ds,rfl,h27⟩ := dI_inv h26
   obtain ⟨fr,ds,rfl,h28⟩ := dI_inv h27
   obtain ⟨fast,ds,rfl,h29⟩ := dB_inv h28
   obtain ⟨qt,ds,rfl,h30⟩ := dI_inv h29
   obtain ⟨asl,ds,rfl,h31⟩ := dB_inv h30
   obtain ⟨bout,ds,rfl,h32⟩ := dB_inv h31
   obtain ⟨rfl,hE⟩ := dE_inv h32
   exact ⟨_,_,hE,fun vs => ⟨_,_,by kernel_rfl,(bdspin_eq bad bk ax ay az tw tx ty tz px p_y pz lx ly lz bm ix iy iz sk sr hx hy hz pts bg mk fr fast qt asl bout ((cellsV (vs.tail.headD undef)).tail.tail.tail.tail.tail.tail.tail.tail.tail.tail.tail.tail.tail.tail.tail.tail.tail.tail.tail.tail.tail.tail.tail.headD undef) _).trans (bdspin_v bad bk ax ay az tw tx ty tz px p_y pz lx ly lz bm ix iy iz sk sr hx hy hz pts bg mk fr fast qt asl bout _)⟩⟩
noncomputable def look_bdspin {α:Type}:LookF α := addFn 59 (fEnt bdspin_sp bdspin_h) look_bdyield
theorem look_bdspin_ok {α:Type}:LookOk E.P (look_bdspin (α := α)) := addFn_ok bdspin_h_ok (look_bdyield_ok)
end
section
open Go
abbrev L31:Type := Int × Int × Int × Int × Int × Int × Int × Int × Int × Int × Int × Int × Int × Int × Int × Int × Int × Int × Int × Int × Int × Int × Int × (Value × List (Int × Int × Int)) × Int × Int × Int × Bool × Int × Bool × Bool
abbrev L18:Type := Int × Int × Int × Int × Int × Int × Int × Int × Int × Int × Int × Bool × Int × Int × Int × Int × Int × Int
abbrev kBy:K := (.st (.i .i64) [.i .i64,.i .i64,.i .i64,.i .i64,.i .i64,.i .i64,.i .i64,.i .i64,.i .i64,.i .i64,.i .i64,.i .i64,.i .i64,.i .i64,.i .i64,.i .i64,.i .i64,.i .i64,.i .i64,.i .i64,.i .i64,.i .i64,.p,.i .i64,.i .i64,.i .i64,.b,.i .i64,.b,.b])
abbrev kRw:K := (.st (.i .i64) [.i .i64,.i .i64,.i .i64,.i .i64,.i .i64,.i .i64,.i .i64,.i .i64,.i .i64,.i .i64,.b,.i .i64,.i .i64,.i .i64,.i .i64,.i .i64,.i .i64])
abbrev zBy:L31 := (0,0,0,0,0,0,0,0,0,0,0,0,0,0,0,0,0,0,0,0,0,0,0,(Value.slice none 0 0,[]),0,0,0,false,0,false,false)
abbrev fBy:L31 := (1,0,0,0,0,0,0,0,0,0,0,0,0,0,0,0,0,0,0,0,0,0,0,(Value.slice none 0 0,[]),0,0,0,false,0,false,false)
abbrev zRw:L18 := (0,0,0,0,0,0,0,0,0,0,0,false,0,0,0,0,0,0)
noncomputable def _root_.Go.Proofs.YtfkgmidgdpfnkaaGreat.V.bv (x:L31):V.T3 := V.bSpd x.1 x.2.2.2.2.2.2.2.2.1 x.2.2.2.2.2.2.2.2.2.1 x.2.2.2.2.2.2.2.2.2.2.1 x.2.2.2.2.2.2.2.2.2.2.2.2.2.2.1
noncomputable def _root_.Go.Proofs.YtfkgmidgdpfnkaaGreat.V.bvB (x:L31) (bad:Bool):Bool := V.bSpdB x.1 x.2.2.2.2.2.2.2.2.1 x.2.2.2.2.2.2.2.2.2.1 x.2.2.2.2.2.2.2.2.2.2.1 x.2.2.2.2.2.2.2.2.2.2.2.2.2.2.1 bad
noncomputable def _root_.Go.Proofs.YtfkgmidgdpfnkaaGreat.V.byl (x:L31) (v:V.T3):V.T3 := V.bYld x.1 x.2.2.2.2.1 x.2.2.2.2.2.1 x.2.2.2.2.2.2.1 x.2.2.2.2.2.2.2.1 x.2.2.2.2.2.2.2.2.2.2.2.2.2.2.2.1 x.2.2.2.2.2.2.2.2.2.2.2.2.2.2.2.2.1 x.2.2.2.2.2.2.2.2.2.2.2.2.2.2.2.2.2.1 v.1 v.2.1 v.2.2
noncomputable def _root_.Go.Proofs.YtfkgmidgdpfnkaaGreat.V.bylB (x:L31) (v:V.T3) (bad:Bool):Bool := V.bYldB x.1 x.2.2.2.2.1 x.2.2.2.2.2.1 x.2.2.2.2.2.2.1 x.2.2.2.2.2.2.2.1 x.2.2.2.2.2.2.2.2.2.2.2.2.2.2.2.1 x.2.2.2.2.2.2.2.2.2.2.2.2.2.2.2.2.1 x.2.2.2.2.2.2.2.2.2.2.2.2.2.2.2.2.2.1 v.1 v.2.1 v.2.2 bad
noncomputable def _root_.Go.Proofs.YtfkgmidgdpfnkaaGreat.V.bw (x:L31):V.T3 := V.byl x (x.2.2.2.2.2.2.2.2.2.2.2.1,x.2.2.2.2.2.2.2.2.2.2.2.2.1,x.2.2.2.2.2.2.2.2.2.2.2.2.2.1)
noncomputable def _root_.Go.Proofs.YtfkgmidgdpfnkaaGreat.V.bwB (x:L31) (bad:Bool):Bool := V.bylB x (x.2.2.2.2.2.2.2.2.2.2.2.1,x.2.2.2.2.2.2.2.2.2.2.2.2.1,x.2.2.2.2.2.2.2.2.2.2.2.2.2.1) bad
noncomputable def _root_.Go.Proofs.YtfkgmidgdpfnkaaGreat.V.eSp (turn:Bool) (x:L31) (arm:V.T3):V.T3 := if turn = true then V.bw x else V.q3 (V.tAdd (V.bv x) (V.q3 (V.tCross (V.bw x) arm)))
noncomputable def _root_.Go.Proofs.YtfkgmidgdpfnkaaGreat.V.eSpB (turn:Bool) (x:L31) (arm:V.T3) (bad:Bool):Bool := if turn = true then V.bwB x bad else V.on (V.tAdd (V.bv x) (V.q3 (V.tCross (V.bw x) arm))) (V.on (V.tCross (V.bw x) arm) (V.bwB x (V.bvB x bad)))
noncomputable def _root_.Go.Proofs.YtfkgmidgdpfnkaaGreat.V.bAt (l:List L31) (n:Int):L31 := if cLt n 0 = true then fBy else if cLe (l.length:Int) n = true then fBy else l.getD n.toNat zBy
noncomputable def _root_.Go.Proofs.YtfkgmidgdpfnkaaGreat.V.rate (way:V.T3) (turn:Bool) (aa ab:V.T3) (xa xb:L31):Int := V.gv (V.tDot way (V.q3 (V.tSub (V.eSp turn xb ab) (V.eSp turn xa aa))))
noncomputable def _root_.Go.Proofs.YtfkgmidgdpfnkaaGreat.V.rateB (way:V.T3) (turn:Bool) (aa ab:V.T3) (xa xb:L31) (bad:Bool):Bool := V.gn (V.tDot way (V.q3 (V.tSub (V.eSp turn xb ab) (V.eSp turn xa aa)))) (V.on (V.tSub (V.eSp turn xb ab) (V.eSp turn xa aa)) (V.eSpB turn xa aa (V.eSpB turn xb ab bad)))
noncomputable def _root_.Go.Proofs.YtfkgmidgdpfnkaaGreat.V.ePt (way:V.T3) (turn:Bool) (arm:V.T3) (x:L31):Int := if cEq x.1 2 = true then (if turn = true then V.gv (V.tDot way (V.byl x way)) else V.gv (V.mAdd (V.gv (V.mDiv 4294967296 x.2.2.2.2.2.2.2.2.2.2.2.2.2.2.1)) (V.gv (V.tDot (V.q3 (V.tCross arm way)) (V.byl x (V.q3 (V.tCross arm way))))))) else 0
noncomputable def _root_.Go.Proofs.YtfkgmidgdpfnkaaGreat.V.ePtB (way:V.T3) (turn:Bool) (arm:V.T3) (x:L31) (bad:Bool):Bool := if cEq x.1 2 = true then (if turn = true then V.gn (V.tDot way (V.byl x way)) (V.bylB x way bad) else V.gn (V.mAdd (V.gv (V.mDiv 4294967296 x.2.2.2.2.2.2.2.2.2.2.2.2.2.2.1)) (V.gv (V.tDot (V.q3 (V.tCross arm way)) (V.byl x (V.q3 (V.tCross arm way)))))) (V.gn (V.tDot (V.q3 (V.tCross arm way)) (V.byl x (V.q3 (V.tCross arm way)))) (V.bylB x (V.q3 (V.tCross arm way)) (V.gn (V.mDiv 4294967296 x.2.2.2.2.2.2.2.2.2.2.2.2.2.2.1) (V.on (V.tCross arm way) bad))))) else bad
noncomputable def _root_.Go.Proofs.YtfkgmidgdpfnkaaGreat.V.wgt (way:V.T3) (turn:Bool) (aa ab:V.T3) (xa xb:L31):Int := V.gv (V.mAdd (V.gv (V.mAdd 0 (V.ePt way turn aa xa))) (V.ePt way turn ab xb))
noncomputable def _root_.Go.Proofs.YtfkgmidgdpfnkaaGreat.V.wgtB (way:V.T3) (turn:Bool) (aa ab:V.T3) (xa xb:L31) (bad:Bool):Bool := V.gn (V.mAdd (V.gv (V.mAdd 0 (V.ePt way turn aa xa))) (V.ePt way turn ab xb)) (V.ePtB way turn ab xb (V.gn (V.mAdd 0 (V.ePt way turn aa xa)) (V.ePtB way turn aa xa bad)))
noncomputable def _root_.Go.Proofs.YtfkgmidgdpfnkaaGreat.V.eM (rows:List L18) (n:Int):Int := if (0:Int) > V.gv (V.mMul (rows.getD n.toNat zRw).2.2.2.2.2.2.2.2.2.2.2.2.2.2.2.2.1 (rows.getD ((rows.getD n.toNat zRw).2.2.2.2.2.2.2.2.2.2.2.2.2.2.2.1).toNat zRw).2.2.2.2.2.2.2.2.2.2.2.2.2.2.2.2.2) then 0 else V.gv (V.mMul (rows.getD n.toNat zRw).2.2.2.2.2.2.2.2.2.2.2.2.2.2.2.2.1 (rows.getD ((rows.getD n.toNat zRw).2.2.2.2.2.2.2.2.2.2.2.2.2.2.2.1).toNat zRw).2.2.2.2.2.2.2.2.2.2.2.2.2.2.2.2.2)
noncomputable def _root_.Go.Proofs.YtfkgmidgdpfnkaaGreat.V.eLow (rows:List L18) (n:Int):Int := if cLt n 0 = true then 0 else if cLe (rows.length:Int) n = true then 0 else if cLe 0 (rows.getD n.toNat zRw).2.2.2.2.2.2.2.2.2.2.2.2.2.2.2.1 = true then (if cLt (rows.getD n.toNat zRw).2.2.2.2.2.2.2.2.2.2.2.2.2.2.2.1 n = true then IntKind.wrap .i64 (0 - V.eM rows n) else (rows.getD n.toNat zRw).2.2.2.2.2.2.2.2.2.2.2.2.2.1) else (rows.getD n.toNat zRw).2.2.2.2.2.2.2.2.2.2.2.2.2.1
noncomputable def _root_.Go.Proofs.YtfkgmidgdpfnkaaGreat.V.eHigh (rows:List L18) (n:Int):Int := if cLt n 0 = true then 0 else if cLe (rows.length:Int) n = true then 0 else if cLe 0 (rows.getD n.toNat zRw).2.2.2.2.2.2.2.2.2.2.2.2.2.2.2.1 = true then (if cLt (rows.getD n.toNat zRw).2.2.2.2.2.2.2.2.2.2.2.2.2.2.2.1 n = true then V.eM rows n else (if (rows.getD n.toNat zRw).2.2.2.2.2.2.2.2.2.2.2.2.2.2.1 > (rows.getD n.toNat zRw).2.2.2.2.2.2.2.2.2.2.2.2.2.1 then (rows.getD n.toNat zRw).2.2.2.2.2.2.2.2.2.2.2.2.2.2.1 else (rows.getD n.toNat zRw).2.2.2.2.2.2.2.2.2.2.2.2.2.1)) else (if (rows.getD n.toNat zRw).2.2.2.2.2.2.2.2.2.2.2.2.2.2.1 > (rows.getD n.toNat zRw).2.2.2.2.2.2.2.2.2.2.2.2.2.1 then (rows.getD n.toNat zRw).2.2.2.2.2.2.2.2.2.2.2.2.2.2.1 else (rows.getD n.toNat zRw).2.2.2.2.2.2.2.2.2.2.2.2.2.1)
noncomputable def _root_.Go.Proofs.YtfkgmidgdpfnkaaGreat.V.eB (rows:List L18) (n:Int) (bad:Bool):Bool := if cLt n 0 = true then bad else if cLe (rows.length:Int) n = true then bad else if cLe 0 (rows.getD n.toNat zRw).2.2.2.2.2.2.2.2.2.2.2.2.2.2.2.1 = true then (if cLt (rows.getD n.toNat zRw).2.2.2.2.2.2.2.2.2.2.2.2.2.2.2.1 n = true then V.gn (V.mMul (rows.getD n.toNat zRw).2.2.2.2.2.2.2.2.2.2.2.2.2.2.2.2.1 (rows.getD ((rows.getD n.toNat zRw).2.2.2.2.2.2.2.2.2.2.2.2.2.2.2.1).toNat zRw).2.2.2.2.2.2.2.2.2.2.2.2.2.2.2.2.2) bad else bad) else bad
noncomputable def _root_.Go.Proofs.YtfkgmidgdpfnkaaGreat.V.wW (rows:List L18) (n:Int) (l:List L31):Int := V.wgt ((rows.getD n.toNat zRw).2.2.1,(rows.getD n.toNat zRw).2.2.2.1,(rows.getD n.toNat zRw).2.2.2.2.1) (rows.getD n.toNat zRw).2.2.2.2.2.2.2.2.2.2.2.1 ((rows.getD n.toNat zRw).2.2.2.2.2.1,(rows.getD n.toNat zRw).2.2.2.2.2.2.1,(rows.getD n.toNat zRw).2.2.2.2.2.2.2.1) ((rows.getD n.toNat zRw).2.2.2.2.2.2.2.2.1,(rows.getD n.toNat zRw).2.2.2.2.2.2.2.2.2.1,(rows.getD n.toNat zRw).2.2.2.2.2.2.2.2.2.2.1) (V.bAt l (rows.getD n.toNat zRw).1) (V.bAt l (rows.getD n.toNat zRw).2.1)
noncomputable def _root_.Go.Proofs.YtfkgmidgdpfnkaaGreat.V.wR (rows:List L18) (n:Int) (l:List L31):Int := V.rate ((rows.getD n.toNat zRw).2.2.1,(rows.getD n.toNat zRw).2.2.2.1,(rows.getD n.toNat zRw).2.2.2.2.1) (rows.getD n.toNat zRw).2.2.2.2.2.2.2.2.2.2.2.1 ((rows.getD n.toNat zRw).2.2.2.2.2.1,(rows.getD n.toNat zRw).2.2.2.2.2.2.1,(rows.getD n.toNat zRw).2.2.2.2.2.2.2.1) ((rows.getD n.toNat zRw).2.2.2.2.2.2.2.2.1,(rows.getD n.toNat zRw).2.2.2.2.2.2.2.2.2.1,(rows.getD n.toNat zRw).2.2.2.2.2.2.2.2.2.2.1) (V.bAt l (rows.getD n.toNat zRw).1) (V.bAt l (rows.getD n.toNat zRw).2.1)
noncomputable def _root_.Go.Proofs.YtfkgmidgdpfnkaaGreat.V.wS (rows:List L18) (n:Int) (l:List L31):Int := V.gv (V.mAdd (rows.getD n.toNat zRw).2.2.2.2.2.2.2.2.2.2.2.2.2.2.2.2.2 (V.gv (V.mDiv (V.gv (V.mSub (rows.getD n.toNat zRw).2.2.2.2.2.2.2.2.2.2.2.2.1 (V.wR rows n l))) (V.wW rows n l))))
noncomputable def _root_.Go.Proofs.YtfkgmidgdpfnkaaGreat.V.wsh (rows:List L18) (n:Int) (l:List L31):Int := if cLt n 0 = true then 0 else if cLe (rows.length:Int) n = true then 0 else if cLt (V.wW rows n l) 64 = true then (rows.getD n.toNat zRw).2.2.2.2.2.2.2.2.2.2.2.2.2.2.2.2.2 else (if V.eHigh rows n < (if V.eLow rows n > V.wS rows n l then V.eLow rows n else V.wS rows n l) then V.eHigh rows n else (if V.eLow rows n > V.wS rows n l then V.eLow rows n else V.wS rows n l))
noncomputable def _root_.Go.Proofs.YtfkgmidgdpfnkaaGreat.V.wshB (rows:List L18) (n:Int) (l:List L31) (bad:Bool):Bool := if cLt n 0 = true then bad else if cLe (rows.length:Int) n = true then bad else if cLt (V.wW rows n l) 64 = true then (V.wgtB ((rows.getD n.toNat zRw).2.2.1,(rows.getD n.toNat zRw).2.2.2.1,(rows.getD n.toNat zRw).2.2.2.2.1) (rows.getD n.toNat zRw).2.2.2.2.2.2.2.2.2.2.2.1 ((rows.getD n.toNat zRw).2.2.2.2.2.1,(rows.getD n.toNat zRw).2.2.2.2.2.2.1,(rows.getD n.toNat zRw).2.2.2.2.2.2.2.1) ((rows.getD n.toNat zRw).2.2.2.2.2.2.2.2.1,(rows.getD n.toNat zRw).2.2.2.2.2.2.2.2.2.1,(rows.getD n.toNat zRw).2.2.2.2.2.2.2.2.2.2.1) (V.bAt l (rows.getD n.toNat zRw).1) (V.bAt l (rows.getD n.toNat zRw).2.1) bad) else V.eB rows n (V.gn (V.mAdd (rows.getD n.toNat zRw).2.2.2.2.2.2.2.2.2.2.2.2.2.2.2.2.2 (V.gv (V.mDiv (V.gv (V.mSub (rows.getD n.toNat zRw).2.2.2.2.2.2.2.2.2.2.2.2.1 (V.wR rows n l))) (V.wW rows n l)))) (V.gn (V.mDiv (V.gv (V.mSub (rows.getD n.toNat zRw).2.2.2.2.2.2.2.2.2.2.2.2.1 (V.wR rows n l))) (V.wW rows n l)) (V.gn (V.mSub (rows.getD n.toNat zRw).2.2.2.2.2.2.2.2.2.2.2.2.1 (V.wR rows n l)) (V.rateB ((rows.getD n.toNat zRw).2.2.1,(rows.getD n.toNat zRw).2.2.2.1,(rows.getD n.toNat zRw).2.2.2.2.1) (rows.getD n.toNat zRw).2.2.2.2.2.2.2.2.2.2.2.1 ((rows.getD n.toNat zRw).2.2.2.2.2.1,(rows.getD n.toNat zRw).2.2.2.2.2.2.1,(rows.getD n.toNat zRw).2.2.2.2.2.2.2.1) ((rows.getD n.toNat zRw).2.2.2.2.2.2.2.2.1,(rows.getD n.toNat zRw).2.2.2.2.2.2.2.2.2.1,(rows.getD n.toNat zRw).2.2.2.2.2.2.2.2.2.2.1) (V.bAt l (rows.getD n.toNat zRw).1) (V.bAt l (rows.getD n.toNat zRw).2.1) (V.wgtB ((rows.getD n.toNat zRw).2.2.1,(rows.getD n.toNat zRw).2.2.2.1,(rows.getD n.toNat zRw).2.2.2.2.1) (rows.getD n.toNat zRw).2.2.2.2.2.2.2.2.2.2.2.1 ((rows.getD n.toNat zRw).2.2.2.2.2.1,(rows.getD n.toNat zRw).2.2.2.2.2.2.1,(rows.getD n.toNat zRw).2.2.2.2.2.2.2.1) ((rows.getD n.toNat zRw).2.2.2.2.2.2.2.2.1,(rows.getD n.toNat zRw).2.2.2.2.2.2.2.2.2.1,(rows.getD n.toNat zRw).2.2.2.2.2.2.2.2.2.2.1) (V.bAt l (rows.getD n.toNat zRw).1) (V.bAt l (rows.getD n.toNat zRw).2.1) bad)))))
end
section
open Go
set_option maxRecDepth 20000
noncomputable def M.rwrate {α:Type} (bad:Bool) (ra:Int) (rb:Int) (wx:Int) (wy:Int) (wz:Int) (aax:Int) (aay:Int) (aaz:Int) (abx:Int) (aby:Int) (abz:Int) (rt:Bool) (goal:Int) (low:Int) (high:Int) (rof:Int) (rub:Int) (rsum:Int) (l:List L31) (k0:Int → Bool → Option α):Option α :=
 let s1 := V.bYldB (1:Int) (0:Int) (0:Int) (0:Int) (0:Int) (0:Int) (0:Int) (0:Int) (0:Int) (0:Int) (0:Int) bad;
let s2 := V.tCross (V.bYld (1:Int) (0:Int) (0:Int) (0:Int) (0:Int) (0:Int) (0:Int) (0:Int) (0:Int) (0:Int) (0:Int)) (abx,aby,abz);
let s3 := V.tCross (V.bYld (1:Int) (0:Int) (0:Int) (0:Int) (0:Int) (0:Int) (0:Int) (0:Int) (0:Int) (0:Int) (0:Int)) (aax,aay,aaz);
let s4 := V.tAdd (V.bSpd (1:Int) (0:Int) (0:Int) (0:Int) (0:Int)) (V.q3 s3);
let s5 := V.tAdd (V.bSpd (1:Int) (0:Int) (0:Int) (0:Int) (0:Int)) (V.q3 s2);
let s6 := V.tDot (wx,wy,wz) (V.q3 (V.tSub (V.bYld (1:Int) (0:Int) (0:Int) (0:Int) (0:Int) (0:Int) (0:Int) (0:Int) (0:Int) (0:Int) (0:Int)) (V.bYld (1:Int) (0:Int) (0:Int) (0:Int) (0:Int) (0:Int) (0:Int) (0:Int) (0:Int) (0:Int) (0:Int))));
let s7 := (↑(List.length l):Int);
let s8 := V.tSub (V.bYld (1:Int) (0:Int) (0:Int) (0:Int) (0:Int) (0:Int) (0:Int) (0:Int) (0:Int) (0:Int) (0:Int)) (V.q3 s4);
let s9 := V.tSub (V.q3 s5) (V.bYld (1:Int) (0:Int) (0:Int) (0:Int) (0:Int) (0:Int) (0:Int) (0:Int) (0:Int) (0:Int) (0:Int));
let s10 := V.tDot (wx,wy,wz) (V.q3 s8);
let s11 := V.tDot (wx,wy,wz) (V.q3 s9);
let s12 := V.tSub (V.q3 s5) (V.q3 s4);
let s13 := V.tDot (wx,wy,wz) (V.q3 s12);
let s14 := V.on s5 (V.on s2 (V.bYldB (1:Int) (0:Int) (0:Int) (0:Int) (0:Int) (0:Int) (0:Int) (0:Int) (0:Int) (0:Int) (0:Int) (V.bSpdB (1:Int) (0:Int) (0:Int) (0:Int) (0:Int) bad)));
let s15 := List.getD l (Int.toNat ra) zBy;
let s16 := List.getD l (Int.toNat rb) zBy;
let s17 := Prod.fst s16;
let s18 := Prod.fst s15;
let s19 := Prod.snd (Prod.snd (Prod.snd (Prod.snd s15)));
let s20 := Prod.snd (Prod.snd (Prod.snd (Prod.snd s16)));
let s21 := Prod.snd s20;
let s22 := Prod.fst s20;
let s23 := Prod.fst s19;
let s24 := Prod.snd s19;
let s25 := Prod.snd s21;
let s26 := Prod.snd s24;
let s27 := Prod.fst s24;
let s28 := Prod.fst s21;
let s29 := Prod.snd s25;
let s30 := Prod.snd s26;
let s31 := Prod.fst s25;
let s32 := Prod.fst s26;
let s33 := Prod.fst s30;
let s34 := Prod.snd s30;
let s35 := Prod.fst s29;
let s36 := Prod.snd s29;
let s37 := Prod.fst s36;
let s38 := Prod.snd s36;
let s39 := Prod.snd s34;
let s40 := Prod.fst s34;
let s41 := Prod.fst s38;
let s42 := Prod.fst s39;
let s43 := Prod.snd s38;
let s44 := Prod.snd s39;
let s45 := Prod.fst s43;
let s46 := Prod.fst s44;
let s47 := Prod.snd s44;
let s48 := Prod.snd s43;
let s49 := Prod.fst s47;
let s50 := Prod.snd s48;
let s51 := Prod.snd s47;
let s52 := Prod.fst s48;
let s53 := Prod.snd s51;
let s54 := Prod.fst s51;
let s55 := Prod.fst s50;
let s56 := Prod.snd s50;
let s57 := Prod.snd s53;
let s58 := Prod.snd s56;
let s59 := Prod.fst s56;
let s60 := Prod.fst s53;
let s61 := Prod.snd s58;
let s62 := Prod.fst s58;
let s63 := Prod.snd s57;
let s64 := Prod.fst s57;
let s65 := Prod.fst s61;
let s66 := Prod.snd s63;
let s67 := Prod.fst s63;
let s68 := Prod.snd s61;
let s69 := Prod.fst s66;
let s70 := Prod.fst s68;
let s71 := Prod.fst (Prod.snd s68);
let s72 := Prod.fst (Prod.snd s66);
let s73 := V.bYld s17 s22 s28 s31 s35 s65 s70 s71 s52 s55 s59;
let s74 := V.bYld s18 s23 s27 s32 s33 s67 s69 s72 s49 s54 s60;
let s75 := V.bYldB s17 s22 s28 s31 s35 s65 s70 s71 s52 s55 s59 bad;
let s76 := V.tCross s74 (aax,aay,aaz);
let s77 := V.tCross s73 (abx,aby,abz);
let s78 := V.tSub (V.bYld (1:Int) (0:Int) (0:Int) (0:Int) (0:Int) (0:Int) (0:Int) (0:Int) (0:Int) (0:Int) (0:Int)) s74;
let s79 := V.tSub s73 (V.bYld (1:Int) (0:Int) (0:Int) (0:Int) (0:Int) (0:Int) (0:Int) (0:Int) (0:Int) (0:Int) (0:Int));
let s80 := V.tDot (wx,wy,wz) (V.q3 s78);
let s81 := V.tDot (wx,wy,wz) (V.q3 s79);
let s82 := V.tSub s73 (V.q3 s4);
let s83 := V.tSub (V.q3 s5) s74;
let s84 := V.tDot (wx,wy,wz) (V.q3 s82);
let s85 := V.tDot (wx,wy,wz) (V.q3 s83);
let s86 := V.tAdd (V.bSpd s18 s40 s42 s46 s64) (V.q3 s76);
let s87 := V.tAdd (V.bSpd s17 s37 s41 s45 s62) (V.q3 s77);
let s88 := V.tSub (V.q3 s87) (V.bYld (1:Int) (0:Int) (0:Int) (0:Int) (0:Int) (0:Int) (0:Int) (0:Int) (0:Int) (0:Int) (0:Int));
let s89 := V.tSub (V.bYld (1:Int) (0:Int) (0:Int) (0:Int) (0:Int) (0:Int) (0:Int) (0:Int) (0:Int) (0:Int) (0:Int)) (V.q3 s86);
let s90 := V.tDot (wx,wy,wz) (V.q3 s88);
let s91 := V.tDot (wx,wy,wz) (V.q3 s89);
let s92 := V.tSub (V.q3 s87) (V.q3 s4);
let s93 := V.tSub (V.q3 s5) (V.q3 s86);
let s94 := V.tDot (wx,wy,wz) (V.q3 s92);
let s95 := V.tDot (wx,wy,wz) (V.q3 s93);
let s96 := V.tSub s73 s74;
let s97 := V.tDot (wx,wy,wz) (V.q3 s96);
let s98 := V.tSub s73 (V.q3 s86);
let s99 := V.tSub (V.q3 s87) s74;
let s100 := V.tDot (wx,wy,wz) (V.q3 s98);
let s101 := V.tDot (wx,wy,wz) (V.q3 s99);
let s102 := V.tSub (V.q3 s87) (V.q3 s86);
let s103 := V.tDot (wx,wy,wz) (V.q3 s102);
let s104 := V.on s87 (V.on s77 (V.bYldB s17 s22 s28 s31 s35 s65 s70 s71 s52 s55 s59 (V.bSpdB s17 s37 s41 s45 s62 bad)));
if cLt ra (0:Int) = true then
 if cLt rb (0:Int) = true then
   if rt = true then
     if rt = true then k0 (V.gv s6) (V.gn s6 (V.on (V.tSub (V.bYld (1:Int) (0:Int) (0:Int) (0:Int) (0:Int) (0:Int) (0:Int) (0:Int) (0:Int) (0:Int) (0:Int)) (V.bYld (1:Int) (0:Int) (0:Int) (0:Int) (0:Int) (0:Int) (0:Int) (0:Int) (0:Int) (0:Int) (0:Int))) (V.bYldB (1:Int) (0:Int) (0:Int) (0:Int) (0:Int) (0:Int) (0:Int) (0:Int) (0:Int) (0:Int) (0:Int) s1)))
     else k0 (V.gv s10) (V.gn s10 (V.on s8 (V.on s4 (V.on s3 (V.bYldB (1:Int) (0:Int) (0:Int) (0:Int) (0:Int) (0:Int) (0:Int) (0:Int) (0:Int) (0:Int) (0:Int) (V.bSpdB (1:Int) (0:Int) (0:Int) (0:Int) (0:Int) s1))))))
   else if rt = true then k0 (V.gv s11) (V.gn s11 (V.on s9 (V.bYldB (1:Int) (0:Int) (0:Int) (0:Int) (0:Int) (0:Int) (0:Int) (0:Int) (0:Int) (0:Int) (0:Int) s14))) else k0 (V.gv s13) (V.gn s13 (V.on s12 (V.on s4 (V.on s3 (V.bYldB (1:Int) (0:Int) (0:Int) (0:Int) (0:Int) (0:Int) (0:Int) (0:Int) (0:Int) (0:Int) (0:Int) (V.bSpdB (1:Int) (0:Int) (0:Int) (0:Int) (0:Int) s14))))))
 else
   if cLe s7 rb = true then
     if rt = true then
       if rt = true then k0 (V.gv s6) (V.gn s6 (V.on (V.tSub (V.bYld (1:Int) (0:Int) (0:Int) (0:Int) (0:Int) (0:Int) (0:Int) (0:Int) (0:Int) (0:Int) (0:Int)) (V.bYld (1:Int) (0:Int) (0:Int) (0:Int) (0:Int) (0:Int) (0:Int) (0:Int) (0:Int) (0:Int) (0:Int))) (V.bYldB (1:Int) (0:Int) (0:Int) (0:Int) (0:Int) (0:Int) (0:Int) (0:Int) (0:Int) (0:Int) (0:Int) s1)))
       else k0 (V.gv s10) (V.gn s10 (V.on s8 (V.on s4 (V.on s3 (V.bYldB (1:Int) (0:Int) (0:Int) (0:Int) (0:Int) (0:Int) (0:Int) (0:Int) (0:Int) (0:Int) (0:Int) (V.bSpdB (1:Int) (0:Int) (0:Int) (0:Int) (0:Int) s1))))))
     else if rt = true then k0 (V.gv s11) (V.gn s11 (V.on s9 (V.bYldB (1:Int) (0:Int) (0:Int) (0:Int) (0:Int) (0:Int) (0:Int) (0:Int) (0:Int) (0:Int) (0:Int) s14))) else k0 (V.gv s13) (V.gn s13 (V.on s12 (V.on s4 (V.on s3 (V.bYldB (1:Int) (0:Int) (0:Int) (0:Int) (0:Int) (0:Int) (0:Int) (0:Int) (0:Int) (0:Int) (0:Int) (V.bSpdB (1:Int) (0:Int) (0:Int) (0:Int) (0:Int) s14))))))
   else
     if (0:Int) ≤ rb ∧ rb < s7 then
       if rt = true then if rt = true then k0 (V.gv s81) (V.gn s81 (V.on s79 (V.bYldB (1:Int) (0:Int) (0:Int) (0:Int) (0:Int) (0:Int) (0:Int) (0:Int) (0:Int) (0:Int) (0:Int) s75))) else k0 (V.gv s84) (V.gn s84 (V.on s82 (V.on s4 (V.on s3 (V.bYldB (1:Int) (0:Int) (0:Int) (0:Int) (0:Int) (0:Int) (0:Int) (0:Int) (0:Int) (0:Int) (0:Int) (V.bSpdB (1:Int) (0:Int) (0:Int) (0:Int) (0:Int) s75))))))
       else if rt = true then k0 (V.gv s90) (V.gn s90 (V.on s88 (V.bYldB (1:Int) (0:Int) (0:Int) (0:Int) (0:Int) (0:Int) (0:Int) (0:Int) (0:Int) (0:Int) (0:Int) s104))) else k0 (V.gv s94) (V.gn s94 (V.on s92 (V.on s4 (V.on s3 (V.bYldB (1:Int) (0:Int) (0:Int) (0:Int) (0:Int) (0:Int) (0:Int) (0:Int) (0:Int) (0:Int) (0:Int) (V.bSpdB (1:Int) (0:Int) (0:Int) (0:Int) (0:Int) s104))))))
     else none
else
 if cLe s7 ra = true then
   if cLt rb (0:Int) = true then
     if rt = true then
       if rt = true then k0 (V.gv s6) (V.gn s6 (V.on (V.tSub (V.bYld (1:Int) (0:Int) (0:Int) (0:Int) (0:Int) (0:Int) (0:Int) (0:Int) (0:Int) (0:Int) (0:Int)) (V.bYld (1:Int) (0:Int) (0:Int) (0:Int) (0:Int) (0:Int) (0:Int) (0:Int) (0:Int) (0:Int) (0:Int))) (V.bYldB (1:Int) (0:Int) (0:Int) (0:Int) (0:Int) (0:Int) (0:Int) (0:Int) (0:Int) (0:Int) (0:Int) s1)))
       else k0 (V.gv s10) (V.gn s10 (V.on s8 (V.on s4 (V.on s3 (V.bYldB (1:Int) (0:Int) (0:Int) (0:Int) (0:Int) (0:Int) (0:Int) (0:Int) (0:Int) (0:Int) (0:Int) (V.bSpdB (1:Int) (0:Int) (0:Int) (0:Int) (0:Int) s1))))))
     else if rt = true then k0 (V.gv s11) (V.gn s11 (V.on s9 (V.bYldB (1:Int) (0:Int) (0:Int) (0:Int) (0:Int) (0:Int) (0:Int) (0:Int) (0:Int) (0:Int) (0:Int) s14))) else k0 (V.gv s13) (V.gn s13 (V.on s12 (V.on s4 (V.on s3 (V.bYldB (1:Int) (0:Int) (0:Int) (0:Int) (0:Int) (0:Int) (0:Int) (0:Int) (0:Int) (0:Int) (0:Int) (V.bSpdB (1:Int) (0:Int) (0:Int) (0:Int) (0:Int) s14))))))
   else
     if cLe s7 rb = true then
       if rt = true then
         if rt = true then k0 (V.gv s6) (V.gn s6 (V.on (V.tSub (V.bYld (1:Int) (0:Int) (0:Int) (0:Int) (0:Int) (0:Int) (0:Int) (0:Int) (0:Int) (0:Int) (0:Int)) (V.bYld (1:Int) (0:Int) (0:Int) (0:Int) (0:Int) (0:Int) (0:Int) (0:Int) (0:Int) (0:Int) (0:Int))) (V.bYldB (1:Int) (0:Int) (0:Int) (0:Int) (0:Int) (0:Int) (0:Int) (0:Int) (0:Int) (0:Int) (0:Int) s1)))
         else k0 (V.gv s10) (V.gn s10 (V.on s8 (V.on s4 (V.on s3 (V.bYldB (1:Int) (0:Int) (0:Int) (0:Int) (0:Int) (0:Int) (0:Int) (0:Int) (0:Int) (0:Int) (0:Int) (V.bSpdB (1:Int) (0:Int) (0:Int) (0:Int) (0:Int) s1))))))
       else if rt = true then k0 (V.gv s11) (V.gn s11 (V.on s9 (V.bYldB (1:Int) (0:Int) (0:Int) (0:Int) (0:Int) (0:Int) (0:Int) (0:Int) (0:Int) (0:Int) (0:Int) s14))) else k0 (V.gv s13) (V.gn s13 (V.on s12 (V.on s4 (V.on s3 (V.bYldB (1:Int) (0:Int) (0:Int) (0:Int) (0:Int) (0:Int) (0:Int) (0:Int) (0:Int) (0:Int) (0:Int) (V.bSpdB (1:Int) (0:Int) (0:Int) (0:Int) (0:Int) s14))))))
     else
       if (0:Int) ≤ rb ∧ rb < s7 then
         if rt = true then if rt = true then k0 (V.gv s81) (V.gn s81 (V.on s79 (V.bYldB (1:Int) (0:Int) (0:Int) (0:Int) (0:Int) (0:Int) (0:Int) (0:Int) (0:Int) (0:Int) (0:Int) s75))) else k0 (V.gv s84) (V.gn s84 (V.on s82 (V.on s4 (V.on s3 (V.bYldB (1:Int) (0:Int) (0:Int) (0:Int) (0:Int) (0:Int) (0:Int) (0:Int) (0:Int) (0:Int) (0:Int) (V.bSpdB (1:Int) (0:Int) (0:Int) (0:Int) (0:Int) s75))))))
         else if rt = true then k0 (V.gv s90) (V.gn s90 (V.on s88 (V.bYldB (1:Int) (0:Int) (0:Int) (0:Int) (0:Int) (0:Int) (0:Int) (0:Int) (0:Int) (0:Int) (0:Int) s104))) else k0 (V.gv s94) (V.gn s94 (V.on s92 (V.on s4 (V.on s3 (V.bYldB (1:Int) (0:Int) (0:Int) (0:Int) (0:Int) (0:Int) (0:Int) (0:Int) (0:Int) (0:Int) (0:Int) (V.bSpdB (1:Int) (0:Int) (0:Int) (0:Int) (0:Int) s104))))))
       else none
 else
   if (0:Int) ≤ ra ∧ ra < s7 then
     if cLt rb (0:Int) = true then
       if rt = true then if rt = true then k0 (V.gv s80) (V.gn s80 (V.on s78 (V.bYldB s18 s23 s27 s32 s33 s67 s69 s72 s49 s54 s60 s1))) else k0 (V.gv s91) (V.gn s91 (V.on s89 (V.on s86 (V.on s76 (V.bYldB s18 s23 s27 s32 s33 s67 s69 s72 s49 s54 s60 (V.bSpdB s18 s40 s42 s46 s64 s1))))))
       else if rt = true then k0 (V.gv s85) (V.gn s85 (V.on s83 (V.bYldB s18 s23 s27 s32 s33 s67 s69 s72 s49 s54 s60 s14))) else k0 (V.gv s95) (V.gn s95 (V.on s93 (V.on s86 (V.on s76 (V.bYldB s18 s23 s27 s32 s33 s67 s69 s72 s49 s54 s60 (V.bSpdB s18 s40 s42 s46 s64 s14))))))
     else
       if cLe s7 rb = true then
         if rt = true then if rt = true then k0 (V.gv s80) (V.gn s80 (V.on s78 (V.bYldB s18 s23 s27 s32 s33 s67 s69 s72 s49 s54 s60 s1))) else k0 (V.gv s91) (V.gn s91 (V.on s89 (V.on s86 (V.on s76 (V.bYldB s18 s23 s27 s32 s33 s67 s69 s72 s49 s54 s60 (V.bSpdB s18 s40 s42 s46 s64 s1))))))
         else if rt = true then k0 (V.gv s85) (V.gn s85 (V.on s83 (V.bYldB s18 s23 s27 s32 s33 s67 s69 s72 s49 s54 s60 s14))) else k0 (V.gv s95) (V.gn s95 (V.on s93 (V.on s86 (V.on s76 (V.bYldB s18 s23 s27 s32 s33 s67 s69 s72 s49 s54 s60 (V.bSpdB s18 s40 s42 s46 s64 s14))))))
       else
         if (0:Int) ≤ rb ∧ rb < s7 then
           if rt = true then if rt = true then k0 (V.gv s97) (V.gn s97 (V.on s96 (V.bYldB s18 s23 s27 s32 s33 s67 s69 s72 s49 s54 s60 s75))) else k0 (V.gv s100) (V.gn s100 (V.on s98 (V.on s86 (V.on s76 (V.bYldB s18 s23 s27 s32 s33 s67 s69 s72 s49 s54 s60 (V.bSpdB s18 s40 s42 s46 s64 s75))))))
           else if rt = true then k0 (V.gv s101) (V.gn s101 (V.on s99 (V.bYldB s18 s23 s27 s32 s33 s67 s69 s72 s49 s54 s60 s104))) else k0 (V.gv s103) (V.gn s103 (V.on s102 (V.on s86 (V.on s76 (V.bYldB s18 s23 s27 s32 s33 s67 s69 s72 s49 s54 s60 (V.bSpdB s18 s40 s42 s46 s64 s104))))))
         else none
   else none
theorem rwrate_eq {α:Type} (bad:Bool) (ra:Int) (rb:Int) (wx:Int) (wy:Int) (wz:Int) (aax:Int) (aay:Int) (aaz:Int) (abx:Int) (aby:Int) (abz:Int) (rt:Bool) (goal:Int) (low:Int) (high:Int) (rof:Int) (rub:Int) (rsum:Int) (l:List L31) (v0:Value) (Q:SV → Hp → Option α):callI E look_bdspin (exec E look_bdspin noLps 400) 9 ([SV.ptr (nat_lit 0) (nat_lit 0),SV.agg [SV.int .i64 ra,SV.int .i64 rb,SV.int .i64 wx,SV.int .i64 wy,SV.int .i64 wz,SV.int .i64 aax,SV.int .i64 aay,SV.int .i64 aaz,SV.int .i64 abx,SV.int .i64 aby,SV.int .i64 abz,SV.bool rt,SV.int .i64 goal,SV.int .i64 low,SV.int .i64 high,SV.int .i64 rof,SV.int .i64 rub,SV.int .i64 rsum],
 SV.ros v0
   kBy
   l]) ([.cells [SV.bool bad] (nat_lit 27)]) Q = M.rwrate bad ra rb wx wy wz aax aay aaz abx aby abz rt goal low high rof rub rsum l (fun (x105:Int) (x106:Bool) => Q (SV.int .i64 x105) ([.cells [SV.bool x106] (nat_lit 27)])) := by kernel_rfl
def rwrate_sp:List AS := [.ptr 27 [.bool false],.val (.agg [.int .i64 0,.int .i64 0,.int .i64 0,.int .i64 0,.int .i64 0,.int .i64 0,.int .i64 0,.int .i64 0,.int .i64 0,.int .i64 0,.int .i64 0,.bool false,.int .i64 0,.int .i64 0,.int .i64 0,.int .i64 0,.int .i64 0,.int .i64 0]),.ro (.st (.i .i64) [.i .i64,.i .i64,.i .i64,.i .i64,.i .i64,.i .i64,.i .i64,.i .i64,.i .i64,.i .i64,.i .i64,.i .i64,.i .i64,.i .i64,.i .i64,.i .i64,.i .i64,.i .i64,.i .i64,.i .i64,.i .i64,.i .i64,.p,.i .i64,.i .i64,.i .i64,.b,.i .i64,.b,.b])]
theorem rwrate_v {α:Type} (bad:Bool) (ra:Int) (rb:Int) (wx:Int) (wy:Int) (wz:Int) (aax:Int) (aay:Int) (aaz:Int) (abx:Int) (aby:Int) (abz:Int) (rt:Bool) (goal:Int) (low:Int) (high:Int) (rof:Int) (rub:Int) (rsum:Int) (l:List L31) (k0:Int → Bool → Option α):M.rwrate bad ra rb wx wy wz aax aay aaz abx aby abz rt goal low high rof rub rsum l k0 = k0 (V.rate (wx,wy,wz) rt (aax,aay,aaz) (abx,aby,abz) (V.bAt l ra) (V.bAt l rb)) (V.rateB (wx,wy,wz) rt (aax,aay,aaz) (abx,aby,abz) (V.bAt l ra) (V.bAt l rb) bad) := by
 have ca:∀ r:Int,(cLt r 0 = true ∧ True ∧ True) ∨ (cLt r 0 = false ∧ cLe (l.length:Int) r = true ∧ True) ∨ (cLt r 0 = false ∧ cLe (l.length:Int) r = false ∧ (0 ≤ r ∧ r < (l.length:Int))) := fun r => by
   simp only [cLt_eq,cLe_eq,decide_eq_true_eq,decide_eq_false_iff_not,and_true]; omega
 unfold M.rwrate V.rate V.rateB V.bAt V.eSp V.eSpB V.bw V.bwB V.bv V.bvB V.byl V.bylB
 rcases ca ra with ⟨a1,a2,a3⟩ | ⟨a1,a2,a3⟩ | ⟨a1,a2,a3⟩ <;> rcases ca rb with ⟨b1,b2,b3⟩ | ⟨b1,b2,b3⟩ | ⟨b1,b2,b3⟩ <;> cases rt
 all_goals
   simp only [a1,a2,a3,b1,b2,b3,and_self,if_true,Bool.false_eq_true,if_false] <;> first
     | rfl
     | (cases cEq (List.getD l ra.toNat zBy).1 2 <;> first | rfl | (cases cEq (List.getD l rb.toNat zBy).1 2 <;> rfl))
     | (cases cEq (List.getD l rb.toNat zBy).1 2 <;> rfl)
noncomputable def rwrate_h {α:Type} (ds:List D) (Q:SV → Hp → Option α):Option α :=
 dB ds fun bad ds => dI ds fun ra ds => dI ds fun rb ds => dI ds fun wx ds => dI ds fun wy ds => dI ds fun wz ds => dI ds fun aax ds => dI ds fun aay ds => dI ds fun aaz ds => dI ds fun abx ds => dI ds fun aby ds => dI ds fun abz ds => dB ds fun rt ds => dI ds fun goal ds => dI ds fun low ds => dI ds fun high ds => dI ds fun rof ds => dI ds fun rub ds => dI ds fun rsum ds => dL kBy ds fun l ds => dE ds (Q (.int .i64 (V.rate (wx,wy,wz) rt (aax,aay,aaz) (abx,aby,abz) (V.bAt l ra) (V.bAt l rb))) ([.cells [.bool (V.rateB (wx,wy,wz) rt (aax,aay,aaz) (abx,aby,abz) (V.bAt l ra) (V.bAt l rb) bad)] 27]))
theorem rwrate_h_ok {α:Type}:FnOk E.P 9 (fEnt (α := α) rwrate_sp rwrate_h) :=
 fEntR_ok E (look_bdspin_ok) (exec_sound E E_ok (look_bdspin_ok) (noLps_ok _) 400) fun ds Q r h => by
   unfold rwrate_h at h
   obtain ⟨bad,ds,rfl,h1⟩ := dB_inv h
   obtain ⟨ra,ds,rfl,h2⟩ := dI_inv h1
   obtain ⟨rb,ds,rfl,h3⟩ := dI_inv h2
   obtain ⟨wx,ds,rfl,h4⟩ := dI_inv h3
   obtain ⟨wy,ds,rfl,h5⟩ := dI_inv h4
   obtain ⟨wz,ds,rfl,h6⟩ := dI_inv h5
   obtain ⟨aax,ds,rfl,h7⟩ := dI_inv h6
   obtain ⟨aay,ds,rfl,h8⟩ := dI_inv h7
   obtain ⟨aaz,ds,rfl,h9⟩ := dI_inv h8
   obtain ⟨abx,ds,rfl,h10⟩ := dI_inv h9
   obtain ⟨aby,ds,rfl,h11⟩ := dI_inv h10
   obtain ⟨abz,ds,rfl,h12⟩ := dI_inv h11
   obtain ⟨rt,ds,rfl,h13⟩ := dB_inv h12
   obtain ⟨goal,ds,rfl,h14⟩ := dI_inv h13
   obtain ⟨low,ds,rfl,h15⟩ := dI_inv h14
   obtain ⟨high,ds,rfl,h16⟩ := dI_inv h15
   obtain ⟨rof,ds,rfl,h17⟩ := dI_inv h16
   obtain ⟨rub,ds,rfl,h18⟩ := dI_inv h17
   obtain ⟨rsum,ds,rfl,h19⟩ := dI_inv h18
   obtain ⟨l,ds,rfl,h20⟩ := dL_inv h19
   obtain ⟨rfl,hE⟩ := dE_inv h20
   exact ⟨_,_,hE,fun vs => ⟨_,_,by kernel_rfl,(rwrate_eq bad ra rb wx wy wz aax aay aaz abx aby abz rt goal low high rof rub rsum l (vs.tail.tail.headD undef) _).trans (rwrate_v bad ra rb wx wy wz aax aay aaz abx aby abz rt goal low high rof rub rsum l _)⟩⟩
noncomputable def look_rwrate {α:Type}:LookF α := addFn 9 (fEnt rwrate_sp rwrate_h) look_bdspin
theorem look_rwrate_ok {α:Type}:LookOk E.P (look_rwrate (α := α)) := addFn_ok rwrate_h_ok (look_bdspin_ok)
end
end Go.Proofs.YtfkgmidgdpfnkaaGreat.Sx
