/-
  No cell of these rows narrows 'for every input' (looked for: loops, veiled, ifaces, maps, wideKeys, modest, calm, conditions, laid).
  DERIVED. THE GIVEN ROWS OF THIS SEAT. 5 by the template 'for every input the law returns true; each argument reads behind the call as it read before'; 0 by the template 'total and deterministic' (their statements: YtfkgmidgdpfnkaaGreatTotals.lean).
  GIVEN WITH THE SEED: the statements are not yours to turn. If you find one false, say at which input.
  Laid BY PROGRAM, IN A SANDBOX (cutbox-rows.mjs): the forced cells as the released guide's own fill.sh prints them over the translation 75d16547bbd5bef0… (all of the seat's roots in one cut). By AI agents, Wed Nov 11 2026. No macro, syntax, notation, axiom, sorry.
-/
import Derived.Test.YtfkgmidgdpfnkaaGreatChecked
import GoSem.Claim
import GoSem.ClaimJoined
import GoSem.ClaimMapViews
import Derived.JoinedTies
import Derived.KernelRfl
namespace Go.Proofs.YtfkgmidgdpfnkaaGreat
/- THE CELL 'sum', in the pinned program and in every row, IS THE sha256 OF THE DUMP (.gsa) THAT YtfkgmidgdpfnkaaGreatProg.lean LOADS. Nothing in Lean hashes anything: it is a label: what it is worth is what the hold of that sum in a sandbox is worth. -/
noncomputable def Tryz.pinned : Pinned := { name := "ytfkgmidgdpfnkaagreat", sum := "75d16547bbd5bef0f0bd943bc07a250cad14bc787698bde7cc7f9ccd5e46e8a8", checked := Tryz.checked }
namespace Rows
def none {H : Type} : Left H := { results := [], args := [] }

/-- 'tumblerlaw13.RowTells': WHATEVER THE INPUT: true; the input reads as it did. -/
def rowTellsSpec : ChangeSpec := { name := "rowTells", fn := fun _ => fun
  | [d1, d2, d3] => { results := [.lit (.bool true)], args := [d1, d2, d3] }
  | _ => none }
def rowTellsRow : OpenClaim := { program := "ytfkgmidgdpfnkaagreat", sum := "75d16547bbd5bef0f0bd943bc07a250cad14bc787698bde7cc7f9ccd5e46e8a8", func := "tumbler/tumblerlaw13.RowTells", spec := "rowTells", inPlace := ["math/bits.Add64", "math/bits.Sub64"], unfollowed := true, recurses := true, named := ["math/bits.divideError", "math/bits.overflowError"], apart := false }
def RowTellsSaid : Prop := rowTellsRow.holds Tryz.pinned (OpenSpec.ofChange rowTellsSpec)

/-- ITS FALSE NEIGHBOUR: 'it returns false'. Refute it at one input. -/
def rowTellsWrong : ChangeSpec := { name := "rowTells", fn := fun _ => fun
  | [d1, d2, d3] => { results := [.lit (.bool false)], args := [d1, d2, d3] }
  | _ => none }
def RowTellsWrongFalsely : Prop := rowTellsRow.holds Tryz.pinned (OpenSpec.ofChange rowTellsWrong)

/-- 'tumblerlaw13.RowRight': WHATEVER THE INPUT: true; the input reads as it did. -/
def rowRightSpec : ChangeSpec := { name := "rowRight", fn := fun _ => fun
  | [d1, d2] => { results := [.lit (.bool true)], args := [d1, d2] }
  | _ => none }
def rowRightRow : OpenClaim := { program := "ytfkgmidgdpfnkaagreat", sum := "75d16547bbd5bef0f0bd943bc07a250cad14bc787698bde7cc7f9ccd5e46e8a8", func := "tumbler/tumblerlaw13.RowRight", spec := "rowRight", inPlace := ["math/bits.Add64", "math/bits.Sub64"], unfollowed := true, recurses := true, named := ["math/bits.divideError", "math/bits.overflowError"], apart := false }
def RowRightSaid : Prop := rowRightRow.holds Tryz.pinned (OpenSpec.ofChange rowRightSpec)

/-- ITS FALSE NEIGHBOUR: 'it returns false'. Refute it at one input. -/
def rowRightWrong : ChangeSpec := { name := "rowRight", fn := fun _ => fun
  | [d1, d2] => { results := [.lit (.bool false)], args := [d1, d2] }
  | _ => none }
def RowRightWrongFalsely : Prop := rowRightRow.holds Tryz.pinned (OpenSpec.ofChange rowRightWrong)

/-- 'tumblerlaw13.RowKeeps': WHATEVER THE INPUT: true; the input reads as it did. -/
def rowKeepsSpec : ChangeSpec := { name := "rowKeeps", fn := fun _ => fun
  | [d1, d2, d3] => { results := [.lit (.bool true)], args := [d1, d2, d3] }
  | _ => none }
def rowKeepsRow : OpenClaim := { program := "ytfkgmidgdpfnkaagreat", sum := "75d16547bbd5bef0f0bd943bc07a250cad14bc787698bde7cc7f9ccd5e46e8a8", func := "tumbler/tumblerlaw13.RowKeeps", spec := "rowKeeps", inPlace := ["math/bits.Add64", "math/bits.Sub64"], unfollowed := true, recurses := true, named := ["math/bits.divideError", "math/bits.overflowError"], apart := false }
def RowKeepsSaid : Prop := rowKeepsRow.holds Tryz.pinned (OpenSpec.ofChange rowKeepsSpec)

/-- ITS FALSE NEIGHBOUR: 'it returns false'. Refute it at one input. -/
def rowKeepsWrong : ChangeSpec := { name := "rowKeeps", fn := fun _ => fun
  | [d1, d2, d3] => { results := [.lit (.bool false)], args := [d1, d2, d3] }
  | _ => none }
def RowKeepsWrongFalsely : Prop := rowKeepsRow.holds Tryz.pinned (OpenSpec.ofChange rowKeepsWrong)

/-- 'tumblerlaw13.RowRests': WHATEVER THE INPUT: true; the input reads as it did. -/
def rowRestsSpec : ChangeSpec := { name := "rowRests", fn := fun _ => fun
  | [d1, d2] => { results := [.lit (.bool true)], args := [d1, d2] }
  | _ => none }
def rowRestsRow : OpenClaim := { program := "ytfkgmidgdpfnkaagreat", sum := "75d16547bbd5bef0f0bd943bc07a250cad14bc787698bde7cc7f9ccd5e46e8a8", func := "tumbler/tumblerlaw13.RowRests", spec := "rowRests", inPlace := ["math/bits.Add64", "math/bits.Sub64"], unfollowed := true, recurses := true, named := ["math/bits.divideError", "math/bits.overflowError"], apart := false }
def RowRestsSaid : Prop := rowRestsRow.holds Tryz.pinned (OpenSpec.ofChange rowRestsSpec)

/-- ITS FALSE NEIGHBOUR: 'it returns false'. Refute it at one input. -/
def rowRestsWrong : ChangeSpec := { name := "rowRests", fn := fun _ => fun
  | [d1, d2] => { results := [.lit (.bool false)], args := [d1, d2] }
  | _ => none }
def RowRestsWrongFalsely : Prop := rowRestsRow.holds Tryz.pinned (OpenSpec.ofChange rowRestsWrong)

/-- 'tumblerlaw13.RowAlong': WHATEVER THE INPUT: true; the input reads as it did. -/
def rowAlongSpec : ChangeSpec := { name := "rowAlong", fn := fun _ => fun
  | [d1, d2] => { results := [.lit (.bool true)], args := [d1, d2] }
  | _ => none }
def rowAlongRow : OpenClaim := { program := "ytfkgmidgdpfnkaagreat", sum := "75d16547bbd5bef0f0bd943bc07a250cad14bc787698bde7cc7f9ccd5e46e8a8", func := "tumbler/tumblerlaw13.RowAlong", spec := "rowAlong", inPlace := ["math/bits.Add64", "math/bits.Sub64"], unfollowed := true, recurses := true, named := ["math/bits.divideError", "math/bits.overflowError"], apart := false }
def RowAlongSaid : Prop := rowAlongRow.holds Tryz.pinned (OpenSpec.ofChange rowAlongSpec)

/-- ITS FALSE NEIGHBOUR: 'it returns false'. Refute it at one input. -/
def rowAlongWrong : ChangeSpec := { name := "rowAlong", fn := fun _ => fun
  | [d1, d2] => { results := [.lit (.bool false)], args := [d1, d2] }
  | _ => none }
def RowAlongWrongFalsely : Prop := rowAlongRow.holds Tryz.pinned (OpenSpec.ofChange rowAlongWrong)

/- THE SECOND FORM. 'bulk': how many values and letters a reading holds, each counted each time it is reached (what is shared counts as often as it is met; a slice's spare places count too). A statement '..UptoSaid' is the law's where the arguments, and the package variables that the reading takes, are together of bulk at most 1048576: NARROWER than '..Said'. Prove '..Said' where nothing that the law and all that it calls make is longer than what came in: it says more and counts as full. Else prove '..UptoSaid'. A law counts once. -/
mutual
def uptoBulk {H : Type} : DataW H → Nat
  | .lit (.string bytes) => bytes.length + 1
  | .lit _ => 1
  | .nil => 1
  | .ptr d => uptoBulk d + 1
  | .slice elems spare => uptoBulkAll elems + uptoBulkAll spare + 1
  | .agg parts => uptoBulkAll parts + 1
  | .iface _ d => uptoBulk d + 1
  | .map entries => uptoBulkEntries entries + 1
  | .held _ => 1
def uptoBulkAll {H : Type} : List (DataW H) → Nat
  | [] => 0
  | d :: r => uptoBulk d + uptoBulkAll r
def uptoBulkEntries {H : Type} : List (Lit × DataW H) → Nat
  | [] => 0
  | x :: r => uptoBulkEntry x + uptoBulkEntries r
def uptoBulkEntry {H : Type} : Lit × DataW H → Nat
  | (.string bytes, d) => bytes.length + uptoBulk d + 1
  | (_, d) => uptoBulk d + 1
 end
def uptoSmall : (H : Type) → List (DataW H) → Bool := fun _ ds => decide (uptoBulkAll ds ≤ 1048576)
def OpenSpec.upto (s : _root_.Go.ChangeSpec) : _root_.Go.OpenSpec := { _root_.Go.OpenSpec.ofChange s with cond := some uptoSmall }

/-- 'tumblerlaw13.RowTells', WHERE WHAT IT READS IS OF BULK AT MOST 1048576: true; the input reads as it did. -/
def rowTellsUptoRow : OpenClaim := { program := "ytfkgmidgdpfnkaagreat", sum := "75d16547bbd5bef0f0bd943bc07a250cad14bc787698bde7cc7f9ccd5e46e8a8", func := "tumbler/tumblerlaw13.RowTells", spec := "rowTells", inPlace := ["math/bits.Add64", "math/bits.Sub64"], unfollowed := true, recurses := true, named := ["math/bits.divideError", "math/bits.overflowError"], apart := false, narrowed := true }
def RowTellsUptoSaid : Prop := rowTellsUptoRow.holds Tryz.pinned (OpenSpec.upto rowTellsSpec)

/-- 'tumblerlaw13.RowRight', WHERE WHAT IT READS IS OF BULK AT MOST 1048576: true; the input reads as it did. -/
def rowRightUptoRow : OpenClaim := { program := "ytfkgmidgdpfnkaagreat", sum := "75d16547bbd5bef0f0bd943bc07a250cad14bc787698bde7cc7f9ccd5e46e8a8", func := "tumbler/tumblerlaw13.RowRight", spec := "rowRight", inPlace := ["math/bits.Add64", "math/bits.Sub64"], unfollowed := true, recurses := true, named := ["math/bits.divideError", "math/bits.overflowError"], apart := false, narrowed := true }
def RowRightUptoSaid : Prop := rowRightUptoRow.holds Tryz.pinned (OpenSpec.upto rowRightSpec)

/-- 'tumblerlaw13.RowKeeps', WHERE WHAT IT READS IS OF BULK AT MOST 1048576: true; the input reads as it did. -/
def rowKeepsUptoRow : OpenClaim := { program := "ytfkgmidgdpfnkaagreat", sum := "75d16547bbd5bef0f0bd943bc07a250cad14bc787698bde7cc7f9ccd5e46e8a8", func := "tumbler/tumblerlaw13.RowKeeps", spec := "rowKeeps", inPlace := ["math/bits.Add64", "math/bits.Sub64"], unfollowed := true, recurses := true, named := ["math/bits.divideError", "math/bits.overflowError"], apart := false, narrowed := true }
def RowKeepsUptoSaid : Prop := rowKeepsUptoRow.holds Tryz.pinned (OpenSpec.upto rowKeepsSpec)

/-- 'tumblerlaw13.RowRests', WHERE WHAT IT READS IS OF BULK AT MOST 1048576: true; the input reads as it did. -/
def rowRestsUptoRow : OpenClaim := { program := "ytfkgmidgdpfnkaagreat", sum := "75d16547bbd5bef0f0bd943bc07a250cad14bc787698bde7cc7f9ccd5e46e8a8", func := "tumbler/tumblerlaw13.RowRests", spec := "rowRests", inPlace := ["math/bits.Add64", "math/bits.Sub64"], unfollowed := true, recurses := true, named := ["math/bits.divideError", "math/bits.overflowError"], apart := false, narrowed := true }
def RowRestsUptoSaid : Prop := rowRestsUptoRow.holds Tryz.pinned (OpenSpec.upto rowRestsSpec)

/-- 'tumblerlaw13.RowAlong', WHERE WHAT IT READS IS OF BULK AT MOST 1048576: true; the input reads as it did. -/
def rowAlongUptoRow : OpenClaim := { program := "ytfkgmidgdpfnkaagreat", sum := "75d16547bbd5bef0f0bd943bc07a250cad14bc787698bde7cc7f9ccd5e46e8a8", func := "tumbler/tumblerlaw13.RowAlong", spec := "rowAlong", inPlace := ["math/bits.Add64", "math/bits.Sub64"], unfollowed := true, recurses := true, named := ["math/bits.divideError", "math/bits.overflowError"], apart := false, narrowed := true }
def RowAlongUptoSaid : Prop := rowAlongUptoRow.holds Tryz.pinned (OpenSpec.upto rowAlongSpec)

end Rows
end Go.Proofs.YtfkgmidgdpfnkaaGreat
