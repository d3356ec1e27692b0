/-
  No cell of these rows narrows 'for every input' (looked for: loops, veiled, ifaces, maps, wideKeys, modest, calm, conditions, laid).
  DERIVED. THE GIVEN ROWS OF THIS SEAT. 4 by the template 'for every input the law returns true; each argument reads behind the call as it read before'; 0 by the template 'total and deterministic' (their statements: YtajomehkgaamoaaTotals.lean).
  GIVEN WITH THE SEED: the statements are not yours to turn. If you find one false, say at which input.
  Laid BY PROGRAM, IN A SANDBOX (cutbox-rows.mjs): the forced cells as the released guide's own fill.sh prints them over the translation d78ab1e00b37733a… (all of the seat's roots in one cut). By AI agents, Wed Nov 11 2026. No macro, syntax, notation, axiom, sorry.
-/
import Derived.Test.YtajomehkgaamoaaChecked
import GoSem.Claim
import GoSem.ClaimJoined
import GoSem.ClaimMapViews
import Derived.JoinedTies
import Derived.KernelRfl
namespace Go.Proofs.Ytajomehkgaamoaa
/- THE CELL 'sum', in the pinned program and in every row, IS THE sha256 OF THE DUMP (.gsa) THAT YtajomehkgaamoaaProg.lean LOADS. Nothing in Lean hashes anything: it is a label: what it is worth is what the hold of that sum in a sandbox is worth. -/
noncomputable def Try.pinned : Pinned := { name := "ytajomehkgaamoaa", sum := "d78ab1e00b37733a23985950fef16d443a0f671a732bed02e7306a4e9573eb62", checked := Try.checked }
namespace Rows
def none {H : Type} : Left H := { results := [], args := [] }

/-- 'tumblerlaw16.ChainPrefix': WHATEVER THE INPUT: true; the input reads as it did. -/
def chainPrefixSpec : ChangeSpec := { name := "chainPrefix", fn := fun _ => fun
  | [d1, d2, d3, d4] => { results := [.lit (.bool true)], args := [d1, d2, d3, d4] }
  | _ => none }
def chainPrefixRow : OpenClaim := { program := "ytajomehkgaamoaa", sum := "d78ab1e00b37733a23985950fef16d443a0f671a732bed02e7306a4e9573eb62", func := "tumbler/tumblerlaw16.ChainPrefix", spec := "chainPrefix", inPlace := ["math/bits.Add64", "math/bits.Sub64"], unfollowed := true, recurses := true, named := ["math/bits.divideError", "math/bits.overflowError"], apart := false }
def ChainPrefixSaid : Prop := chainPrefixRow.holds Try.pinned (OpenSpec.ofChange chainPrefixSpec)

/-- ITS FALSE NEIGHBOUR: 'it returns false'. Refute it at one input. -/
def chainPrefixWrong : ChangeSpec := { name := "chainPrefix", fn := fun _ => fun
  | [d1, d2, d3, d4] => { results := [.lit (.bool false)], args := [d1, d2, d3, d4] }
  | _ => none }
def ChainPrefixWrongFalsely : Prop := chainPrefixRow.holds Try.pinned (OpenSpec.ofChange chainPrefixWrong)

/-- 'tumblerlaw16.ChainCarries': WHATEVER THE INPUT: true; the input reads as it did. -/
def chainCarriesSpec : ChangeSpec := { name := "chainCarries", fn := fun _ => fun
  | [d1, d2] => { results := [.lit (.bool true)], args := [d1, d2] }
  | _ => none }
def chainCarriesRow : OpenClaim := { program := "ytajomehkgaamoaa", sum := "d78ab1e00b37733a23985950fef16d443a0f671a732bed02e7306a4e9573eb62", func := "tumbler/tumblerlaw16.ChainCarries", spec := "chainCarries", inPlace := ["math/bits.Add64", "math/bits.Sub64"], unfollowed := true, recurses := true, named := ["math/bits.divideError", "math/bits.overflowError"], apart := false }
def ChainCarriesSaid : Prop := chainCarriesRow.holds Try.pinned (OpenSpec.ofChange chainCarriesSpec)

/-- ITS FALSE NEIGHBOUR: 'it returns false'. Refute it at one input. -/
def chainCarriesWrong : ChangeSpec := { name := "chainCarries", fn := fun _ => fun
  | [d1, d2] => { results := [.lit (.bool false)], args := [d1, d2] }
  | _ => none }
def ChainCarriesWrongFalsely : Prop := chainCarriesRow.holds Try.pinned (OpenSpec.ofChange chainCarriesWrong)

/-- 'tumblerlaw16.ChainStill': WHATEVER THE INPUT: true; the input reads as it did. -/
def chainStillSpec : ChangeSpec := { name := "chainStill", fn := fun _ => fun
  | [d] => { results := [.lit (.bool true)], args := [d] }
  | _ => none }
def chainStillRow : OpenClaim := { program := "ytajomehkgaamoaa", sum := "d78ab1e00b37733a23985950fef16d443a0f671a732bed02e7306a4e9573eb62", func := "tumbler/tumblerlaw16.ChainStill", spec := "chainStill", inPlace := ["math/bits.Add64", "math/bits.Sub64"], unfollowed := true, recurses := true, named := ["math/bits.divideError", "math/bits.overflowError"], apart := false }
def ChainStillSaid : Prop := chainStillRow.holds Try.pinned (OpenSpec.ofChange chainStillSpec)

/-- ITS FALSE NEIGHBOUR: 'it returns false'. Refute it at one input. -/
def chainStillWrong : ChangeSpec := { name := "chainStill", fn := fun _ => fun
  | [d] => { results := [.lit (.bool false)], args := [d] }
  | _ => none }
def ChainStillWrongFalsely : Prop := chainStillRow.holds Try.pinned (OpenSpec.ofChange chainStillWrong)

/-- 'tumblerlaw16.ChainMoved': WHATEVER THE INPUT: true; the input reads as it did. -/
def chainMovedSpec : ChangeSpec := { name := "chainMoved", fn := fun _ => fun
  | [d1, d2, d3] => { results := [.lit (.bool true)], args := [d1, d2, d3] }
  | _ => none }
def chainMovedRow : OpenClaim := { program := "ytajomehkgaamoaa", sum := "d78ab1e00b37733a23985950fef16d443a0f671a732bed02e7306a4e9573eb62", func := "tumbler/tumblerlaw16.ChainMoved", spec := "chainMoved", inPlace := ["math/bits.Add64", "math/bits.Sub64"], unfollowed := true, recurses := true, named := ["math/bits.divideError", "math/bits.overflowError"], apart := false }
def ChainMovedSaid : Prop := chainMovedRow.holds Try.pinned (OpenSpec.ofChange chainMovedSpec)

/-- ITS FALSE NEIGHBOUR: 'it returns false'. Refute it at one input. -/
def chainMovedWrong : ChangeSpec := { name := "chainMoved", fn := fun _ => fun
  | [d1, d2, d3] => { results := [.lit (.bool false)], args := [d1, d2, d3] }
  | _ => none }
def ChainMovedWrongFalsely : Prop := chainMovedRow.holds Try.pinned (OpenSpec.ofChange chainMovedWrong)

/- THE SECOND FORM. 'bulk': how many values and letters a reading holds, each counted each time it is reached (what is shared counts as often as it is met; a slice's spare places count too). A statement '..UptoSaid' is the law's where the arguments, and the package variables that the reading takes, are together of bulk at most 1048576: NARROWER than '..Said'. Prove '..Said' where nothing that the law and all that it calls make is longer than what came in: it says more and counts as full. Else prove '..UptoSaid'. A law counts once. -/
mutual
def uptoBulk {H : Type} : DataW H → Nat
  | .lit (.string bytes) => bytes.length + 1
  | .lit _ => 1
  | .nil => 1
  | .ptr d => uptoBulk d + 1
  | .slice elems spare => uptoBulkAll elems + uptoBulkAll spare + 1
  | .agg parts => uptoBulkAll parts + 1
  | .iface _ d => uptoBulk d + 1
  | .map entries => uptoBulkEntries entries + 1
  | .held _ => 1
def uptoBulkAll {H : Type} : List (DataW H) → Nat
  | [] => 0
  | d :: r => uptoBulk d + uptoBulkAll r
def uptoBulkEntries {H : Type} : List (Lit × DataW H) → Nat
  | [] => 0
  | x :: r => uptoBulkEntry x + uptoBulkEntries r
def uptoBulkEntry {H : Type} : Lit × DataW H → Nat
  | (.string bytes, d) => bytes.length + uptoBulk d + 1
  | (_, d) => uptoBulk d + 1
 end
def uptoSmall : (H : Type) → List (DataW H) → Bool := fun _ ds => decide (uptoBulkAll ds ≤ 1048576)
def OpenSpec.upto (s : _root_.Go.ChangeSpec) : _root_.Go.OpenSpec := { _root_.Go.OpenSpec.ofChange s with cond := some uptoSmall }

/-- 'tumblerlaw16.ChainPrefix', WHERE WHAT IT READS IS OF BULK AT MOST 1048576: true; the input reads as it did. -/
def chainPrefixUptoRow : OpenClaim := { program := "ytajomehkgaamoaa", sum := "d78ab1e00b37733a23985950fef16d443a0f671a732bed02e7306a4e9573eb62", func := "tumbler/tumblerlaw16.ChainPrefix", spec := "chainPrefix", inPlace := ["math/bits.Add64", "math/bits.Sub64"], unfollowed := true, recurses := true, named := ["math/bits.divideError", "math/bits.overflowError"], apart := false, narrowed := true }
def ChainPrefixUptoSaid : Prop := chainPrefixUptoRow.holds Try.pinned (OpenSpec.upto chainPrefixSpec)

/-- 'tumblerlaw16.ChainCarries', WHERE WHAT IT READS IS OF BULK AT MOST 1048576: true; the input reads as it did. -/
def chainCarriesUptoRow : OpenClaim := { program := "ytajomehkgaamoaa", sum := "d78ab1e00b37733a23985950fef16d443a0f671a732bed02e7306a4e9573eb62", func := "tumbler/tumblerlaw16.ChainCarries", spec := "chainCarries", inPlace := ["math/bits.Add64", "math/bits.Sub64"], unfollowed := true, recurses := true, named := ["math/bits.divideError", "math/bits.overflowError"], apart := false, narrowed := true }
def ChainCarriesUptoSaid : Prop := chainCarriesUptoRow.holds Try.pinned (OpenSpec.upto chainCarriesSpec)

/-- 'tumblerlaw16.ChainStill', WHERE WHAT IT READS IS OF BULK AT MOST 1048576: true; the input reads as it did. -/
def chainStillUptoRow : OpenClaim := { program := "ytajomehkgaamoaa", sum := "d78ab1e00b37733a23985950fef16d443a0f671a732bed02e7306a4e9573eb62", func := "tumbler/tumblerlaw16.ChainStill", spec := "chainStill", inPlace := ["math/bits.Add64", "math/bits.Sub64"], unfollowed := true, recurses := true, named := ["math/bits.divideError", "math/bits.overflowError"], apart := false, narrowed := true }
def ChainStillUptoSaid : Prop := chainStillUptoRow.holds Try.pinned (OpenSpec.upto chainStillSpec)

/-- 'tumblerlaw16.ChainMoved', WHERE WHAT IT READS IS OF BULK AT MOST 1048576: true; the input reads as it did. -/
def chainMovedUptoRow : OpenClaim := { program := "ytajomehkgaamoaa", sum := "d78ab1e00b37733a23985950fef16d443a0f671a732bed02e7306a4e9573eb62", func := "tumbler/tumblerlaw16.ChainMoved", spec := "chainMoved", inPlace := ["math/bits.Add64", "math/bits.Sub64"], unfollowed := true, recurses := true, named := ["math/bits.divideError", "math/bits.overflowError"], apart := false, narrowed := true }
def ChainMovedUptoSaid : Prop := chainMovedUptoRow.holds Try.pinned (OpenSpec.upto chainMovedSpec)

end Rows
end Go.Proofs.Ytajomehkgaamoaa
