/-
  No cell of these rows narrows 'for every input' (looked for: loops, veiled, ifaces, maps, wideKeys, modest, calm, conditions, laid).
  DERIVED. THE GIVEN ROWS OF THIS SEAT. 9 by the template 'for every input the law returns true; each argument reads behind the call as it read before'; 0 by the template 'total and deterministic' (their statements: YtdkkbbpmjpcfkaaTotals.lean).
  GIVEN WITH THE SEED: the statements are not yours to turn. If you find one false, say at which input.
  Laid BY PROGRAM, IN A SANDBOX (cutbox-rows.mjs): the forced cells as the released guide's own fill.sh prints them over the translation 779ef679c4977523… (all of the seat's roots in one cut). By AI agents, Wed Nov 11 2026. No macro, syntax, notation, axiom, sorry.
-/
import Derived.Test.YtdkkbbpmjpcfkaaChecked
import GoSem.Claim
import GoSem.ClaimJoined
import GoSem.ClaimMapViews
import Derived.JoinedTies
import Derived.KernelRfl
namespace Go.Proofs.Ytdkkbbpmjpcfkaa
/- THE CELL 'sum', in the pinned program and in every row, IS THE sha256 OF THE DUMP (.gsa) THAT YtdkkbbpmjpcfkaaProg.lean LOADS. Nothing in Lean hashes anything: it is a label: what it is worth is what the hold of that sum in a sandbox is worth. -/
noncomputable def Try.pinned : Pinned := { name := "ytdkkbbpmjpcfkaa", sum := "779ef679c4977523ee3b150f9c4e92373a138bfbe47e8d224a147ae92bdc2459", checked := Try.checked }
namespace Rows
def none {H : Type} : Left H := { results := [], args := [] }

/-- 'tumblerlaw01.FxRatios': WHATEVER THE INPUT: true; the input reads as it did. -/
def fxRatiosSpec : ChangeSpec := { name := "fxRatios", fn := fun _ => fun
  | [d1, d2, d3] => { results := [.lit (.bool true)], args := [d1, d2, d3] }
  | _ => none }
def fxRatiosRow : OpenClaim := { program := "ytdkkbbpmjpcfkaa", sum := "779ef679c4977523ee3b150f9c4e92373a138bfbe47e8d224a147ae92bdc2459", func := "tumbler/tumblerlaw01.FxRatios", spec := "fxRatios", inPlace := ["math/bits.Sub64", "math/bits.Add64"], named := ["math/bits.divideError", "math/bits.overflowError"], apart := false }
def FxRatiosSaid : Prop := fxRatiosRow.holds Try.pinned (OpenSpec.ofChange fxRatiosSpec)

/-- ITS FALSE NEIGHBOUR: 'it returns false'. Refute it at one input. -/
def fxRatiosWrong : ChangeSpec := { name := "fxRatios", fn := fun _ => fun
  | [d1, d2, d3] => { results := [.lit (.bool false)], args := [d1, d2, d3] }
  | _ => none }
def FxRatiosWrongFalsely : Prop := fxRatiosRow.holds Try.pinned (OpenSpec.ofChange fxRatiosWrong)

/-- 'tumblerlaw01.FxScripts': WHATEVER THE INPUT: true; the input reads as it did. -/
def fxScriptsSpec : ChangeSpec := { name := "fxScripts", fn := fun _ => fun
  | [d] => { results := [.lit (.bool true)], args := [d] }
  | _ => none }
def fxScriptsRow : OpenClaim := { program := "ytdkkbbpmjpcfkaa", sum := "779ef679c4977523ee3b150f9c4e92373a138bfbe47e8d224a147ae92bdc2459", func := "tumbler/tumblerlaw01.FxScripts", spec := "fxScripts", inPlace := ["math/bits.Sub64", "math/bits.Add64"], named := ["math/bits.divideError", "math/bits.overflowError"], apart := false }
def FxScriptsSaid : Prop := fxScriptsRow.holds Try.pinned (OpenSpec.ofChange fxScriptsSpec)

/-- ITS FALSE NEIGHBOUR: 'it returns false'. Refute it at one input. -/
def fxScriptsWrong : ChangeSpec := { name := "fxScripts", fn := fun _ => fun
  | [d] => { results := [.lit (.bool false)], args := [d] }
  | _ => none }
def FxScriptsWrongFalsely : Prop := fxScriptsRow.holds Try.pinned (OpenSpec.ofChange fxScriptsWrong)

/-- 'tumblerlaw01.FxFloor': WHATEVER THE INPUT: true; the input reads as it did. -/
def fxFloorSpec : ChangeSpec := { name := "fxFloor", fn := fun _ => fun
  | [d1, d2, d3] => { results := [.lit (.bool true)], args := [d1, d2, d3] }
  | _ => none }
def fxFloorRow : OpenClaim := { program := "ytdkkbbpmjpcfkaa", sum := "779ef679c4977523ee3b150f9c4e92373a138bfbe47e8d224a147ae92bdc2459", func := "tumbler/tumblerlaw01.FxFloor", spec := "fxFloor", inPlace := ["math/bits.Sub64", "math/bits.Add64"], named := ["math/bits.divideError", "math/bits.overflowError"], apart := false }
def FxFloorSaid : Prop := fxFloorRow.holds Try.pinned (OpenSpec.ofChange fxFloorSpec)

/-- ITS FALSE NEIGHBOUR: 'it returns false'. Refute it at one input. -/
def fxFloorWrong : ChangeSpec := { name := "fxFloor", fn := fun _ => fun
  | [d1, d2, d3] => { results := [.lit (.bool false)], args := [d1, d2, d3] }
  | _ => none }
def FxFloorWrongFalsely : Prop := fxFloorRow.holds Try.pinned (OpenSpec.ofChange fxFloorWrong)

/-- 'tumblerlaw01.FxOrder': WHATEVER THE INPUT: true; the input reads as it did. -/
def fxOrderSpec : ChangeSpec := { name := "fxOrder", fn := fun _ => fun
  | [d1, d2, d3] => { results := [.lit (.bool true)], args := [d1, d2, d3] }
  | _ => none }
def fxOrderRow : OpenClaim := { program := "ytdkkbbpmjpcfkaa", sum := "779ef679c4977523ee3b150f9c4e92373a138bfbe47e8d224a147ae92bdc2459", func := "tumbler/tumblerlaw01.FxOrder", spec := "fxOrder", inPlace := ["math/bits.Sub64", "math/bits.Add64"], named := ["math/bits.divideError", "math/bits.overflowError"], apart := false }
def FxOrderSaid : Prop := fxOrderRow.holds Try.pinned (OpenSpec.ofChange fxOrderSpec)

/-- ITS FALSE NEIGHBOUR: 'it returns false'. Refute it at one input. -/
def fxOrderWrong : ChangeSpec := { name := "fxOrder", fn := fun _ => fun
  | [d1, d2, d3] => { results := [.lit (.bool false)], args := [d1, d2, d3] }
  | _ => none }
def FxOrderWrongFalsely : Prop := fxOrderRow.holds Try.pinned (OpenSpec.ofChange fxOrderWrong)

/-- 'tumblerlaw01.FxSums': WHATEVER THE INPUT: true; the input reads as it did. -/
def fxSumsSpec : ChangeSpec := { name := "fxSums", fn := fun _ => fun
  | [d1, d2] => { results := [.lit (.bool true)], args := [d1, d2] }
  | _ => none }
def fxSumsRow : OpenClaim := { program := "ytdkkbbpmjpcfkaa", sum := "779ef679c4977523ee3b150f9c4e92373a138bfbe47e8d224a147ae92bdc2459", func := "tumbler/tumblerlaw01.FxSums", spec := "fxSums", inPlace := ["math/bits.Sub64", "math/bits.Add64"], named := ["math/bits.divideError", "math/bits.overflowError"], apart := false }
def FxSumsSaid : Prop := fxSumsRow.holds Try.pinned (OpenSpec.ofChange fxSumsSpec)

/-- ITS FALSE NEIGHBOUR: 'it returns false'. Refute it at one input. -/
def fxSumsWrong : ChangeSpec := { name := "fxSums", fn := fun _ => fun
  | [d1, d2] => { results := [.lit (.bool false)], args := [d1, d2] }
  | _ => none }
def FxSumsWrongFalsely : Prop := fxSumsRow.holds Try.pinned (OpenSpec.ofChange fxSumsWrong)

/-- 'tumblerlaw01.FxDots': WHATEVER THE INPUT: true; the input reads as it did. -/
def fxDotsSpec : ChangeSpec := { name := "fxDots", fn := fun _ => fun
  | [d1, d2] => { results := [.lit (.bool true)], args := [d1, d2] }
  | _ => none }
def fxDotsRow : OpenClaim := { program := "ytdkkbbpmjpcfkaa", sum := "779ef679c4977523ee3b150f9c4e92373a138bfbe47e8d224a147ae92bdc2459", func := "tumbler/tumblerlaw01.FxDots", spec := "fxDots", inPlace := ["math/bits.Sub64", "math/bits.Add64"], named := ["math/bits.divideError", "math/bits.overflowError"], apart := false }
def FxDotsSaid : Prop := fxDotsRow.holds Try.pinned (OpenSpec.ofChange fxDotsSpec)

/-- ITS FALSE NEIGHBOUR: 'it returns false'. Refute it at one input. -/
def fxDotsWrong : ChangeSpec := { name := "fxDots", fn := fun _ => fun
  | [d1, d2] => { results := [.lit (.bool false)], args := [d1, d2] }
  | _ => none }
def FxDotsWrongFalsely : Prop := fxDotsRow.holds Try.pinned (OpenSpec.ofChange fxDotsWrong)

/-- 'tumblerlaw01.FxOnes': WHATEVER THE INPUT: true; the input reads as it did. -/
def fxOnesSpec : ChangeSpec := { name := "fxOnes", fn := fun _ => fun
  | [d1, d2] => { results := [.lit (.bool true)], args := [d1, d2] }
  | _ => none }
def fxOnesRow : OpenClaim := { program := "ytdkkbbpmjpcfkaa", sum := "779ef679c4977523ee3b150f9c4e92373a138bfbe47e8d224a147ae92bdc2459", func := "tumbler/tumblerlaw01.FxOnes", spec := "fxOnes", inPlace := ["math/bits.Sub64", "math/bits.Add64"], named := ["math/bits.divideError", "math/bits.overflowError"], apart := false }
def FxOnesSaid : Prop := fxOnesRow.holds Try.pinned (OpenSpec.ofChange fxOnesSpec)

/-- ITS FALSE NEIGHBOUR: 'it returns false'. Refute it at one input. -/
def fxOnesWrong : ChangeSpec := { name := "fxOnes", fn := fun _ => fun
  | [d1, d2] => { results := [.lit (.bool false)], args := [d1, d2] }
  | _ => none }
def FxOnesWrongFalsely : Prop := fxOnesRow.holds Try.pinned (OpenSpec.ofChange fxOnesWrong)

/-- 'tumblerlaw01.FxTogether': WHATEVER THE INPUT: true; the input reads as it did. -/
def fxTogetherSpec : ChangeSpec := { name := "fxTogether", fn := fun _ => fun
  | [d1, d2] => { results := [.lit (.bool true)], args := [d1, d2] }
  | _ => none }
def fxTogetherRow : OpenClaim := { program := "ytdkkbbpmjpcfkaa", sum := "779ef679c4977523ee3b150f9c4e92373a138bfbe47e8d224a147ae92bdc2459", func := "tumbler/tumblerlaw01.FxTogether", spec := "fxTogether", inPlace := ["math/bits.Sub64", "math/bits.Add64"], named := ["math/bits.divideError", "math/bits.overflowError"], apart := false }
def FxTogetherSaid : Prop := fxTogetherRow.holds Try.pinned (OpenSpec.ofChange fxTogetherSpec)

/-- ITS FALSE NEIGHBOUR: 'it returns false'. Refute it at one input. -/
def fxTogetherWrong : ChangeSpec := { name := "fxTogether", fn := fun _ => fun
  | [d1, d2] => { results := [.lit (.bool false)], args := [d1, d2] }
  | _ => none }
def FxTogetherWrongFalsely : Prop := fxTogetherRow.holds Try.pinned (OpenSpec.ofChange fxTogetherWrong)

/-- 'tumblerlaw01.FxBack': WHATEVER THE INPUT: true; the input reads as it did. -/
def fxBackSpec : ChangeSpec := { name := "fxBack", fn := fun _ => fun
  | [d1, d2, d3] => { results := [.lit (.bool true)], args := [d1, d2, d3] }
  | _ => none }
def fxBackRow : OpenClaim := { program := "ytdkkbbpmjpcfkaa", sum := "779ef679c4977523ee3b150f9c4e92373a138bfbe47e8d224a147ae92bdc2459", func := "tumbler/tumblerlaw01.FxBack", spec := "fxBack", inPlace := ["math/bits.Sub64", "math/bits.Add64"], named := ["math/bits.divideError", "math/bits.overflowError"], apart := false }
def FxBackSaid : Prop := fxBackRow.holds Try.pinned (OpenSpec.ofChange fxBackSpec)

/-- ITS FALSE NEIGHBOUR: 'it returns false'. Refute it at one input. -/
def fxBackWrong : ChangeSpec := { name := "fxBack", fn := fun _ => fun
  | [d1, d2, d3] => { results := [.lit (.bool false)], args := [d1, d2, d3] }
  | _ => none }
def FxBackWrongFalsely : Prop := fxBackRow.holds Try.pinned (OpenSpec.ofChange fxBackWrong)

/- THE SECOND FORM. 'bulk': how many values and letters a reading holds, each counted each time it is reached (what is shared counts as often as it is met; a slice's spare places count too). A statement '..UptoSaid' is the law's where the arguments, and the package variables that the reading takes, are together of bulk at most 1048576: NARROWER than '..Said'. Prove '..Said' where nothing that the law and all that it calls make is longer than what came in: it says more and counts as full. Else prove '..UptoSaid'. A law counts once. -/
mutual
def uptoBulk {H : Type} : DataW H → Nat
  | .lit (.string bytes) => bytes.length + 1
  | .lit _ => 1
  | .nil => 1
  | .ptr d => uptoBulk d + 1
  | .slice elems spare => uptoBulkAll elems + uptoBulkAll spare + 1
  | .agg parts => uptoBulkAll parts + 1
  | .iface _ d => uptoBulk d + 1
  | .map entries => uptoBulkEntries entries + 1
  | .held _ => 1
def uptoBulkAll {H : Type} : List (DataW H) → Nat
  | [] => 0
  | d :: r => uptoBulk d + uptoBulkAll r
def uptoBulkEntries {H : Type} : List (Lit × DataW H) → Nat
  | [] => 0
  | x :: r => uptoBulkEntry x + uptoBulkEntries r
def uptoBulkEntry {H : Type} : Lit × DataW H → Nat
  | (.string bytes, d) => bytes.length + uptoBulk d + 1
  | (_, d) => uptoBulk d + 1
 end
def uptoSmall : (H : Type) → List (DataW H) → Bool := fun _ ds => decide (uptoBulkAll ds ≤ 1048576)
def OpenSpec.upto (s : _root_.Go.ChangeSpec) : _root_.Go.OpenSpec := { _root_.Go.OpenSpec.ofChange s with cond := some uptoSmall }

/-- 'tumblerlaw01.FxRatios', WHERE WHAT IT READS IS OF BULK AT MOST 1048576: true; the input reads as it did. -/
def fxRatiosUptoRow : OpenClaim := { program := "ytdkkbbpmjpcfkaa", sum := "779ef679c4977523ee3b150f9c4e92373a138bfbe47e8d224a147ae92bdc2459", func := "tumbler/tumblerlaw01.FxRatios", spec := "fxRatios", inPlace := ["math/bits.Sub64", "math/bits.Add64"], named := ["math/bits.divideError", "math/bits.overflowError"], apart := false, narrowed := true }
def FxRatiosUptoSaid : Prop := fxRatiosUptoRow.holds Try.pinned (OpenSpec.upto fxRatiosSpec)

/-- 'tumblerlaw01.FxScripts', WHERE WHAT IT READS IS OF BULK AT MOST 1048576: true; the input reads as it did. -/
def fxScriptsUptoRow : OpenClaim := { program := "ytdkkbbpmjpcfkaa", sum := "779ef679c4977523ee3b150f9c4e92373a138bfbe47e8d224a147ae92bdc2459", func := "tumbler/tumblerlaw01.FxScripts", spec := "fxScripts", inPlace := ["math/bits.Sub64", "math/bits.Add64"], named := ["math/bits.divideError", "math/bits.overflowError"], apart := false, narrowed := true }
def FxScriptsUptoSaid : Prop := fxScriptsUptoRow.holds Try.pinned (OpenSpec.upto fxScriptsSpec)

/-- 'tumblerlaw01.FxFloor', WHERE WHAT IT READS IS OF BULK AT MOST 1048576: true; the input reads as it did. -/
def fxFloorUptoRow : OpenClaim := { program := "ytdkkbbpmjpcfkaa", sum := "779ef679c4977523ee3b150f9c4e92373a138bfbe47e8d224a147ae92bdc2459", func := "tumbler/tumblerlaw01.FxFloor", spec := "fxFloor", inPlace := ["math/bits.Sub64", "math/bits.Add64"], named := ["math/bits.divideError", "math/bits.overflowError"], apart := false, narrowed := true }
def FxFloorUptoSaid : Prop := fxFloorUptoRow.holds Try.pinned (OpenSpec.upto fxFloorSpec)

/-- 'tumblerlaw01.FxOrder', WHERE WHAT IT READS IS OF BULK AT MOST 1048576: true; the input reads as it did. -/
def fxOrderUptoRow : OpenClaim := { program := "ytdkkbbpmjpcfkaa", sum := "779ef679c4977523ee3b150f9c4e92373a138bfbe47e8d224a147ae92bdc2459", func := "tumbler/tumblerlaw01.FxOrder", spec := "fxOrder", inPlace := ["math/bits.Sub64", "math/bits.Add64"], named := ["math/bits.divideError", "math/bits.overflowError"], apart := false, narrowed := true }
def FxOrderUptoSaid : Prop := fxOrderUptoRow.holds Try.pinned (OpenSpec.upto fxOrderSpec)

/-- 'tumblerlaw01.FxSums', WHERE WHAT IT READS IS OF BULK AT MOST 1048576: true; the input reads as it did. -/
def fxSumsUptoRow : OpenClaim := { program := "ytdkkbbpmjpcfkaa", sum := "779ef679c4977523ee3b150f9c4e92373a138bfbe47e8d224a147ae92bdc2459", func := "tumbler/tumblerlaw01.FxSums", spec := "fxSums", inPlace := ["math/bits.Sub64", "math/bits.Add64"], named := ["math/bits.divideError", "math/bits.overflowError"], apart := false, narrowed := true }
def FxSumsUptoSaid : Prop := fxSumsUptoRow.holds Try.pinned (OpenSpec.upto fxSumsSpec)

/-- 'tumblerlaw01.FxDots', WHERE WHAT IT READS IS OF BULK AT MOST 1048576: true; the input reads as it did. -/
def fxDotsUptoRow : OpenClaim := { program := "ytdkkbbpmjpcfkaa", sum := "779ef679c4977523ee3b150f9c4e92373a138bfbe47e8d224a147ae92bdc2459", func := "tumbler/tumblerlaw01.FxDots", spec := "fxDots", inPlace := ["math/bits.Sub64", "math/bits.Add64"], named := ["math/bits.divideError", "math/bits.overflowError"], apart := false, narrowed := true }
def FxDotsUptoSaid : Prop := fxDotsUptoRow.holds Try.pinned (OpenSpec.upto fxDotsSpec)

/-- 'tumblerlaw01.FxOnes', WHERE WHAT IT READS IS OF BULK AT MOST 1048576: true; the input reads as it did. -/
def fxOnesUptoRow : OpenClaim := { program := "ytdkkbbpmjpcfkaa", sum := "779ef679c4977523ee3b150f9c4e92373a138bfbe47e8d224a147ae92bdc2459", func := "tumbler/tumblerlaw01.FxOnes", spec := "fxOnes", inPlace := ["math/bits.Sub64", "math/bits.Add64"], named := ["math/bits.divideError", "math/bits.overflowError"], apart := false, narrowed := true }
def FxOnesUptoSaid : Prop := fxOnesUptoRow.holds Try.pinned (OpenSpec.upto fxOnesSpec)

/-- 'tumblerlaw01.FxTogether', WHERE WHAT IT READS IS OF BULK AT MOST 1048576: true; the input reads as it did. -/
def fxTogetherUptoRow : OpenClaim := { program := "ytdkkbbpmjpcfkaa", sum := "779ef679c4977523ee3b150f9c4e92373a138bfbe47e8d224a147ae92bdc2459", func := "tumbler/tumblerlaw01.FxTogether", spec := "fxTogether", inPlace := ["math/bits.Sub64", "math/bits.Add64"], named := ["math/bits.divideError", "math/bits.overflowError"], apart := false, narrowed := true }
def FxTogetherUptoSaid : Prop := fxTogetherUptoRow.holds Try.pinned (OpenSpec.upto fxTogetherSpec)

/-- 'tumblerlaw01.FxBack', WHERE WHAT IT READS IS OF BULK AT MOST 1048576: true; the input reads as it did. -/
def fxBackUptoRow : OpenClaim := { program := "ytdkkbbpmjpcfkaa", sum := "779ef679c4977523ee3b150f9c4e92373a138bfbe47e8d224a147ae92bdc2459", func := "tumbler/tumblerlaw01.FxBack", spec := "fxBack", inPlace := ["math/bits.Sub64", "math/bits.Add64"], named := ["math/bits.divideError", "math/bits.overflowError"], apart := false, narrowed := true }
def FxBackUptoSaid : Prop := fxBackUptoRow.holds Try.pinned (OpenSpec.upto fxBackSpec)

end Rows
end Go.Proofs.Ytdkkbbpmjpcfkaa
