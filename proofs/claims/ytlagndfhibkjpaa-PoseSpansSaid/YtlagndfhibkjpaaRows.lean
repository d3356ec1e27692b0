/-
  No cell of these rows narrows 'for every input' (looked for: loops, veiled, ifaces, maps, wideKeys, modest, calm, conditions, laid).
  DERIVED. THE GIVEN ROWS OF THIS SEAT. 5 by the template 'for every input the law returns true; each argument reads behind the call as it read before'; 0 by the template 'total and deterministic' (their statements: YtlagndfhibkjpaaTotals.lean).
  GIVEN WITH THE SEED: the statements are not yours to turn. If you find one false, say at which input.
  Laid BY PROGRAM, IN A SANDBOX (cutbox-rows.mjs): the forced cells as the released guide's own fill.sh prints them over the translation a7c6a0796cea3d5c… (all of the seat's roots in one cut). By AI agents, Wed Nov 11 2026. No macro, syntax, notation, axiom, sorry.
-/
import Derived.Test.YtlagndfhibkjpaaChecked
import GoSem.Claim
import GoSem.ClaimJoined
import GoSem.ClaimMapViews
import Derived.JoinedTies
import Derived.KernelRfl
namespace Go.Proofs.Ytlagndfhibkjpaa
/- THE CELL 'sum', in the pinned program and in every row, IS THE sha256 OF THE DUMP (.gsa) THAT YtlagndfhibkjpaaProg.lean LOADS. Nothing in Lean hashes anything: it is a label: what it is worth is what the hold of that sum in a sandbox is worth. -/
noncomputable def Try.pinned : Pinned := { name := "ytlagndfhibkjpaa", sum := "a7c6a0796cea3d5cab321c4764814966c7149a903478fabb6829ed5d7907facd", checked := Try.checked }
namespace Rows
def none {H : Type} : Left H := { results := [], args := [] }

/-- 'tumblerlaw06.PoseHalf': WHATEVER THE INPUT: true; the input reads as it did. -/
def poseHalfSpec : ChangeSpec := { name := "poseHalf", fn := fun _ => fun
  | [d1, d2] => { results := [.lit (.bool true)], args := [d1, d2] }
  | _ => none }
def poseHalfRow : OpenClaim := { program := "ytlagndfhibkjpaa", sum := "a7c6a0796cea3d5cab321c4764814966c7149a903478fabb6829ed5d7907facd", func := "tumbler/tumblerlaw06.PoseHalf", spec := "poseHalf", inPlace := ["math/bits.Add64"], unfollowed := true, recurses := true, apart := false }
def PoseHalfSaid : Prop := poseHalfRow.holds Try.pinned (OpenSpec.ofChange poseHalfSpec)

/-- ITS FALSE NEIGHBOUR: 'it returns false'. Refute it at one input. -/
def poseHalfWrong : ChangeSpec := { name := "poseHalf", fn := fun _ => fun
  | [d1, d2] => { results := [.lit (.bool false)], args := [d1, d2] }
  | _ => none }
def PoseHalfWrongFalsely : Prop := poseHalfRow.holds Try.pinned (OpenSpec.ofChange poseHalfWrong)

/-- 'tumblerlaw06.PoseBoxes': WHATEVER THE INPUT: true; the input reads as it did. -/
def poseBoxesSpec : ChangeSpec := { name := "poseBoxes", fn := fun _ => fun
  | [d1, d2, d3, d4] => { results := [.lit (.bool true)], args := [d1, d2, d3, d4] }
  | _ => none }
def poseBoxesRow : OpenClaim := { program := "ytlagndfhibkjpaa", sum := "a7c6a0796cea3d5cab321c4764814966c7149a903478fabb6829ed5d7907facd", func := "tumbler/tumblerlaw06.PoseBoxes", spec := "poseBoxes", inPlace := ["math/bits.Add64"], unfollowed := true, recurses := true, apart := false }
def PoseBoxesSaid : Prop := poseBoxesRow.holds Try.pinned (OpenSpec.ofChange poseBoxesSpec)

/-- ITS FALSE NEIGHBOUR: 'it returns false'. Refute it at one input. -/
def poseBoxesWrong : ChangeSpec := { name := "poseBoxes", fn := fun _ => fun
  | [d1, d2, d3, d4] => { results := [.lit (.bool false)], args := [d1, d2, d3, d4] }
  | _ => none }
def PoseBoxesWrongFalsely : Prop := poseBoxesRow.holds Try.pinned (OpenSpec.ofChange poseBoxesWrong)

/-- 'tumblerlaw06.PoseSpans': WHATEVER THE INPUT: true; the input reads as it did. -/
def poseSpansSpec : ChangeSpec := { name := "poseSpans", fn := fun _ => fun
  | [d1, d2] => { results := [.lit (.bool true)], args := [d1, d2] }
  | _ => none }
def poseSpansRow : OpenClaim := { program := "ytlagndfhibkjpaa", sum := "a7c6a0796cea3d5cab321c4764814966c7149a903478fabb6829ed5d7907facd", func := "tumbler/tumblerlaw06.PoseSpans", spec := "poseSpans", inPlace := ["math/bits.Add64"], unfollowed := true, recurses := true, apart := false }
def PoseSpansSaid : Prop := poseSpansRow.holds Try.pinned (OpenSpec.ofChange poseSpansSpec)

/-- ITS FALSE NEIGHBOUR: 'it returns false'. Refute it at one input. -/
def poseSpansWrong : ChangeSpec := { name := "poseSpans", fn := fun _ => fun
  | [d1, d2] => { results := [.lit (.bool false)], args := [d1, d2] }
  | _ => none }
def PoseSpansWrongFalsely : Prop := poseSpansRow.holds Try.pinned (OpenSpec.ofChange poseSpansWrong)

/-- 'tumblerlaw06.PosePlaces': WHATEVER THE INPUT: true; the input reads as it did. -/
def posePlacesSpec : ChangeSpec := { name := "posePlaces", fn := fun _ => fun
  | [d1, d2, d3] => { results := [.lit (.bool true)], args := [d1, d2, d3] }
  | _ => none }
def posePlacesRow : OpenClaim := { program := "ytlagndfhibkjpaa", sum := "a7c6a0796cea3d5cab321c4764814966c7149a903478fabb6829ed5d7907facd", func := "tumbler/tumblerlaw06.PosePlaces", spec := "posePlaces", inPlace := ["math/bits.Add64"], unfollowed := true, recurses := true, apart := false }
def PosePlacesSaid : Prop := posePlacesRow.holds Try.pinned (OpenSpec.ofChange posePlacesSpec)

/-- ITS FALSE NEIGHBOUR: 'it returns false'. Refute it at one input. -/
def posePlacesWrong : ChangeSpec := { name := "posePlaces", fn := fun _ => fun
  | [d1, d2, d3] => { results := [.lit (.bool false)], args := [d1, d2, d3] }
  | _ => none }
def PosePlacesWrongFalsely : Prop := posePlacesRow.holds Try.pinned (OpenSpec.ofChange posePlacesWrong)

/-- 'tumblerlaw06.PoseStays': WHATEVER THE INPUT: true; the input reads as it did. -/
def poseStaysSpec : ChangeSpec := { name := "poseStays", fn := fun _ => fun
  | [d1, d2, d3] => { results := [.lit (.bool true)], args := [d1, d2, d3] }
  | _ => none }
def poseStaysRow : OpenClaim := { program := "ytlagndfhibkjpaa", sum := "a7c6a0796cea3d5cab321c4764814966c7149a903478fabb6829ed5d7907facd", func := "tumbler/tumblerlaw06.PoseStays", spec := "poseStays", inPlace := ["math/bits.Add64"], unfollowed := true, recurses := true, apart := false }
def PoseStaysSaid : Prop := poseStaysRow.holds Try.pinned (OpenSpec.ofChange poseStaysSpec)

/-- ITS FALSE NEIGHBOUR: 'it returns false'. Refute it at one input. -/
def poseStaysWrong : ChangeSpec := { name := "poseStays", fn := fun _ => fun
  | [d1, d2, d3] => { results := [.lit (.bool false)], args := [d1, d2, d3] }
  | _ => none }
def PoseStaysWrongFalsely : Prop := poseStaysRow.holds Try.pinned (OpenSpec.ofChange poseStaysWrong)

/- THE SECOND FORM. 'bulk': how many values and letters a reading holds, each counted each time it is reached (what is shared counts as often as it is met; a slice's spare places count too). A statement '..UptoSaid' is the law's where the arguments, and the package variables that the reading takes, are together of bulk at most 1048576: NARROWER than '..Said'. Prove '..Said' where nothing that the law and all that it calls make is longer than what came in: it says more and counts as full. Else prove '..UptoSaid'. A law counts once. -/
mutual
def uptoBulk {H : Type} : DataW H → Nat
  | .lit (.string bytes) => bytes.length + 1
  | .lit _ => 1
  | .nil => 1
  | .ptr d => uptoBulk d + 1
  | .slice elems spare => uptoBulkAll elems + uptoBulkAll spare + 1
  | .agg parts => uptoBulkAll parts + 1
  | .iface _ d => uptoBulk d + 1
  | .map entries => uptoBulkEntries entries + 1
  | .held _ => 1
def uptoBulkAll {H : Type} : List (DataW H) → Nat
  | [] => 0
  | d :: r => uptoBulk d + uptoBulkAll r
def uptoBulkEntries {H : Type} : List (Lit × DataW H) → Nat
  | [] => 0
  | x :: r => uptoBulkEntry x + uptoBulkEntries r
def uptoBulkEntry {H : Type} : Lit × DataW H → Nat
  | (.string bytes, d) => bytes.length + uptoBulk d + 1
  | (_, d) => uptoBulk d + 1
 end
def uptoSmall : (H : Type) → List (DataW H) → Bool := fun _ ds => decide (uptoBulkAll ds ≤ 1048576)
def OpenSpec.upto (s : _root_.Go.ChangeSpec) : _root_.Go.OpenSpec := { _root_.Go.OpenSpec.ofChange s with cond := some uptoSmall }

/-- 'tumblerlaw06.PoseHalf', WHERE WHAT IT READS IS OF BULK AT MOST 1048576: true; the input reads as it did. -/
def poseHalfUptoRow : OpenClaim := { program := "ytlagndfhibkjpaa", sum := "a7c6a0796cea3d5cab321c4764814966c7149a903478fabb6829ed5d7907facd", func := "tumbler/tumblerlaw06.PoseHalf", spec := "poseHalf", inPlace := ["math/bits.Add64"], unfollowed := true, recurses := true, apart := false, narrowed := true }
def PoseHalfUptoSaid : Prop := poseHalfUptoRow.holds Try.pinned (OpenSpec.upto poseHalfSpec)

/-- 'tumblerlaw06.PoseBoxes', WHERE WHAT IT READS IS OF BULK AT MOST 1048576: true; the input reads as it did. -/
def poseBoxesUptoRow : OpenClaim := { program := "ytlagndfhibkjpaa", sum := "a7c6a0796cea3d5cab321c4764814966c7149a903478fabb6829ed5d7907facd", func := "tumbler/tumblerlaw06.PoseBoxes", spec := "poseBoxes", inPlace := ["math/bits.Add64"], unfollowed := true, recurses := true, apart := false, narrowed := true }
def PoseBoxesUptoSaid : Prop := poseBoxesUptoRow.holds Try.pinned (OpenSpec.upto poseBoxesSpec)

/-- 'tumblerlaw06.PoseSpans', WHERE WHAT IT READS IS OF BULK AT MOST 1048576: true; the input reads as it did. -/
def poseSpansUptoRow : OpenClaim := { program := "ytlagndfhibkjpaa", sum := "a7c6a0796cea3d5cab321c4764814966c7149a903478fabb6829ed5d7907facd", func := "tumbler/tumblerlaw06.PoseSpans", spec := "poseSpans", inPlace := ["math/bits.Add64"], unfollowed := true, recurses := true, apart := false, narrowed := true }
def PoseSpansUptoSaid : Prop := poseSpansUptoRow.holds Try.pinned (OpenSpec.upto poseSpansSpec)

/-- 'tumblerlaw06.PosePlaces', WHERE WHAT IT READS IS OF BULK AT MOST 1048576: true; the input reads as it did. -/
def posePlacesUptoRow : OpenClaim := { program := "ytlagndfhibkjpaa", sum := "a7c6a0796cea3d5cab321c4764814966c7149a903478fabb6829ed5d7907facd", func := "tumbler/tumblerlaw06.PosePlaces", spec := "posePlaces", inPlace := ["math/bits.Add64"], unfollowed := true, recurses := true, apart := false, narrowed := true }
def PosePlacesUptoSaid : Prop := posePlacesUptoRow.holds Try.pinned (OpenSpec.upto posePlacesSpec)

/-- 'tumblerlaw06.PoseStays', WHERE WHAT IT READS IS OF BULK AT MOST 1048576: true; the input reads as it did. -/
def poseStaysUptoRow : OpenClaim := { program := "ytlagndfhibkjpaa", sum := "a7c6a0796cea3d5cab321c4764814966c7149a903478fabb6829ed5d7907facd", func := "tumbler/tumblerlaw06.PoseStays", spec := "poseStays", inPlace := ["math/bits.Add64"], unfollowed := true, recurses := true, apart := false, narrowed := true }
def PoseStaysUptoSaid : Prop := poseStaysUptoRow.holds Try.pinned (OpenSpec.upto poseStaysSpec)

end Rows
end Go.Proofs.Ytlagndfhibkjpaa
