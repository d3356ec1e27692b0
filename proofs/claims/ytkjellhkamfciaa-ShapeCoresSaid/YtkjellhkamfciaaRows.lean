/-
  No cell of these rows narrows 'for every input' (looked for: loops, veiled, ifaces, maps, wideKeys, modest, calm, conditions, laid).
  DERIVED. THE GIVEN ROWS OF THIS SEAT. 7 by the template 'for every input the law returns true; each argument reads behind the call as it read before'; 0 by the template 'total and deterministic' (their statements: YtkjellhkamfciaaTotals.lean).
  GIVEN WITH THE SEED: the statements are not yours to turn. If you find one false, say at which input.
  Laid BY PROGRAM, IN A SANDBOX (cutbox-rows.mjs): the forced cells as the released guide's own fill.sh prints them over the translation f0398c966af20fdd… (all of the seat's roots in one cut). By AI agents, Wed Nov 11 2026. No macro, syntax, notation, axiom, sorry.
-/
import Derived.Test.YtkjellhkamfciaaChecked
import GoSem.Claim
import GoSem.ClaimJoined
import GoSem.ClaimMapViews
import Derived.JoinedTies
import Derived.KernelRfl
namespace Go.Proofs.Ytkjellhkamfciaa
/- THE CELL 'sum', in the pinned program and in every row, IS THE sha256 OF THE DUMP (.gsa) THAT YtkjellhkamfciaaProg.lean LOADS. Nothing in Lean hashes anything: it is a label: what it is worth is what the hold of that sum in a sandbox is worth. -/
noncomputable def Try.pinned : Pinned := { name := "ytkjellhkamfciaa", sum := "f0398c966af20fdd18cfa3ad910e0b0d946a2d30c9f4a9d2342d4d3dd4cd9fb7", checked := Try.checked }
namespace Rows
def none {H : Type} : Left H := { results := [], args := [] }

/-- 'tumblerlaw05.ShapeCores': WHATEVER THE INPUT: true; the input reads as it did. -/
def shapeCoresSpec : ChangeSpec := { name := "shapeCores", fn := fun _ => fun
  | [d1, d2] => { results := [.lit (.bool true)], args := [d1, d2] }
  | _ => none }
def shapeCoresRow : OpenClaim := { program := "ytkjellhkamfciaa", sum := "f0398c966af20fdd18cfa3ad910e0b0d946a2d30c9f4a9d2342d4d3dd4cd9fb7", func := "tumbler/tumblerlaw05.ShapeCores", spec := "shapeCores", inPlace := ["math/bits.Sub64"], unfollowed := true, recurses := true, named := ["math/bits.divideError", "math/bits.overflowError"], apart := false }
def ShapeCoresSaid : Prop := shapeCoresRow.holds Try.pinned (OpenSpec.ofChange shapeCoresSpec)

/-- ITS FALSE NEIGHBOUR: 'it returns false'. Refute it at one input. -/
def shapeCoresWrong : ChangeSpec := { name := "shapeCores", fn := fun _ => fun
  | [d1, d2] => { results := [.lit (.bool false)], args := [d1, d2] }
  | _ => none }
def ShapeCoresWrongFalsely : Prop := shapeCoresRow.holds Try.pinned (OpenSpec.ofChange shapeCoresWrong)

/-- 'tumblerlaw05.ShapeRight': WHATEVER THE INPUT: true; the input reads as it did. -/
def shapeRightSpec : ChangeSpec := { name := "shapeRight", fn := fun _ => fun
  | [d1, d2] => { results := [.lit (.bool true)], args := [d1, d2] }
  | _ => none }
def shapeRightRow : OpenClaim := { program := "ytkjellhkamfciaa", sum := "f0398c966af20fdd18cfa3ad910e0b0d946a2d30c9f4a9d2342d4d3dd4cd9fb7", func := "tumbler/tumblerlaw05.ShapeRight", spec := "shapeRight", inPlace := ["math/bits.Sub64"], unfollowed := true, recurses := true, named := ["math/bits.divideError", "math/bits.overflowError"], apart := false }
def ShapeRightSaid : Prop := shapeRightRow.holds Try.pinned (OpenSpec.ofChange shapeRightSpec)

/-- ITS FALSE NEIGHBOUR: 'it returns false'. Refute it at one input. -/
def shapeRightWrong : ChangeSpec := { name := "shapeRight", fn := fun _ => fun
  | [d1, d2] => { results := [.lit (.bool false)], args := [d1, d2] }
  | _ => none }
def ShapeRightWrongFalsely : Prop := shapeRightRow.holds Try.pinned (OpenSpec.ofChange shapeRightWrong)

/-- 'tumblerlaw05.ShapeShort': WHATEVER THE INPUT: true; the input reads as it did. -/
def shapeShortSpec : ChangeSpec := { name := "shapeShort", fn := fun _ => fun
  | [d] => { results := [.lit (.bool true)], args := [d] }
  | _ => none }
def shapeShortRow : OpenClaim := { program := "ytkjellhkamfciaa", sum := "f0398c966af20fdd18cfa3ad910e0b0d946a2d30c9f4a9d2342d4d3dd4cd9fb7", func := "tumbler/tumblerlaw05.ShapeShort", spec := "shapeShort", inPlace := ["math/bits.Sub64"], unfollowed := true, recurses := true, named := ["math/bits.divideError", "math/bits.overflowError"], apart := false }
def ShapeShortSaid : Prop := shapeShortRow.holds Try.pinned (OpenSpec.ofChange shapeShortSpec)

/-- ITS FALSE NEIGHBOUR: 'it returns false'. Refute it at one input. -/
def shapeShortWrong : ChangeSpec := { name := "shapeShort", fn := fun _ => fun
  | [d] => { results := [.lit (.bool false)], args := [d] }
  | _ => none }
def ShapeShortWrongFalsely : Prop := shapeShortRow.holds Try.pinned (OpenSpec.ofChange shapeShortWrong)

/-- 'tumblerlaw05.ShapeFaces': WHATEVER THE INPUT: true; the input reads as it did. -/
def shapeFacesSpec : ChangeSpec := { name := "shapeFaces", fn := fun _ => fun
  | [d1, d2] => { results := [.lit (.bool true)], args := [d1, d2] }
  | _ => none }
def shapeFacesRow : OpenClaim := { program := "ytkjellhkamfciaa", sum := "f0398c966af20fdd18cfa3ad910e0b0d946a2d30c9f4a9d2342d4d3dd4cd9fb7", func := "tumbler/tumblerlaw05.ShapeFaces", spec := "shapeFaces", inPlace := ["math/bits.Sub64"], unfollowed := true, recurses := true, named := ["math/bits.divideError", "math/bits.overflowError"], apart := false }
def ShapeFacesSaid : Prop := shapeFacesRow.holds Try.pinned (OpenSpec.ofChange shapeFacesSpec)

/-- ITS FALSE NEIGHBOUR: 'it returns false'. Refute it at one input. -/
def shapeFacesWrong : ChangeSpec := { name := "shapeFaces", fn := fun _ => fun
  | [d1, d2] => { results := [.lit (.bool false)], args := [d1, d2] }
  | _ => none }
def ShapeFacesWrongFalsely : Prop := shapeFacesRow.holds Try.pinned (OpenSpec.ofChange shapeFacesWrong)

/-- 'tumblerlaw05.ShapeHeavy': WHATEVER THE INPUT: true; the input reads as it did. -/
def shapeHeavySpec : ChangeSpec := { name := "shapeHeavy", fn := fun _ => fun
  | [d1, d2, d3] => { results := [.lit (.bool true)], args := [d1, d2, d3] }
  | _ => none }
def shapeHeavyRow : OpenClaim := { program := "ytkjellhkamfciaa", sum := "f0398c966af20fdd18cfa3ad910e0b0d946a2d30c9f4a9d2342d4d3dd4cd9fb7", func := "tumbler/tumblerlaw05.ShapeHeavy", spec := "shapeHeavy", inPlace := ["math/bits.Sub64"], unfollowed := true, recurses := true, named := ["math/bits.divideError", "math/bits.overflowError"], apart := false }
def ShapeHeavySaid : Prop := shapeHeavyRow.holds Try.pinned (OpenSpec.ofChange shapeHeavySpec)

/-- ITS FALSE NEIGHBOUR: 'it returns false'. Refute it at one input. -/
def shapeHeavyWrong : ChangeSpec := { name := "shapeHeavy", fn := fun _ => fun
  | [d1, d2, d3] => { results := [.lit (.bool false)], args := [d1, d2, d3] }
  | _ => none }
def ShapeHeavyWrongFalsely : Prop := shapeHeavyRow.holds Try.pinned (OpenSpec.ofChange shapeHeavyWrong)

/-- 'tumblerlaw05.ShapeWhole': WHATEVER THE INPUT: true; the input reads as it did. -/
def shapeWholeSpec : ChangeSpec := { name := "shapeWhole", fn := fun _ => fun
  | [d1, d2, d3] => { results := [.lit (.bool true)], args := [d1, d2, d3] }
  | _ => none }
def shapeWholeRow : OpenClaim := { program := "ytkjellhkamfciaa", sum := "f0398c966af20fdd18cfa3ad910e0b0d946a2d30c9f4a9d2342d4d3dd4cd9fb7", func := "tumbler/tumblerlaw05.ShapeWhole", spec := "shapeWhole", inPlace := ["math/bits.Sub64"], unfollowed := true, recurses := true, named := ["math/bits.divideError", "math/bits.overflowError"], apart := false }
def ShapeWholeSaid : Prop := shapeWholeRow.holds Try.pinned (OpenSpec.ofChange shapeWholeSpec)

/-- ITS FALSE NEIGHBOUR: 'it returns false'. Refute it at one input. -/
def shapeWholeWrong : ChangeSpec := { name := "shapeWhole", fn := fun _ => fun
  | [d1, d2, d3] => { results := [.lit (.bool false)], args := [d1, d2, d3] }
  | _ => none }
def ShapeWholeWrongFalsely : Prop := shapeWholeRow.holds Try.pinned (OpenSpec.ofChange shapeWholeWrong)

/-- 'tumblerlaw05.ShapeTidy': WHATEVER THE INPUT: true; the input reads as it did. -/
def shapeTidySpec : ChangeSpec := { name := "shapeTidy", fn := fun _ => fun
  | [d] => { results := [.lit (.bool true)], args := [d] }
  | _ => none }
def shapeTidyRow : OpenClaim := { program := "ytkjellhkamfciaa", sum := "f0398c966af20fdd18cfa3ad910e0b0d946a2d30c9f4a9d2342d4d3dd4cd9fb7", func := "tumbler/tumblerlaw05.ShapeTidy", spec := "shapeTidy", inPlace := ["math/bits.Sub64"], unfollowed := true, recurses := true, named := ["math/bits.divideError", "math/bits.overflowError"], apart := false }
def ShapeTidySaid : Prop := shapeTidyRow.holds Try.pinned (OpenSpec.ofChange shapeTidySpec)

/-- ITS FALSE NEIGHBOUR: 'it returns false'. Refute it at one input. -/
def shapeTidyWrong : ChangeSpec := { name := "shapeTidy", fn := fun _ => fun
  | [d] => { results := [.lit (.bool false)], args := [d] }
  | _ => none }
def ShapeTidyWrongFalsely : Prop := shapeTidyRow.holds Try.pinned (OpenSpec.ofChange shapeTidyWrong)

/- THE SECOND FORM. 'bulk': how many values and letters a reading holds, each counted each time it is reached (what is shared counts as often as it is met; a slice's spare places count too). A statement '..UptoSaid' is the law's where the arguments, and the package variables that the reading takes, are together of bulk at most 1048576: NARROWER than '..Said'. Prove '..Said' where nothing that the law and all that it calls make is longer than what came in: it says more and counts as full. Else prove '..UptoSaid'. A law counts once. -/
mutual
def uptoBulk {H : Type} : DataW H → Nat
  | .lit (.string bytes) => bytes.length + 1
  | .lit _ => 1
  | .nil => 1
  | .ptr d => uptoBulk d + 1
  | .slice elems spare => uptoBulkAll elems + uptoBulkAll spare + 1
  | .agg parts => uptoBulkAll parts + 1
  | .iface _ d => uptoBulk d + 1
  | .map entries => uptoBulkEntries entries + 1
  | .held _ => 1
def uptoBulkAll {H : Type} : List (DataW H) → Nat
  | [] => 0
  | d :: r => uptoBulk d + uptoBulkAll r
def uptoBulkEntries {H : Type} : List (Lit × DataW H) → Nat
  | [] => 0
  | x :: r => uptoBulkEntry x + uptoBulkEntries r
def uptoBulkEntry {H : Type} : Lit × DataW H → Nat
  | (.string bytes, d) => bytes.length + uptoBulk d + 1
  | (_, d) => uptoBulk d + 1
 end
def uptoSmall : (H : Type) → List (DataW H) → Bool := fun _ ds => decide (uptoBulkAll ds ≤ 1048576)
def OpenSpec.upto (s : _root_.Go.ChangeSpec) : _root_.Go.OpenSpec := { _root_.Go.OpenSpec.ofChange s with cond := some uptoSmall }

/-- 'tumblerlaw05.ShapeCores', WHERE WHAT IT READS IS OF BULK AT MOST 1048576: true; the input reads as it did. -/
def shapeCoresUptoRow : OpenClaim := { program := "ytkjellhkamfciaa", sum := "f0398c966af20fdd18cfa3ad910e0b0d946a2d30c9f4a9d2342d4d3dd4cd9fb7", func := "tumbler/tumblerlaw05.ShapeCores", spec := "shapeCores", inPlace := ["math/bits.Sub64"], unfollowed := true, recurses := true, named := ["math/bits.divideError", "math/bits.overflowError"], apart := false, narrowed := true }
def ShapeCoresUptoSaid : Prop := shapeCoresUptoRow.holds Try.pinned (OpenSpec.upto shapeCoresSpec)

/-- 'tumblerlaw05.ShapeRight', WHERE WHAT IT READS IS OF BULK AT MOST 1048576: true; the input reads as it did. -/
def shapeRightUptoRow : OpenClaim := { program := "ytkjellhkamfciaa", sum := "f0398c966af20fdd18cfa3ad910e0b0d946a2d30c9f4a9d2342d4d3dd4cd9fb7", func := "tumbler/tumblerlaw05.ShapeRight", spec := "shapeRight", inPlace := ["math/bits.Sub64"], unfollowed := true, recurses := true, named := ["math/bits.divideError", "math/bits.overflowError"], apart := false, narrowed := true }
def ShapeRightUptoSaid : Prop := shapeRightUptoRow.holds Try.pinned (OpenSpec.upto shapeRightSpec)

/-- 'tumblerlaw05.ShapeShort', WHERE WHAT IT READS IS OF BULK AT MOST 1048576: true; the input reads as it did. -/
def shapeShortUptoRow : OpenClaim := { program := "ytkjellhkamfciaa", sum := "f0398c966af20fdd18cfa3ad910e0b0d946a2d30c9f4a9d2342d4d3dd4cd9fb7", func := "tumbler/tumblerlaw05.ShapeShort", spec := "shapeShort", inPlace := ["math/bits.Sub64"], unfollowed := true, recurses := true, named := ["math/bits.divideError", "math/bits.overflowError"], apart := false, narrowed := true }
def ShapeShortUptoSaid : Prop := shapeShortUptoRow.holds Try.pinned (OpenSpec.upto shapeShortSpec)

/-- 'tumblerlaw05.ShapeFaces', WHERE WHAT IT READS IS OF BULK AT MOST 1048576: true; the input reads as it did. -/
def shapeFacesUptoRow : OpenClaim := { program := "ytkjellhkamfciaa", sum := "f0398c966af20fdd18cfa3ad910e0b0d946a2d30c9f4a9d2342d4d3dd4cd9fb7", func := "tumbler/tumblerlaw05.ShapeFaces", spec := "shapeFaces", inPlace := ["math/bits.Sub64"], unfollowed := true, recurses := true, named := ["math/bits.divideError", "math/bits.overflowError"], apart := false, narrowed := true }
def ShapeFacesUptoSaid : Prop := shapeFacesUptoRow.holds Try.pinned (OpenSpec.upto shapeFacesSpec)

/-- 'tumblerlaw05.ShapeHeavy', WHERE WHAT IT READS IS OF BULK AT MOST 1048576: true; the input reads as it did. -/
def shapeHeavyUptoRow : OpenClaim := { program := "ytkjellhkamfciaa", sum := "f0398c966af20fdd18cfa3ad910e0b0d946a2d30c9f4a9d2342d4d3dd4cd9fb7", func := "tumbler/tumblerlaw05.ShapeHeavy", spec := "shapeHeavy", inPlace := ["math/bits.Sub64"], unfollowed := true, recurses := true, named := ["math/bits.divideError", "math/bits.overflowError"], apart := false, narrowed := true }
def ShapeHeavyUptoSaid : Prop := shapeHeavyUptoRow.holds Try.pinned (OpenSpec.upto shapeHeavySpec)

/-- 'tumblerlaw05.ShapeWhole', WHERE WHAT IT READS IS OF BULK AT MOST 1048576: true; the input reads as it did. -/
def shapeWholeUptoRow : OpenClaim := { program := "ytkjellhkamfciaa", sum := "f0398c966af20fdd18cfa3ad910e0b0d946a2d30c9f4a9d2342d4d3dd4cd9fb7", func := "tumbler/tumblerlaw05.ShapeWhole", spec := "shapeWhole", inPlace := ["math/bits.Sub64"], unfollowed := true, recurses := true, named := ["math/bits.divideError", "math/bits.overflowError"], apart := false, narrowed := true }
def ShapeWholeUptoSaid : Prop := shapeWholeUptoRow.holds Try.pinned (OpenSpec.upto shapeWholeSpec)

/-- 'tumblerlaw05.ShapeTidy', WHERE WHAT IT READS IS OF BULK AT MOST 1048576: true; the input reads as it did. -/
def shapeTidyUptoRow : OpenClaim := { program := "ytkjellhkamfciaa", sum := "f0398c966af20fdd18cfa3ad910e0b0d946a2d30c9f4a9d2342d4d3dd4cd9fb7", func := "tumbler/tumblerlaw05.ShapeTidy", spec := "shapeTidy", inPlace := ["math/bits.Sub64"], unfollowed := true, recurses := true, named := ["math/bits.divideError", "math/bits.overflowError"], apart := false, narrowed := true }
def ShapeTidyUptoSaid : Prop := shapeTidyUptoRow.holds Try.pinned (OpenSpec.upto shapeTidySpec)

end Rows
end Go.Proofs.Ytkjellhkamfciaa
