/-
  No cell of these rows narrows 'for every input' (looked for: loops, veiled, ifaces, maps, wideKeys, modest, calm, conditions, laid).
  DERIVED. THE GIVEN ROWS OF THIS SEAT. 7 by the template 'for every input the law returns true; each argument reads behind the call as it read before'; 0 by the template 'total and deterministic' (their statements: YtmcifgaaojgheaaTotals.lean).
  GIVEN WITH THE SEED: the statements are not yours to turn. If you find one false, say at which input.
  Laid BY PROGRAM, IN A SANDBOX (cutbox-rows.mjs): the forced cells as the released guide's own fill.sh prints them over the translation 4fffbdcd880f2efd… (all of the seat's roots in one cut). By AI agents, Wed Nov 11 2026. No macro, syntax, notation, axiom, sorry.
-/
import Derived.Test.YtmcifgaaojgheaaChecked
import GoSem.Claim
import GoSem.ClaimJoined
import GoSem.ClaimMapViews
import Derived.JoinedTies
import Derived.KernelRfl
namespace Go.Proofs.Ytmcifgaaojgheaa
/- THE CELL 'sum', in the pinned program and in every row, IS THE sha256 OF THE DUMP (.gsa) THAT YtmcifgaaojgheaaProg.lean LOADS. Nothing in Lean hashes anything: it is a label: what it is worth is what the hold of that sum in a sandbox is worth. -/
noncomputable def Try.pinned : Pinned := { name := "ytmcifgaaojgheaa", sum := "4fffbdcd880f2efdc179d3ecd98147d9e5d18866fb231223847a2c2903105c97", checked := Try.checked }
namespace Rows
def none {H : Type} : Left H := { results := [], args := [] }

/-- 'tumblerlaw02.VecCross': WHATEVER THE INPUT: true; the input reads as it did. -/
def vecCrossSpec : ChangeSpec := { name := "vecCross", fn := fun _ => fun
  | [d1, d2] => { results := [.lit (.bool true)], args := [d1, d2] }
  | _ => none }
def vecCrossRow : OpenClaim := { program := "ytmcifgaaojgheaa", sum := "4fffbdcd880f2efdc179d3ecd98147d9e5d18866fb231223847a2c2903105c97", func := "tumbler/tumblerlaw02.VecCross", spec := "vecCross", inPlace := ["math/bits.Add64", "math/bits.Sub64"], unfollowed := true, recurses := true, named := ["math/bits.divideError", "math/bits.overflowError"], apart := false }
def VecCrossSaid : Prop := vecCrossRow.holds Try.pinned (OpenSpec.ofChange vecCrossSpec)

/-- ITS FALSE NEIGHBOUR: 'it returns false'. Refute it at one input. -/
def vecCrossWrong : ChangeSpec := { name := "vecCross", fn := fun _ => fun
  | [d1, d2] => { results := [.lit (.bool false)], args := [d1, d2] }
  | _ => none }
def VecCrossWrongFalsely : Prop := vecCrossRow.holds Try.pinned (OpenSpec.ofChange vecCrossWrong)

/-- 'tumblerlaw02.VecHalf': WHATEVER THE INPUT: true; the input reads as it did. -/
def vecHalfSpec : ChangeSpec := { name := "vecHalf", fn := fun _ => fun
  | [d] => { results := [.lit (.bool true)], args := [d] }
  | _ => none }
def vecHalfRow : OpenClaim := { program := "ytmcifgaaojgheaa", sum := "4fffbdcd880f2efdc179d3ecd98147d9e5d18866fb231223847a2c2903105c97", func := "tumbler/tumblerlaw02.VecHalf", spec := "vecHalf", inPlace := ["math/bits.Add64", "math/bits.Sub64"], unfollowed := true, recurses := true, named := ["math/bits.divideError", "math/bits.overflowError"], apart := false }
def VecHalfSaid : Prop := vecHalfRow.holds Try.pinned (OpenSpec.ofChange vecHalfSpec)

/-- ITS FALSE NEIGHBOUR: 'it returns false'. Refute it at one input. -/
def vecHalfWrong : ChangeSpec := { name := "vecHalf", fn := fun _ => fun
  | [d] => { results := [.lit (.bool false)], args := [d] }
  | _ => none }
def VecHalfWrongFalsely : Prop := vecHalfRow.holds Try.pinned (OpenSpec.ofChange vecHalfWrong)

/-- 'tumblerlaw02.VecLinear': WHATEVER THE INPUT: true; the input reads as it did. -/
def vecLinearSpec : ChangeSpec := { name := "vecLinear", fn := fun _ => fun
  | [d1, d2, d3] => { results := [.lit (.bool true)], args := [d1, d2, d3] }
  | _ => none }
def vecLinearRow : OpenClaim := { program := "ytmcifgaaojgheaa", sum := "4fffbdcd880f2efdc179d3ecd98147d9e5d18866fb231223847a2c2903105c97", func := "tumbler/tumblerlaw02.VecLinear", spec := "vecLinear", inPlace := ["math/bits.Add64", "math/bits.Sub64"], unfollowed := true, recurses := true, named := ["math/bits.divideError", "math/bits.overflowError"], apart := false }
def VecLinearSaid : Prop := vecLinearRow.holds Try.pinned (OpenSpec.ofChange vecLinearSpec)

/-- ITS FALSE NEIGHBOUR: 'it returns false'. Refute it at one input. -/
def vecLinearWrong : ChangeSpec := { name := "vecLinear", fn := fun _ => fun
  | [d1, d2, d3] => { results := [.lit (.bool false)], args := [d1, d2, d3] }
  | _ => none }
def VecLinearWrongFalsely : Prop := vecLinearRow.holds Try.pinned (OpenSpec.ofChange vecLinearWrong)

/-- 'tumblerlaw02.VecWhole': WHATEVER THE INPUT: true; the input reads as it did. -/
def vecWholeSpec : ChangeSpec := { name := "vecWhole", fn := fun _ => fun
  | [d1, d2] => { results := [.lit (.bool true)], args := [d1, d2] }
  | _ => none }
def vecWholeRow : OpenClaim := { program := "ytmcifgaaojgheaa", sum := "4fffbdcd880f2efdc179d3ecd98147d9e5d18866fb231223847a2c2903105c97", func := "tumbler/tumblerlaw02.VecWhole", spec := "vecWhole", inPlace := ["math/bits.Add64", "math/bits.Sub64"], unfollowed := true, recurses := true, named := ["math/bits.divideError", "math/bits.overflowError"], apart := false }
def VecWholeSaid : Prop := vecWholeRow.holds Try.pinned (OpenSpec.ofChange vecWholeSpec)

/-- ITS FALSE NEIGHBOUR: 'it returns false'. Refute it at one input. -/
def vecWholeWrong : ChangeSpec := { name := "vecWhole", fn := fun _ => fun
  | [d1, d2] => { results := [.lit (.bool false)], args := [d1, d2] }
  | _ => none }
def VecWholeWrongFalsely : Prop := vecWholeRow.holds Try.pinned (OpenSpec.ofChange vecWholeWrong)

/-- 'tumblerlaw02.VecUnits': WHATEVER THE INPUT: true; the input reads as it did. -/
def vecUnitsSpec : ChangeSpec := { name := "vecUnits", fn := fun _ => fun
  | [d1, d2] => { results := [.lit (.bool true)], args := [d1, d2] }
  | _ => none }
def vecUnitsRow : OpenClaim := { program := "ytmcifgaaojgheaa", sum := "4fffbdcd880f2efdc179d3ecd98147d9e5d18866fb231223847a2c2903105c97", func := "tumbler/tumblerlaw02.VecUnits", spec := "vecUnits", inPlace := ["math/bits.Add64", "math/bits.Sub64"], unfollowed := true, recurses := true, named := ["math/bits.divideError", "math/bits.overflowError"], apart := false }
def VecUnitsSaid : Prop := vecUnitsRow.holds Try.pinned (OpenSpec.ofChange vecUnitsSpec)

/-- ITS FALSE NEIGHBOUR: 'it returns false'. Refute it at one input. -/
def vecUnitsWrong : ChangeSpec := { name := "vecUnits", fn := fun _ => fun
  | [d1, d2] => { results := [.lit (.bool false)], args := [d1, d2] }
  | _ => none }
def VecUnitsWrongFalsely : Prop := vecUnitsRow.holds Try.pinned (OpenSpec.ofChange vecUnitsWrong)

/-- 'tumblerlaw02.VecParts': WHATEVER THE INPUT: true; the input reads as it did. -/
def vecPartsSpec : ChangeSpec := { name := "vecParts", fn := fun _ => fun
  | [d1, d2, d3, d4] => { results := [.lit (.bool true)], args := [d1, d2, d3, d4] }
  | _ => none }
def vecPartsRow : OpenClaim := { program := "ytmcifgaaojgheaa", sum := "4fffbdcd880f2efdc179d3ecd98147d9e5d18866fb231223847a2c2903105c97", func := "tumbler/tumblerlaw02.VecParts", spec := "vecParts", inPlace := ["math/bits.Add64", "math/bits.Sub64"], unfollowed := true, recurses := true, named := ["math/bits.divideError", "math/bits.overflowError"], apart := false }
def VecPartsSaid : Prop := vecPartsRow.holds Try.pinned (OpenSpec.ofChange vecPartsSpec)

/-- ITS FALSE NEIGHBOUR: 'it returns false'. Refute it at one input. -/
def vecPartsWrong : ChangeSpec := { name := "vecParts", fn := fun _ => fun
  | [d1, d2, d3, d4] => { results := [.lit (.bool false)], args := [d1, d2, d3, d4] }
  | _ => none }
def VecPartsWrongFalsely : Prop := vecPartsRow.holds Try.pinned (OpenSpec.ofChange vecPartsWrong)

/-- 'tumblerlaw02.VecTurns': WHATEVER THE INPUT: true; the input reads as it did. -/
def vecTurnsSpec : ChangeSpec := { name := "vecTurns", fn := fun _ => fun
  | [d1, d2, d3, d4] => { results := [.lit (.bool true)], args := [d1, d2, d3, d4] }
  | _ => none }
def vecTurnsRow : OpenClaim := { program := "ytmcifgaaojgheaa", sum := "4fffbdcd880f2efdc179d3ecd98147d9e5d18866fb231223847a2c2903105c97", func := "tumbler/tumblerlaw02.VecTurns", spec := "vecTurns", inPlace := ["math/bits.Add64", "math/bits.Sub64"], unfollowed := true, recurses := true, named := ["math/bits.divideError", "math/bits.overflowError"], apart := false }
def VecTurnsSaid : Prop := vecTurnsRow.holds Try.pinned (OpenSpec.ofChange vecTurnsSpec)

/-- ITS FALSE NEIGHBOUR: 'it returns false'. Refute it at one input. -/
def vecTurnsWrong : ChangeSpec := { name := "vecTurns", fn := fun _ => fun
  | [d1, d2, d3, d4] => { results := [.lit (.bool false)], args := [d1, d2, d3, d4] }
  | _ => none }
def VecTurnsWrongFalsely : Prop := vecTurnsRow.holds Try.pinned (OpenSpec.ofChange vecTurnsWrong)

/- THE SECOND FORM. 'bulk': how many values and letters a reading holds, each counted each time it is reached (what is shared counts as often as it is met; a slice's spare places count too). A statement '..UptoSaid' is the law's where the arguments, and the package variables that the reading takes, are together of bulk at most 1048576: NARROWER than '..Said'. Prove '..Said' where nothing that the law and all that it calls make is longer than what came in: it says more and counts as full. Else prove '..UptoSaid'. A law counts once. -/
mutual
def uptoBulk {H : Type} : DataW H → Nat
  | .lit (.string bytes) => bytes.length + 1
  | .lit _ => 1
  | .nil => 1
  | .ptr d => uptoBulk d + 1
  | .slice elems spare => uptoBulkAll elems + uptoBulkAll spare + 1
  | .agg parts => uptoBulkAll parts + 1
  | .iface _ d => uptoBulk d + 1
  | .map entries => uptoBulkEntries entries + 1
  | .held _ => 1
def uptoBulkAll {H : Type} : List (DataW H) → Nat
  | [] => 0
  | d :: r => uptoBulk d + uptoBulkAll r
def uptoBulkEntries {H : Type} : List (Lit × DataW H) → Nat
  | [] => 0
  | x :: r => uptoBulkEntry x + uptoBulkEntries r
def uptoBulkEntry {H : Type} : Lit × DataW H → Nat
  | (.string bytes, d) => bytes.length + uptoBulk d + 1
  | (_, d) => uptoBulk d + 1
 end
def uptoSmall : (H : Type) → List (DataW H) → Bool := fun _ ds => decide (uptoBulkAll ds ≤ 1048576)
def OpenSpec.upto (s : _root_.Go.ChangeSpec) : _root_.Go.OpenSpec := { _root_.Go.OpenSpec.ofChange s with cond := some uptoSmall }

/-- 'tumblerlaw02.VecCross', WHERE WHAT IT READS IS OF BULK AT MOST 1048576: true; the input reads as it did. -/
def vecCrossUptoRow : OpenClaim := { program := "ytmcifgaaojgheaa", sum := "4fffbdcd880f2efdc179d3ecd98147d9e5d18866fb231223847a2c2903105c97", func := "tumbler/tumblerlaw02.VecCross", spec := "vecCross", inPlace := ["math/bits.Add64", "math/bits.Sub64"], unfollowed := true, recurses := true, named := ["math/bits.divideError", "math/bits.overflowError"], apart := false, narrowed := true }
def VecCrossUptoSaid : Prop := vecCrossUptoRow.holds Try.pinned (OpenSpec.upto vecCrossSpec)

/-- 'tumblerlaw02.VecHalf', WHERE WHAT IT READS IS OF BULK AT MOST 1048576: true; the input reads as it did. -/
def vecHalfUptoRow : OpenClaim := { program := "ytmcifgaaojgheaa", sum := "4fffbdcd880f2efdc179d3ecd98147d9e5d18866fb231223847a2c2903105c97", func := "tumbler/tumblerlaw02.VecHalf", spec := "vecHalf", inPlace := ["math/bits.Add64", "math/bits.Sub64"], unfollowed := true, recurses := true, named := ["math/bits.divideError", "math/bits.overflowError"], apart := false, narrowed := true }
def VecHalfUptoSaid : Prop := vecHalfUptoRow.holds Try.pinned (OpenSpec.upto vecHalfSpec)

/-- 'tumblerlaw02.VecLinear', WHERE WHAT IT READS IS OF BULK AT MOST 1048576: true; the input reads as it did. -/
def vecLinearUptoRow : OpenClaim := { program := "ytmcifgaaojgheaa", sum := "4fffbdcd880f2efdc179d3ecd98147d9e5d18866fb231223847a2c2903105c97", func := "tumbler/tumblerlaw02.VecLinear", spec := "vecLinear", inPlace := ["math/bits.Add64", "math/bits.Sub64"], unfollowed := true, recurses := true, named := ["math/bits.divideError", "math/bits.overflowError"], apart := false, narrowed := true }
def VecLinearUptoSaid : Prop := vecLinearUptoRow.holds Try.pinned (OpenSpec.upto vecLinearSpec)

/-- 'tumblerlaw02.VecWhole', WHERE WHAT IT READS IS OF BULK AT MOST 1048576: true; the input reads as it did. -/
def vecWholeUptoRow : OpenClaim := { program := "ytmcifgaaojgheaa", sum := "4fffbdcd880f2efdc179d3ecd98147d9e5d18866fb231223847a2c2903105c97", func := "tumbler/tumblerlaw02.VecWhole", spec := "vecWhole", inPlace := ["math/bits.Add64", "math/bits.Sub64"], unfollowed := true, recurses := true, named := ["math/bits.divideError", "math/bits.overflowError"], apart := false, narrowed := true }
def VecWholeUptoSaid : Prop := vecWholeUptoRow.holds Try.pinned (OpenSpec.upto vecWholeSpec)

/-- 'tumblerlaw02.VecUnits', WHERE WHAT IT READS IS OF BULK AT MOST 1048576: true; the input reads as it did. -/
def vecUnitsUptoRow : OpenClaim := { program := "ytmcifgaaojgheaa", sum := "4fffbdcd880f2efdc179d3ecd98147d9e5d18866fb231223847a2c2903105c97", func := "tumbler/tumblerlaw02.VecUnits", spec := "vecUnits", inPlace := ["math/bits.Add64", "math/bits.Sub64"], unfollowed := true, recurses := true, named := ["math/bits.divideError", "math/bits.overflowError"], apart := false, narrowed := true }
def VecUnitsUptoSaid : Prop := vecUnitsUptoRow.holds Try.pinned (OpenSpec.upto vecUnitsSpec)

/-- 'tumblerlaw02.VecParts', WHERE WHAT IT READS IS OF BULK AT MOST 1048576: true; the input reads as it did. -/
def vecPartsUptoRow : OpenClaim := { program := "ytmcifgaaojgheaa", sum := "4fffbdcd880f2efdc179d3ecd98147d9e5d18866fb231223847a2c2903105c97", func := "tumbler/tumblerlaw02.VecParts", spec := "vecParts", inPlace := ["math/bits.Add64", "math/bits.Sub64"], unfollowed := true, recurses := true, named := ["math/bits.divideError", "math/bits.overflowError"], apart := false, narrowed := true }
def VecPartsUptoSaid : Prop := vecPartsUptoRow.holds Try.pinned (OpenSpec.upto vecPartsSpec)

/-- 'tumblerlaw02.VecTurns', WHERE WHAT IT READS IS OF BULK AT MOST 1048576: true; the input reads as it did. -/
def vecTurnsUptoRow : OpenClaim := { program := "ytmcifgaaojgheaa", sum := "4fffbdcd880f2efdc179d3ecd98147d9e5d18866fb231223847a2c2903105c97", func := "tumbler/tumblerlaw02.VecTurns", spec := "vecTurns", inPlace := ["math/bits.Add64", "math/bits.Sub64"], unfollowed := true, recurses := true, named := ["math/bits.divideError", "math/bits.overflowError"], apart := false, narrowed := true }
def VecTurnsUptoSaid : Prop := vecTurnsUptoRow.holds Try.pinned (OpenSpec.upto vecTurnsSpec)

end Rows
end Go.Proofs.Ytmcifgaaojgheaa
