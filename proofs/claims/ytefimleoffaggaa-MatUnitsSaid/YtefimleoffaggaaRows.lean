/-
  No cell of these rows narrows 'for every input' (looked for: loops, veiled, ifaces, maps, wideKeys, modest, calm, conditions, laid).
  DERIVED. THE GIVEN ROWS OF THIS SEAT. 10 by the template 'for every input the law returns true; each argument reads behind the call as it read before'; 0 by the template 'total and deterministic' (their statements: YtefimleoffaggaaTotals.lean).
  GIVEN WITH THE SEED: the statements are not yours to turn. If you find one false, say at which input.
  Laid BY PROGRAM, IN A SANDBOX (cutbox-rows.mjs): the forced cells as the released guide's own fill.sh prints them over the translation de1f78f11e981ae8… (all of the seat's roots in one cut). By AI agents, Wed Nov 11 2026. No macro, syntax, notation, axiom, sorry.
-/
import Derived.Test.YtefimleoffaggaaChecked
import GoSem.Claim
import GoSem.ClaimJoined
import GoSem.ClaimMapViews
import Derived.JoinedTies
import Derived.KernelRfl
namespace Go.Proofs.Ytefimleoffaggaa
/- THE CELL 'sum', in the pinned program and in every row, IS THE sha256 OF THE DUMP (.gsa) THAT YtefimleoffaggaaProg.lean LOADS. Nothing in Lean hashes anything: it is a label: what it is worth is what the hold of that sum in a sandbox is worth. -/
noncomputable def Try.pinned : Pinned := { name := "ytefimleoffaggaa", sum := "de1f78f11e981ae8777f5b90847e0ef763c5f98f8b0d525410f61265cb506b11", checked := Try.checked }
namespace Rows
def none {H : Type} : Left H := { results := [], args := [] }

/-- 'tillerlaw03.VecDots': WHATEVER THE INPUT: true; the input reads as it did. -/
def vecDotsSpec : ChangeSpec := { name := "vecDots", fn := fun _ => fun
  | [d1, d2, d3, d4] => { results := [.lit (.bool true)], args := [d1, d2, d3, d4] }
  | _ => none }
def vecDotsRow : OpenClaim := { program := "ytefimleoffaggaa", sum := "de1f78f11e981ae8777f5b90847e0ef763c5f98f8b0d525410f61265cb506b11", func := "tiller/tillerlaw03.VecDots", spec := "vecDots", recurses := true, apart := false }
def VecDotsSaid : Prop := vecDotsRow.holds Try.pinned (OpenSpec.ofChange vecDotsSpec)

/-- ITS FALSE NEIGHBOUR: 'it returns false'. Refute it at one input. -/
def vecDotsWrong : ChangeSpec := { name := "vecDots", fn := fun _ => fun
  | [d1, d2, d3, d4] => { results := [.lit (.bool false)], args := [d1, d2, d3, d4] }
  | _ => none }
def VecDotsWrongFalsely : Prop := vecDotsRow.holds Try.pinned (OpenSpec.ofChange vecDotsWrong)

/-- 'tillerlaw03.VecJoined': WHATEVER THE INPUT: true; the input reads as it did. -/
def vecJoinedSpec : ChangeSpec := { name := "vecJoined", fn := fun _ => fun
  | [d1, d2, d3, d4] => { results := [.lit (.bool true)], args := [d1, d2, d3, d4] }
  | _ => none }
def vecJoinedRow : OpenClaim := { program := "ytefimleoffaggaa", sum := "de1f78f11e981ae8777f5b90847e0ef763c5f98f8b0d525410f61265cb506b11", func := "tiller/tillerlaw03.VecJoined", spec := "vecJoined", apart := false }
def VecJoinedSaid : Prop := vecJoinedRow.holds Try.pinned (OpenSpec.ofChange vecJoinedSpec)

/-- ITS FALSE NEIGHBOUR: 'it returns false'. Refute it at one input. -/
def vecJoinedWrong : ChangeSpec := { name := "vecJoined", fn := fun _ => fun
  | [d1, d2, d3, d4] => { results := [.lit (.bool false)], args := [d1, d2, d3, d4] }
  | _ => none }
def VecJoinedWrongFalsely : Prop := vecJoinedRow.holds Try.pinned (OpenSpec.ofChange vecJoinedWrong)

/-- 'tillerlaw03.VecOnes': WHATEVER THE INPUT: true; the input reads as it did. -/
def vecOnesSpec : ChangeSpec := { name := "vecOnes", fn := fun _ => fun
  | [d1, d2] => { results := [.lit (.bool true)], args := [d1, d2] }
  | _ => none }
def vecOnesRow : OpenClaim := { program := "ytefimleoffaggaa", sum := "de1f78f11e981ae8777f5b90847e0ef763c5f98f8b0d525410f61265cb506b11", func := "tiller/tillerlaw03.VecOnes", spec := "vecOnes", apart := false }
def VecOnesSaid : Prop := vecOnesRow.holds Try.pinned (OpenSpec.ofChange vecOnesSpec)

/-- ITS FALSE NEIGHBOUR: 'it returns false'. Refute it at one input. -/
def vecOnesWrong : ChangeSpec := { name := "vecOnes", fn := fun _ => fun
  | [d1, d2] => { results := [.lit (.bool false)], args := [d1, d2] }
  | _ => none }
def VecOnesWrongFalsely : Prop := vecOnesRow.holds Try.pinned (OpenSpec.ofChange vecOnesWrong)

/-- 'tillerlaw03.VecPlaces': WHATEVER THE INPUT: true; the input reads as it did. -/
def vecPlacesSpec : ChangeSpec := { name := "vecPlaces", fn := fun _ => fun
  | [d1, d2, d3] => { results := [.lit (.bool true)], args := [d1, d2, d3] }
  | _ => none }
def vecPlacesRow : OpenClaim := { program := "ytefimleoffaggaa", sum := "de1f78f11e981ae8777f5b90847e0ef763c5f98f8b0d525410f61265cb506b11", func := "tiller/tillerlaw03.VecPlaces", spec := "vecPlaces", recurses := true, apart := false }
def VecPlacesSaid : Prop := vecPlacesRow.holds Try.pinned (OpenSpec.ofChange vecPlacesSpec)

/-- ITS FALSE NEIGHBOUR: 'it returns false'. Refute it at one input. -/
def vecPlacesWrong : ChangeSpec := { name := "vecPlaces", fn := fun _ => fun
  | [d1, d2, d3] => { results := [.lit (.bool false)], args := [d1, d2, d3] }
  | _ => none }
def VecPlacesWrongFalsely : Prop := vecPlacesRow.holds Try.pinned (OpenSpec.ofChange vecPlacesWrong)

/-- 'tillerlaw03.VecTurns': WHATEVER THE INPUT: true; the input reads as it did. -/
def vecTurnsSpec : ChangeSpec := { name := "vecTurns", fn := fun _ => fun
  | [d1, d2, d3] => { results := [.lit (.bool true)], args := [d1, d2, d3] }
  | _ => none }
def vecTurnsRow : OpenClaim := { program := "ytefimleoffaggaa", sum := "de1f78f11e981ae8777f5b90847e0ef763c5f98f8b0d525410f61265cb506b11", func := "tiller/tillerlaw03.VecTurns", spec := "vecTurns", apart := false }
def VecTurnsSaid : Prop := vecTurnsRow.holds Try.pinned (OpenSpec.ofChange vecTurnsSpec)

/-- ITS FALSE NEIGHBOUR: 'it returns false'. Refute it at one input. -/
def vecTurnsWrong : ChangeSpec := { name := "vecTurns", fn := fun _ => fun
  | [d1, d2, d3] => { results := [.lit (.bool false)], args := [d1, d2, d3] }
  | _ => none }
def VecTurnsWrongFalsely : Prop := vecTurnsRow.holds Try.pinned (OpenSpec.ofChange vecTurnsWrong)

/-- 'tillerlaw04.MatRows': WHATEVER THE INPUT: true; the input reads as it did. -/
def matRowsSpec : ChangeSpec := { name := "matRows", fn := fun _ => fun
  | [d1, d2, d3] => { results := [.lit (.bool true)], args := [d1, d2, d3] }
  | _ => none }
def matRowsRow : OpenClaim := { program := "ytefimleoffaggaa", sum := "de1f78f11e981ae8777f5b90847e0ef763c5f98f8b0d525410f61265cb506b11", func := "tiller/tillerlaw04.MatRows", spec := "matRows", recurses := true, apart := false }
def MatRowsSaid : Prop := matRowsRow.holds Try.pinned (OpenSpec.ofChange matRowsSpec)

/-- ITS FALSE NEIGHBOUR: 'it returns false'. Refute it at one input. -/
def matRowsWrong : ChangeSpec := { name := "matRows", fn := fun _ => fun
  | [d1, d2, d3] => { results := [.lit (.bool false)], args := [d1, d2, d3] }
  | _ => none }
def MatRowsWrongFalsely : Prop := matRowsRow.holds Try.pinned (OpenSpec.ofChange matRowsWrong)

/-- 'tillerlaw04.MatTurned': WHATEVER THE INPUT: true; the input reads as it did. -/
def matTurnedSpec : ChangeSpec := { name := "matTurned", fn := fun _ => fun
  | [d1, d2] => { results := [.lit (.bool true)], args := [d1, d2] }
  | _ => none }
def matTurnedRow : OpenClaim := { program := "ytefimleoffaggaa", sum := "de1f78f11e981ae8777f5b90847e0ef763c5f98f8b0d525410f61265cb506b11", func := "tiller/tillerlaw04.MatTurned", spec := "matTurned", apart := false }
def MatTurnedSaid : Prop := matTurnedRow.holds Try.pinned (OpenSpec.ofChange matTurnedSpec)

/-- ITS FALSE NEIGHBOUR: 'it returns false'. Refute it at one input. -/
def matTurnedWrong : ChangeSpec := { name := "matTurned", fn := fun _ => fun
  | [d1, d2] => { results := [.lit (.bool false)], args := [d1, d2] }
  | _ => none }
def MatTurnedWrongFalsely : Prop := matTurnedRow.holds Try.pinned (OpenSpec.ofChange matTurnedWrong)

/-- 'tillerlaw04.MatColumns': WHATEVER THE INPUT: true; the input reads as it did. -/
def matColumnsSpec : ChangeSpec := { name := "matColumns", fn := fun _ => fun
  | [d1, d2, d3] => { results := [.lit (.bool true)], args := [d1, d2, d3] }
  | _ => none }
def matColumnsRow : OpenClaim := { program := "ytefimleoffaggaa", sum := "de1f78f11e981ae8777f5b90847e0ef763c5f98f8b0d525410f61265cb506b11", func := "tiller/tillerlaw04.MatColumns", spec := "matColumns", apart := false }
def MatColumnsSaid : Prop := matColumnsRow.holds Try.pinned (OpenSpec.ofChange matColumnsSpec)

/-- ITS FALSE NEIGHBOUR: 'it returns false'. Refute it at one input. -/
def matColumnsWrong : ChangeSpec := { name := "matColumns", fn := fun _ => fun
  | [d1, d2, d3] => { results := [.lit (.bool false)], args := [d1, d2, d3] }
  | _ => none }
def MatColumnsWrongFalsely : Prop := matColumnsRow.holds Try.pinned (OpenSpec.ofChange matColumnsWrong)

/-- 'tillerlaw04.MatTimes': WHATEVER THE INPUT: true; the input reads as it did. -/
def matTimesSpec : ChangeSpec := { name := "matTimes", fn := fun _ => fun
  | [d1, d2, d3] => { results := [.lit (.bool true)], args := [d1, d2, d3] }
  | _ => none }
def matTimesRow : OpenClaim := { program := "ytefimleoffaggaa", sum := "de1f78f11e981ae8777f5b90847e0ef763c5f98f8b0d525410f61265cb506b11", func := "tiller/tillerlaw04.MatTimes", spec := "matTimes", recurses := true, apart := false }
def MatTimesSaid : Prop := matTimesRow.holds Try.pinned (OpenSpec.ofChange matTimesSpec)

/-- ITS FALSE NEIGHBOUR: 'it returns false'. Refute it at one input. -/
def matTimesWrong : ChangeSpec := { name := "matTimes", fn := fun _ => fun
  | [d1, d2, d3] => { results := [.lit (.bool false)], args := [d1, d2, d3] }
  | _ => none }
def MatTimesWrongFalsely : Prop := matTimesRow.holds Try.pinned (OpenSpec.ofChange matTimesWrong)

/-- 'tillerlaw04.MatUnits': WHATEVER THE INPUT: true; the input reads as it did. -/
def matUnitsSpec : ChangeSpec := { name := "matUnits", fn := fun _ => fun
  | [d1, d2] => { results := [.lit (.bool true)], args := [d1, d2] }
  | _ => none }
def matUnitsRow : OpenClaim := { program := "ytefimleoffaggaa", sum := "de1f78f11e981ae8777f5b90847e0ef763c5f98f8b0d525410f61265cb506b11", func := "tiller/tillerlaw04.MatUnits", spec := "matUnits", apart := false }
def MatUnitsSaid : Prop := matUnitsRow.holds Try.pinned (OpenSpec.ofChange matUnitsSpec)

/-- ITS FALSE NEIGHBOUR: 'it returns false'. Refute it at one input. -/
def matUnitsWrong : ChangeSpec := { name := "matUnits", fn := fun _ => fun
  | [d1, d2] => { results := [.lit (.bool false)], args := [d1, d2] }
  | _ => none }
def MatUnitsWrongFalsely : Prop := matUnitsRow.holds Try.pinned (OpenSpec.ofChange matUnitsWrong)

/- THE SECOND FORM. 'bulk': how many values and letters a reading holds, each counted each time it is reached (what is shared counts as often as it is met; a slice's spare places count too). A statement '..UptoSaid' is the law's where the arguments, and the package variables that the reading takes, are together of bulk at most 1048576: NARROWER than '..Said'. Prove '..Said' where nothing that the law and all that it calls make is longer than what came in: it says more and counts as full. Else prove '..UptoSaid'. A law counts once. -/
mutual
def uptoBulk {H : Type} : DataW H → Nat
  | .lit (.string bytes) => bytes.length + 1
  | .lit _ => 1
  | .nil => 1
  | .ptr d => uptoBulk d + 1
  | .slice elems spare => uptoBulkAll elems + uptoBulkAll spare + 1
  | .agg parts => uptoBulkAll parts + 1
  | .iface _ d => uptoBulk d + 1
  | .map entries => uptoBulkEntries entries + 1
  | .held _ => 1
def uptoBulkAll {H : Type} : List (DataW H) → Nat
  | [] => 0
  | d :: r => uptoBulk d + uptoBulkAll r
def uptoBulkEntries {H : Type} : List (Lit × DataW H) → Nat
  | [] => 0
  | x :: r => uptoBulkEntry x + uptoBulkEntries r
def uptoBulkEntry {H : Type} : Lit × DataW H → Nat
  | (.string bytes, d) => bytes.length + uptoBulk d + 1
  | (_, d) => uptoBulk d + 1
 end
def uptoSmall : (H : Type) → List (DataW H) → Bool := fun _ ds => decide (uptoBulkAll ds ≤ 1048576)
def OpenSpec.upto (s : _root_.Go.ChangeSpec) : _root_.Go.OpenSpec := { _root_.Go.OpenSpec.ofChange s with cond := some uptoSmall }

/-- 'tillerlaw03.VecDots', WHERE WHAT IT READS IS OF BULK AT MOST 1048576: true; the input reads as it did. -/
def vecDotsUptoRow : OpenClaim := { program := "ytefimleoffaggaa", sum := "de1f78f11e981ae8777f5b90847e0ef763c5f98f8b0d525410f61265cb506b11", func := "tiller/tillerlaw03.VecDots", spec := "vecDots", recurses := true, apart := false, narrowed := true }
def VecDotsUptoSaid : Prop := vecDotsUptoRow.holds Try.pinned (OpenSpec.upto vecDotsSpec)

/-- 'tillerlaw03.VecJoined', WHERE WHAT IT READS IS OF BULK AT MOST 1048576: true; the input reads as it did. -/
def vecJoinedUptoRow : OpenClaim := { program := "ytefimleoffaggaa", sum := "de1f78f11e981ae8777f5b90847e0ef763c5f98f8b0d525410f61265cb506b11", func := "tiller/tillerlaw03.VecJoined", spec := "vecJoined", apart := false, narrowed := true }
def VecJoinedUptoSaid : Prop := vecJoinedUptoRow.holds Try.pinned (OpenSpec.upto vecJoinedSpec)

/-- 'tillerlaw03.VecOnes', WHERE WHAT IT READS IS OF BULK AT MOST 1048576: true; the input reads as it did. -/
def vecOnesUptoRow : OpenClaim := { program := "ytefimleoffaggaa", sum := "de1f78f11e981ae8777f5b90847e0ef763c5f98f8b0d525410f61265cb506b11", func := "tiller/tillerlaw03.VecOnes", spec := "vecOnes", apart := false, narrowed := true }
def VecOnesUptoSaid : Prop := vecOnesUptoRow.holds Try.pinned (OpenSpec.upto vecOnesSpec)

/-- 'tillerlaw03.VecPlaces', WHERE WHAT IT READS IS OF BULK AT MOST 1048576: true; the input reads as it did. -/
def vecPlacesUptoRow : OpenClaim := { program := "ytefimleoffaggaa", sum := "de1f78f11e981ae8777f5b90847e0ef763c5f98f8b0d525410f61265cb506b11", func := "tiller/tillerlaw03.VecPlaces", spec := "vecPlaces", recurses := true, apart := false, narrowed := true }
def VecPlacesUptoSaid : Prop := vecPlacesUptoRow.holds Try.pinned (OpenSpec.upto vecPlacesSpec)

/-- 'tillerlaw03.VecTurns', WHERE WHAT IT READS IS OF BULK AT MOST 1048576: true; the input reads as it did. -/
def vecTurnsUptoRow : OpenClaim := { program := "ytefimleoffaggaa", sum := "de1f78f11e981ae8777f5b90847e0ef763c5f98f8b0d525410f61265cb506b11", func := "tiller/tillerlaw03.VecTurns", spec := "vecTurns", apart := false, narrowed := true }
def VecTurnsUptoSaid : Prop := vecTurnsUptoRow.holds Try.pinned (OpenSpec.upto vecTurnsSpec)

/-- 'tillerlaw04.MatRows', WHERE WHAT IT READS IS OF BULK AT MOST 1048576: true; the input reads as it did. -/
def matRowsUptoRow : OpenClaim := { program := "ytefimleoffaggaa", sum := "de1f78f11e981ae8777f5b90847e0ef763c5f98f8b0d525410f61265cb506b11", func := "tiller/tillerlaw04.MatRows", spec := "matRows", recurses := true, apart := false, narrowed := true }
def MatRowsUptoSaid : Prop := matRowsUptoRow.holds Try.pinned (OpenSpec.upto matRowsSpec)

/-- 'tillerlaw04.MatTurned', WHERE WHAT IT READS IS OF BULK AT MOST 1048576: true; the input reads as it did. -/
def matTurnedUptoRow : OpenClaim := { program := "ytefimleoffaggaa", sum := "de1f78f11e981ae8777f5b90847e0ef763c5f98f8b0d525410f61265cb506b11", func := "tiller/tillerlaw04.MatTurned", spec := "matTurned", apart := false, narrowed := true }
def MatTurnedUptoSaid : Prop := matTurnedUptoRow.holds Try.pinned (OpenSpec.upto matTurnedSpec)

/-- 'tillerlaw04.MatColumns', WHERE WHAT IT READS IS OF BULK AT MOST 1048576: true; the input reads as it did. -/
def matColumnsUptoRow : OpenClaim := { program := "ytefimleoffaggaa", sum := "de1f78f11e981ae8777f5b90847e0ef763c5f98f8b0d525410f61265cb506b11", func := "tiller/tillerlaw04.MatColumns", spec := "matColumns", apart := false, narrowed := true }
def MatColumnsUptoSaid : Prop := matColumnsUptoRow.holds Try.pinned (OpenSpec.upto matColumnsSpec)

/-- 'tillerlaw04.MatTimes', WHERE WHAT IT READS IS OF BULK AT MOST 1048576: true; the input reads as it did. -/
def matTimesUptoRow : OpenClaim := { program := "ytefimleoffaggaa", sum := "de1f78f11e981ae8777f5b90847e0ef763c5f98f8b0d525410f61265cb506b11", func := "tiller/tillerlaw04.MatTimes", spec := "matTimes", recurses := true, apart := false, narrowed := true }
def MatTimesUptoSaid : Prop := matTimesUptoRow.holds Try.pinned (OpenSpec.upto matTimesSpec)

/-- 'tillerlaw04.MatUnits', WHERE WHAT IT READS IS OF BULK AT MOST 1048576: true; the input reads as it did. -/
def matUnitsUptoRow : OpenClaim := { program := "ytefimleoffaggaa", sum := "de1f78f11e981ae8777f5b90847e0ef763c5f98f8b0d525410f61265cb506b11", func := "tiller/tillerlaw04.MatUnits", spec := "matUnits", apart := false, narrowed := true }
def MatUnitsUptoSaid : Prop := matUnitsUptoRow.holds Try.pinned (OpenSpec.upto matUnitsSpec)

end Rows
end Go.Proofs.Ytefimleoffaggaa
