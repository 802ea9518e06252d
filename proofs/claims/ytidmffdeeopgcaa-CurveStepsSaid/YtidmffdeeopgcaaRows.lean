/-
  No cell of these rows narrows 'for every input' (looked for: loops, veiled, ifaces, maps, wideKeys, modest, calm, conditions, laid).
  DERIVED. THE GIVEN ROWS OF THIS SEAT. 5 by the template 'for every input the law returns true; each argument reads behind the call as it read before'; 0 by the template 'total and deterministic' (their statements: YtidmffdeeopgcaaTotals.lean).
  GIVEN WITH THE SEED: the statements are not yours to turn. If you find one false, say at which input.
  Laid BY PROGRAM, IN A SANDBOX (cutbox-rows.mjs): the forced cells as the released guide's own fill.sh prints them over the translation 0a45ee7d23df8472… (all of the seat's roots in one cut). By AI agents, Wed Nov 11 2026. No macro, syntax, notation, axiom, sorry.
-/
import Derived.Test.YtidmffdeeopgcaaChecked
import GoSem.Claim
import GoSem.ClaimJoined
import GoSem.ClaimMapViews
import Derived.JoinedTies
import Derived.KernelRfl
namespace Go.Proofs.Ytidmffdeeopgcaa
/- THE CELL 'sum', in the pinned program and in every row, IS THE sha256 OF THE DUMP (.gsa) THAT YtidmffdeeopgcaaProg.lean LOADS. Nothing in Lean hashes anything: it is a label: what it is worth is what the hold of that sum in a sandbox is worth. -/
noncomputable def Try.pinned : Pinned := { name := "ytidmffdeeopgcaa", sum := "0a45ee7d23df8472c47a3d09498391bf27ebb844dc23834a046f894fecc95647", checked := Try.checked }
namespace Rows
def none {H : Type} : Left H := { results := [], args := [] }

/-- 'tillerlaw02.CurvePows': WHATEVER THE INPUT: true; the input reads as it did. -/
def curvePowsSpec : ChangeSpec := { name := "curvePows", fn := fun _ => fun
  | [d1, d2] => { results := [.lit (.bool true)], args := [d1, d2] }
  | _ => none }
def curvePowsRow : OpenClaim := { program := "ytidmffdeeopgcaa", sum := "0a45ee7d23df8472c47a3d09498391bf27ebb844dc23834a046f894fecc95647", func := "tiller/tillerlaw02.CurvePows", spec := "curvePows", apart := false }
def CurvePowsSaid : Prop := curvePowsRow.holds Try.pinned (OpenSpec.ofChange curvePowsSpec)

/-- ITS FALSE NEIGHBOUR: 'it returns false'. Refute it at one input. -/
def curvePowsWrong : ChangeSpec := { name := "curvePows", fn := fun _ => fun
  | [d1, d2] => { results := [.lit (.bool false)], args := [d1, d2] }
  | _ => none }
def CurvePowsWrongFalsely : Prop := curvePowsRow.holds Try.pinned (OpenSpec.ofChange curvePowsWrong)

/-- 'tillerlaw02.CurveRoots': WHATEVER THE INPUT: true; the input reads as it did. -/
def curveRootsSpec : ChangeSpec := { name := "curveRoots", fn := fun _ => fun
  | [d1, d2] => { results := [.lit (.bool true)], args := [d1, d2] }
  | _ => none }
def curveRootsRow : OpenClaim := { program := "ytidmffdeeopgcaa", sum := "0a45ee7d23df8472c47a3d09498391bf27ebb844dc23834a046f894fecc95647", func := "tiller/tillerlaw02.CurveRoots", spec := "curveRoots", apart := false }
def CurveRootsSaid : Prop := curveRootsRow.holds Try.pinned (OpenSpec.ofChange curveRootsSpec)

/-- ITS FALSE NEIGHBOUR: 'it returns false'. Refute it at one input. -/
def curveRootsWrong : ChangeSpec := { name := "curveRoots", fn := fun _ => fun
  | [d1, d2] => { results := [.lit (.bool false)], args := [d1, d2] }
  | _ => none }
def CurveRootsWrongFalsely : Prop := curveRootsRow.holds Try.pinned (OpenSpec.ofChange curveRootsWrong)

/-- 'tillerlaw02.CurveShapes': WHATEVER THE INPUT: true; the input reads as it did. -/
def curveShapesSpec : ChangeSpec := { name := "curveShapes", fn := fun _ => fun
  | [d1, d2, d3] => { results := [.lit (.bool true)], args := [d1, d2, d3] }
  | _ => none }
def curveShapesRow : OpenClaim := { program := "ytidmffdeeopgcaa", sum := "0a45ee7d23df8472c47a3d09498391bf27ebb844dc23834a046f894fecc95647", func := "tiller/tillerlaw02.CurveShapes", spec := "curveShapes", apart := false }
def CurveShapesSaid : Prop := curveShapesRow.holds Try.pinned (OpenSpec.ofChange curveShapesSpec)

/-- ITS FALSE NEIGHBOUR: 'it returns false'. Refute it at one input. -/
def curveShapesWrong : ChangeSpec := { name := "curveShapes", fn := fun _ => fun
  | [d1, d2, d3] => { results := [.lit (.bool false)], args := [d1, d2, d3] }
  | _ => none }
def CurveShapesWrongFalsely : Prop := curveShapesRow.holds Try.pinned (OpenSpec.ofChange curveShapesWrong)

/-- 'tillerlaw02.CurveSteps': WHATEVER THE INPUT: true; the input reads as it did. -/
def curveStepsSpec : ChangeSpec := { name := "curveSteps", fn := fun _ => fun
  | [d1, d2, d3] => { results := [.lit (.bool true)], args := [d1, d2, d3] }
  | _ => none }
def curveStepsRow : OpenClaim := { program := "ytidmffdeeopgcaa", sum := "0a45ee7d23df8472c47a3d09498391bf27ebb844dc23834a046f894fecc95647", func := "tiller/tillerlaw02.CurveSteps", spec := "curveSteps", apart := false }
def CurveStepsSaid : Prop := curveStepsRow.holds Try.pinned (OpenSpec.ofChange curveStepsSpec)

/-- ITS FALSE NEIGHBOUR: 'it returns false'. Refute it at one input. -/
def curveStepsWrong : ChangeSpec := { name := "curveSteps", fn := fun _ => fun
  | [d1, d2, d3] => { results := [.lit (.bool false)], args := [d1, d2, d3] }
  | _ => none }
def CurveStepsWrongFalsely : Prop := curveStepsRow.holds Try.pinned (OpenSpec.ofChange curveStepsWrong)

/-- 'tillerlaw02.CurveNear': WHATEVER THE INPUT: true; the input reads as it did. -/
def curveNearSpec : ChangeSpec := { name := "curveNear", fn := fun _ => fun
  | [d] => { results := [.lit (.bool true)], args := [d] }
  | _ => none }
def curveNearRow : OpenClaim := { program := "ytidmffdeeopgcaa", sum := "0a45ee7d23df8472c47a3d09498391bf27ebb844dc23834a046f894fecc95647", func := "tiller/tillerlaw02.CurveNear", spec := "curveNear", apart := false }
def CurveNearSaid : Prop := curveNearRow.holds Try.pinned (OpenSpec.ofChange curveNearSpec)

/-- ITS FALSE NEIGHBOUR: 'it returns false'. Refute it at one input. -/
def curveNearWrong : ChangeSpec := { name := "curveNear", fn := fun _ => fun
  | [d] => { results := [.lit (.bool false)], args := [d] }
  | _ => none }
def CurveNearWrongFalsely : Prop := curveNearRow.holds Try.pinned (OpenSpec.ofChange curveNearWrong)

/- THE SECOND FORM. 'bulk': how many values and letters a reading holds, each counted each time it is reached (what is shared counts as often as it is met; a slice's spare places count too). A statement '..UptoSaid' is the law's where the arguments, and the package variables that the reading takes, are together of bulk at most 1048576: NARROWER than '..Said'. Prove '..Said' where nothing that the law and all that it calls make is longer than what came in: it says more and counts as full. Else prove '..UptoSaid'. A law counts once. -/
mutual
def uptoBulk {H : Type} : DataW H → Nat
  | .lit (.string bytes) => bytes.length + 1
  | .lit _ => 1
  | .nil => 1
  | .ptr d => uptoBulk d + 1
  | .slice elems spare => uptoBulkAll elems + uptoBulkAll spare + 1
  | .agg parts => uptoBulkAll parts + 1
  | .iface _ d => uptoBulk d + 1
  | .map entries => uptoBulkEntries entries + 1
  | .held _ => 1
def uptoBulkAll {H : Type} : List (DataW H) → Nat
  | [] => 0
  | d :: r => uptoBulk d + uptoBulkAll r
def uptoBulkEntries {H : Type} : List (Lit × DataW H) → Nat
  | [] => 0
  | x :: r => uptoBulkEntry x + uptoBulkEntries r
def uptoBulkEntry {H : Type} : Lit × DataW H → Nat
  | (.string bytes, d) => bytes.length + uptoBulk d + 1
  | (_, d) => uptoBulk d + 1
 end
def uptoSmall : (H : Type) → List (DataW H) → Bool := fun _ ds => decide (uptoBulkAll ds ≤ 1048576)
def OpenSpec.upto (s : _root_.Go.ChangeSpec) : _root_.Go.OpenSpec := { _root_.Go.OpenSpec.ofChange s with cond := some uptoSmall }

/-- 'tillerlaw02.CurvePows', WHERE WHAT IT READS IS OF BULK AT MOST 1048576: true; the input reads as it did. -/
def curvePowsUptoRow : OpenClaim := { program := "ytidmffdeeopgcaa", sum := "0a45ee7d23df8472c47a3d09498391bf27ebb844dc23834a046f894fecc95647", func := "tiller/tillerlaw02.CurvePows", spec := "curvePows", apart := false, narrowed := true }
def CurvePowsUptoSaid : Prop := curvePowsUptoRow.holds Try.pinned (OpenSpec.upto curvePowsSpec)

/-- 'tillerlaw02.CurveRoots', WHERE WHAT IT READS IS OF BULK AT MOST 1048576: true; the input reads as it did. -/
def curveRootsUptoRow : OpenClaim := { program := "ytidmffdeeopgcaa", sum := "0a45ee7d23df8472c47a3d09498391bf27ebb844dc23834a046f894fecc95647", func := "tiller/tillerlaw02.CurveRoots", spec := "curveRoots", apart := false, narrowed := true }
def CurveRootsUptoSaid : Prop := curveRootsUptoRow.holds Try.pinned (OpenSpec.upto curveRootsSpec)

/-- 'tillerlaw02.CurveShapes', WHERE WHAT IT READS IS OF BULK AT MOST 1048576: true; the input reads as it did. -/
def curveShapesUptoRow : OpenClaim := { program := "ytidmffdeeopgcaa", sum := "0a45ee7d23df8472c47a3d09498391bf27ebb844dc23834a046f894fecc95647", func := "tiller/tillerlaw02.CurveShapes", spec := "curveShapes", apart := false, narrowed := true }
def CurveShapesUptoSaid : Prop := curveShapesUptoRow.holds Try.pinned (OpenSpec.upto curveShapesSpec)

/-- 'tillerlaw02.CurveSteps', WHERE WHAT IT READS IS OF BULK AT MOST 1048576: true; the input reads as it did. -/
def curveStepsUptoRow : OpenClaim := { program := "ytidmffdeeopgcaa", sum := "0a45ee7d23df8472c47a3d09498391bf27ebb844dc23834a046f894fecc95647", func := "tiller/tillerlaw02.CurveSteps", spec := "curveSteps", apart := false, narrowed := true }
def CurveStepsUptoSaid : Prop := curveStepsUptoRow.holds Try.pinned (OpenSpec.upto curveStepsSpec)

/-- 'tillerlaw02.CurveNear', WHERE WHAT IT READS IS OF BULK AT MOST 1048576: true; the input reads as it did. -/
def curveNearUptoRow : OpenClaim := { program := "ytidmffdeeopgcaa", sum := "0a45ee7d23df8472c47a3d09498391bf27ebb844dc23834a046f894fecc95647", func := "tiller/tillerlaw02.CurveNear", spec := "curveNear", apart := false, narrowed := true }
def CurveNearUptoSaid : Prop := curveNearUptoRow.holds Try.pinned (OpenSpec.upto curveNearSpec)

end Rows
end Go.Proofs.Ytidmffdeeopgcaa
