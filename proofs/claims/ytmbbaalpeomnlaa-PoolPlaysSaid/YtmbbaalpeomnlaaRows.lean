/-
  No cell of these rows narrows 'for every input' (looked for: loops, veiled, ifaces, maps, wideKeys, modest, calm, conditions, laid).
  DERIVED. THE GIVEN ROWS OF THIS SEAT. 5 by the template 'for every input the law returns true; each argument reads behind the call as it read before'; 0 by the template 'total and deterministic' (their statements: YtmbbaalpeomnlaaTotals.lean).
  GIVEN WITH THE SEED: the statements are not yours to turn. If you find one false, say at which input.
  Laid BY PROGRAM, IN A SANDBOX (cutbox-rows.mjs): the forced cells as the released guide's own fill.sh prints them over the translation 715a6f8e4693b21c… (all of the seat's roots in one cut). By AI agents, Wed Nov 11 2026. No macro, syntax, notation, axiom, sorry.
-/
import Derived.Test.YtmbbaalpeomnlaaChecked
import GoSem.Claim
import GoSem.ClaimJoined
import GoSem.ClaimMapViews
import Derived.JoinedTies
import Derived.KernelRfl
namespace Go.Proofs.Ytmbbaalpeomnlaa
/- THE CELL 'sum', in the pinned program and in every row, IS THE sha256 OF THE DUMP (.gsa) THAT YtmbbaalpeomnlaaProg.lean LOADS. Nothing in Lean hashes anything: it is a label: what it is worth is what the hold of that sum in a sandbox is worth. -/
noncomputable def Try.pinned : Pinned := { name := "ytmbbaalpeomnlaa", sum := "715a6f8e4693b21c22dcfb15cbb0ab8401013ca5a8e6d23436e35e10f9a124df", checked := Try.checked }
namespace Rows
def none {H : Type} : Left H := { results := [], args := [] }

/-- 'tillerlaw12.PoolHolds': WHATEVER THE INPUT: true; the input reads as it did. -/
def poolHoldsSpec : ChangeSpec := { name := "poolHolds", fn := fun _ => fun
  | [d] => { results := [.lit (.bool true)], args := [d] }
  | _ => none }
def poolHoldsRow : OpenClaim := { program := "ytmbbaalpeomnlaa", sum := "715a6f8e4693b21c22dcfb15cbb0ab8401013ca5a8e6d23436e35e10f9a124df", func := "tiller/tillerlaw12.PoolHolds", spec := "poolHolds", apart := false }
def PoolHoldsSaid : Prop := poolHoldsRow.holds Try.pinned (OpenSpec.ofChange poolHoldsSpec)

/-- ITS FALSE NEIGHBOUR: 'it returns false'. Refute it at one input. -/
def poolHoldsWrong : ChangeSpec := { name := "poolHolds", fn := fun _ => fun
  | [d] => { results := [.lit (.bool false)], args := [d] }
  | _ => none }
def PoolHoldsWrongFalsely : Prop := poolHoldsRow.holds Try.pinned (OpenSpec.ofChange poolHoldsWrong)

/-- 'tillerlaw12.PoolRow': WHATEVER THE INPUT: true; the input reads as it did. -/
def poolRowSpec : ChangeSpec := { name := "poolRow", fn := fun _ => fun
  | [d1, d2, d3] => { results := [.lit (.bool true)], args := [d1, d2, d3] }
  | _ => none }
def poolRowRow : OpenClaim := { program := "ytmbbaalpeomnlaa", sum := "715a6f8e4693b21c22dcfb15cbb0ab8401013ca5a8e6d23436e35e10f9a124df", func := "tiller/tillerlaw12.PoolRow", spec := "poolRow", apart := false }
def PoolRowSaid : Prop := poolRowRow.holds Try.pinned (OpenSpec.ofChange poolRowSpec)

/-- ITS FALSE NEIGHBOUR: 'it returns false'. Refute it at one input. -/
def poolRowWrong : ChangeSpec := { name := "poolRow", fn := fun _ => fun
  | [d1, d2, d3] => { results := [.lit (.bool false)], args := [d1, d2, d3] }
  | _ => none }
def PoolRowWrongFalsely : Prop := poolRowRow.holds Try.pinned (OpenSpec.ofChange poolRowWrong)

/-- 'tillerlaw12.PoolForgets': WHATEVER THE INPUT: true; the input reads as it did. -/
def poolForgetsSpec : ChangeSpec := { name := "poolForgets", fn := fun _ => fun
  | [d1, d2, d3] => { results := [.lit (.bool true)], args := [d1, d2, d3] }
  | _ => none }
def poolForgetsRow : OpenClaim := { program := "ytmbbaalpeomnlaa", sum := "715a6f8e4693b21c22dcfb15cbb0ab8401013ca5a8e6d23436e35e10f9a124df", func := "tiller/tillerlaw12.PoolForgets", spec := "poolForgets", apart := false }
def PoolForgetsSaid : Prop := poolForgetsRow.holds Try.pinned (OpenSpec.ofChange poolForgetsSpec)

/-- ITS FALSE NEIGHBOUR: 'it returns false'. Refute it at one input. -/
def poolForgetsWrong : ChangeSpec := { name := "poolForgets", fn := fun _ => fun
  | [d1, d2, d3] => { results := [.lit (.bool false)], args := [d1, d2, d3] }
  | _ => none }
def PoolForgetsWrongFalsely : Prop := poolForgetsRow.holds Try.pinned (OpenSpec.ofChange poolForgetsWrong)

/-- 'tillerlaw12.PoolPlays': WHATEVER THE INPUT: true; the input reads as it did. -/
def poolPlaysSpec : ChangeSpec := { name := "poolPlays", fn := fun _ => fun
  | [d1, d2] => { results := [.lit (.bool true)], args := [d1, d2] }
  | _ => none }
def poolPlaysRow : OpenClaim := { program := "ytmbbaalpeomnlaa", sum := "715a6f8e4693b21c22dcfb15cbb0ab8401013ca5a8e6d23436e35e10f9a124df", func := "tiller/tillerlaw12.PoolPlays", spec := "poolPlays", apart := false }
def PoolPlaysSaid : Prop := poolPlaysRow.holds Try.pinned (OpenSpec.ofChange poolPlaysSpec)

/-- ITS FALSE NEIGHBOUR: 'it returns false'. Refute it at one input. -/
def poolPlaysWrong : ChangeSpec := { name := "poolPlays", fn := fun _ => fun
  | [d1, d2] => { results := [.lit (.bool false)], args := [d1, d2] }
  | _ => none }
def PoolPlaysWrongFalsely : Prop := poolPlaysRow.holds Try.pinned (OpenSpec.ofChange poolPlaysWrong)

/-- 'tillerlaw12.PoolWhole': WHATEVER THE INPUT: true; the input reads as it did. -/
def poolWholeSpec : ChangeSpec := { name := "poolWhole", fn := fun _ => fun
  | [d1, d2] => { results := [.lit (.bool true)], args := [d1, d2] }
  | _ => none }
def poolWholeRow : OpenClaim := { program := "ytmbbaalpeomnlaa", sum := "715a6f8e4693b21c22dcfb15cbb0ab8401013ca5a8e6d23436e35e10f9a124df", func := "tiller/tillerlaw12.PoolWhole", spec := "poolWhole", apart := false }
def PoolWholeSaid : Prop := poolWholeRow.holds Try.pinned (OpenSpec.ofChange poolWholeSpec)

/-- ITS FALSE NEIGHBOUR: 'it returns false'. Refute it at one input. -/
def poolWholeWrong : ChangeSpec := { name := "poolWhole", fn := fun _ => fun
  | [d1, d2] => { results := [.lit (.bool false)], args := [d1, d2] }
  | _ => none }
def PoolWholeWrongFalsely : Prop := poolWholeRow.holds Try.pinned (OpenSpec.ofChange poolWholeWrong)

/- THE SECOND FORM. 'bulk': how many values and letters a reading holds, each counted each time it is reached (what is shared counts as often as it is met; a slice's spare places count too). A statement '..UptoSaid' is the law's where the arguments, and the package variables that the reading takes, are together of bulk at most 1048576: NARROWER than '..Said'. Prove '..Said' where nothing that the law and all that it calls make is longer than what came in: it says more and counts as full. Else prove '..UptoSaid'. A law counts once. -/
mutual
def uptoBulk {H : Type} : DataW H → Nat
  | .lit (.string bytes) => bytes.length + 1
  | .lit _ => 1
  | .nil => 1
  | .ptr d => uptoBulk d + 1
  | .slice elems spare => uptoBulkAll elems + uptoBulkAll spare + 1
  | .agg parts => uptoBulkAll parts + 1
  | .iface _ d => uptoBulk d + 1
  | .map entries => uptoBulkEntries entries + 1
  | .held _ => 1
def uptoBulkAll {H : Type} : List (DataW H) → Nat
  | [] => 0
  | d :: r => uptoBulk d + uptoBulkAll r
def uptoBulkEntries {H : Type} : List (Lit × DataW H) → Nat
  | [] => 0
  | x :: r => uptoBulkEntry x + uptoBulkEntries r
def uptoBulkEntry {H : Type} : Lit × DataW H → Nat
  | (.string bytes, d) => bytes.length + uptoBulk d + 1
  | (_, d) => uptoBulk d + 1
 end
def uptoSmall : (H : Type) → List (DataW H) → Bool := fun _ ds => decide (uptoBulkAll ds ≤ 1048576)
def OpenSpec.upto (s : _root_.Go.ChangeSpec) : _root_.Go.OpenSpec := { _root_.Go.OpenSpec.ofChange s with cond := some uptoSmall }

/-- 'tillerlaw12.PoolHolds', WHERE WHAT IT READS IS OF BULK AT MOST 1048576: true; the input reads as it did. -/
def poolHoldsUptoRow : OpenClaim := { program := "ytmbbaalpeomnlaa", sum := "715a6f8e4693b21c22dcfb15cbb0ab8401013ca5a8e6d23436e35e10f9a124df", func := "tiller/tillerlaw12.PoolHolds", spec := "poolHolds", apart := false, narrowed := true }
def PoolHoldsUptoSaid : Prop := poolHoldsUptoRow.holds Try.pinned (OpenSpec.upto poolHoldsSpec)

/-- 'tillerlaw12.PoolRow', WHERE WHAT IT READS IS OF BULK AT MOST 1048576: true; the input reads as it did. -/
def poolRowUptoRow : OpenClaim := { program := "ytmbbaalpeomnlaa", sum := "715a6f8e4693b21c22dcfb15cbb0ab8401013ca5a8e6d23436e35e10f9a124df", func := "tiller/tillerlaw12.PoolRow", spec := "poolRow", apart := false, narrowed := true }
def PoolRowUptoSaid : Prop := poolRowUptoRow.holds Try.pinned (OpenSpec.upto poolRowSpec)

/-- 'tillerlaw12.PoolForgets', WHERE WHAT IT READS IS OF BULK AT MOST 1048576: true; the input reads as it did. -/
def poolForgetsUptoRow : OpenClaim := { program := "ytmbbaalpeomnlaa", sum := "715a6f8e4693b21c22dcfb15cbb0ab8401013ca5a8e6d23436e35e10f9a124df", func := "tiller/tillerlaw12.PoolForgets", spec := "poolForgets", apart := false, narrowed := true }
def PoolForgetsUptoSaid : Prop := poolForgetsUptoRow.holds Try.pinned (OpenSpec.upto poolForgetsSpec)

/-- 'tillerlaw12.PoolPlays', WHERE WHAT IT READS IS OF BULK AT MOST 1048576: true; the input reads as it did. -/
def poolPlaysUptoRow : OpenClaim := { program := "ytmbbaalpeomnlaa", sum := "715a6f8e4693b21c22dcfb15cbb0ab8401013ca5a8e6d23436e35e10f9a124df", func := "tiller/tillerlaw12.PoolPlays", spec := "poolPlays", apart := false, narrowed := true }
def PoolPlaysUptoSaid : Prop := poolPlaysUptoRow.holds Try.pinned (OpenSpec.upto poolPlaysSpec)

/-- 'tillerlaw12.PoolWhole', WHERE WHAT IT READS IS OF BULK AT MOST 1048576: true; the input reads as it did. -/
def poolWholeUptoRow : OpenClaim := { program := "ytmbbaalpeomnlaa", sum := "715a6f8e4693b21c22dcfb15cbb0ab8401013ca5a8e6d23436e35e10f9a124df", func := "tiller/tillerlaw12.PoolWhole", spec := "poolWhole", apart := false, narrowed := true }
def PoolWholeUptoSaid : Prop := poolWholeUptoRow.holds Try.pinned (OpenSpec.upto poolWholeSpec)

end Rows
end Go.Proofs.Ytmbbaalpeomnlaa
