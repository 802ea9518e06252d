/-
  No cell of these rows narrows 'for every input' (looked for: loops, veiled, ifaces, maps, wideKeys, modest, calm, conditions, laid).
  DERIVED. THE GIVEN ROWS OF THIS SEAT. 4 by the template 'for every input the law returns true; each argument reads behind the call as it read before'; 0 by the template 'total and deterministic' (their statements: YthihgiaflbaigaaTotals.lean).
  GIVEN WITH THE SEED: the statements are not yours to turn. If you find one false, say at which input.
  Laid BY PROGRAM, IN A SANDBOX (cutbox-rows.mjs): the forced cells as the released guide's own fill.sh prints them over the translation 141bbc2c77f0d7a5… (all of the seat's roots in one cut). By AI agents, Wed Nov 11 2026. No macro, syntax, notation, axiom, sorry.
-/
import Derived.Test.YthihgiaflbaigaaChecked
import GoSem.Claim
import GoSem.ClaimJoined
import GoSem.ClaimMapViews
import Derived.JoinedTies
import Derived.KernelRfl
namespace Go.Proofs.Ythihgiaflbaigaa
/- THE CELL 'sum', in the pinned program and in every row, IS THE sha256 OF THE DUMP (.gsa) THAT YthihgiaflbaigaaProg.lean LOADS. Nothing in Lean hashes anything: it is a label: what it is worth is what the hold of that sum in a sandbox is worth. -/
noncomputable def Try.pinned : Pinned := { name := "ythihgiaflbaigaa", sum := "141bbc2c77f0d7a512705d6422e5b78e052d530d6d8e0bfb67526f05f6da54ac", checked := Try.checked }
namespace Rows
def none {H : Type} : Left H := { results := [], args := [] }

/-- 'tillerlaw24.RouterKeeps': WHATEVER THE INPUT: true; the input reads as it did. -/
def routerKeepsSpec : ChangeSpec := { name := "routerKeeps", fn := fun _ => fun
  | [d1, d2] => { results := [.lit (.bool true)], args := [d1, d2] }
  | _ => none }
def routerKeepsRow : OpenClaim := { program := "ythihgiaflbaigaa", sum := "141bbc2c77f0d7a512705d6422e5b78e052d530d6d8e0bfb67526f05f6da54ac", func := "tiller/tillerlaw24.RouterKeeps", spec := "routerKeeps", apart := false }
def RouterKeepsSaid : Prop := routerKeepsRow.holds Try.pinned (OpenSpec.ofChange routerKeepsSpec)

/-- ITS FALSE NEIGHBOUR: 'it returns false'. Refute it at one input. -/
def routerKeepsWrong : ChangeSpec := { name := "routerKeeps", fn := fun _ => fun
  | [d1, d2] => { results := [.lit (.bool false)], args := [d1, d2] }
  | _ => none }
def RouterKeepsWrongFalsely : Prop := routerKeepsRow.holds Try.pinned (OpenSpec.ofChange routerKeepsWrong)

/-- 'tillerlaw24.RouterTurns': WHATEVER THE INPUT: true; the input reads as it did. -/
def routerTurnsSpec : ChangeSpec := { name := "routerTurns", fn := fun _ => fun
  | [d1, d2, d3, d4] => { results := [.lit (.bool true)], args := [d1, d2, d3, d4] }
  | _ => none }
def routerTurnsRow : OpenClaim := { program := "ythihgiaflbaigaa", sum := "141bbc2c77f0d7a512705d6422e5b78e052d530d6d8e0bfb67526f05f6da54ac", func := "tiller/tillerlaw24.RouterTurns", spec := "routerTurns", unfollowed := true, recurses := true, apart := false }
def RouterTurnsSaid : Prop := routerTurnsRow.holds Try.pinned (OpenSpec.ofChange routerTurnsSpec)

/-- ITS FALSE NEIGHBOUR: 'it returns false'. Refute it at one input. -/
def routerTurnsWrong : ChangeSpec := { name := "routerTurns", fn := fun _ => fun
  | [d1, d2, d3, d4] => { results := [.lit (.bool false)], args := [d1, d2, d3, d4] }
  | _ => none }
def RouterTurnsWrongFalsely : Prop := routerTurnsRow.holds Try.pinned (OpenSpec.ofChange routerTurnsWrong)

/-- 'tillerlaw24.RouterPlays': WHATEVER THE INPUT: true; the input reads as it did. -/
def routerPlaysSpec : ChangeSpec := { name := "routerPlays", fn := fun _ => fun
  | [d1, d2] => { results := [.lit (.bool true)], args := [d1, d2] }
  | _ => none }
def routerPlaysRow : OpenClaim := { program := "ythihgiaflbaigaa", sum := "141bbc2c77f0d7a512705d6422e5b78e052d530d6d8e0bfb67526f05f6da54ac", func := "tiller/tillerlaw24.RouterPlays", spec := "routerPlays", unfollowed := true, recurses := true, apart := false }
def RouterPlaysSaid : Prop := routerPlaysRow.holds Try.pinned (OpenSpec.ofChange routerPlaysSpec)

/-- ITS FALSE NEIGHBOUR: 'it returns false'. Refute it at one input. -/
def routerPlaysWrong : ChangeSpec := { name := "routerPlays", fn := fun _ => fun
  | [d1, d2] => { results := [.lit (.bool false)], args := [d1, d2] }
  | _ => none }
def RouterPlaysWrongFalsely : Prop := routerPlaysRow.holds Try.pinned (OpenSpec.ofChange routerPlaysWrong)

/-- 'tillerlaw24.RouterOnce': WHATEVER THE INPUT: true; the input reads as it did. -/
def routerOnceSpec : ChangeSpec := { name := "routerOnce", fn := fun _ => fun
  | [d1, d2] => { results := [.lit (.bool true)], args := [d1, d2] }
  | _ => none }
def routerOnceRow : OpenClaim := { program := "ythihgiaflbaigaa", sum := "141bbc2c77f0d7a512705d6422e5b78e052d530d6d8e0bfb67526f05f6da54ac", func := "tiller/tillerlaw24.RouterOnce", spec := "routerOnce", unfollowed := true, recurses := true, apart := false }
def RouterOnceSaid : Prop := routerOnceRow.holds Try.pinned (OpenSpec.ofChange routerOnceSpec)

/-- ITS FALSE NEIGHBOUR: 'it returns false'. Refute it at one input. -/
def routerOnceWrong : ChangeSpec := { name := "routerOnce", fn := fun _ => fun
  | [d1, d2] => { results := [.lit (.bool false)], args := [d1, d2] }
  | _ => none }
def RouterOnceWrongFalsely : Prop := routerOnceRow.holds Try.pinned (OpenSpec.ofChange routerOnceWrong)

/- THE SECOND FORM. 'bulk': how many values and letters a reading holds, each counted each time it is reached (what is shared counts as often as it is met; a slice's spare places count too). A statement '..UptoSaid' is the law's where the arguments, and the package variables that the reading takes, are together of bulk at most 1048576: NARROWER than '..Said'. Prove '..Said' where nothing that the law and all that it calls make is longer than what came in: it says more and counts as full. Else prove '..UptoSaid'. A law counts once. -/
mutual
def uptoBulk {H : Type} : DataW H → Nat
  | .lit (.string bytes) => bytes.length + 1
  | .lit _ => 1
  | .nil => 1
  | .ptr d => uptoBulk d + 1
  | .slice elems spare => uptoBulkAll elems + uptoBulkAll spare + 1
  | .agg parts => uptoBulkAll parts + 1
  | .iface _ d => uptoBulk d + 1
  | .map entries => uptoBulkEntries entries + 1
  | .held _ => 1
def uptoBulkAll {H : Type} : List (DataW H) → Nat
  | [] => 0
  | d :: r => uptoBulk d + uptoBulkAll r
def uptoBulkEntries {H : Type} : List (Lit × DataW H) → Nat
  | [] => 0
  | x :: r => uptoBulkEntry x + uptoBulkEntries r
def uptoBulkEntry {H : Type} : Lit × DataW H → Nat
  | (.string bytes, d) => bytes.length + uptoBulk d + 1
  | (_, d) => uptoBulk d + 1
 end
def uptoSmall : (H : Type) → List (DataW H) → Bool := fun _ ds => decide (uptoBulkAll ds ≤ 1048576)
def OpenSpec.upto (s : _root_.Go.ChangeSpec) : _root_.Go.OpenSpec := { _root_.Go.OpenSpec.ofChange s with cond := some uptoSmall }

/-- 'tillerlaw24.RouterKeeps', WHERE WHAT IT READS IS OF BULK AT MOST 1048576: true; the input reads as it did. -/
def routerKeepsUptoRow : OpenClaim := { program := "ythihgiaflbaigaa", sum := "141bbc2c77f0d7a512705d6422e5b78e052d530d6d8e0bfb67526f05f6da54ac", func := "tiller/tillerlaw24.RouterKeeps", spec := "routerKeeps", apart := false, narrowed := true }
def RouterKeepsUptoSaid : Prop := routerKeepsUptoRow.holds Try.pinned (OpenSpec.upto routerKeepsSpec)

/-- 'tillerlaw24.RouterTurns', WHERE WHAT IT READS IS OF BULK AT MOST 1048576: true; the input reads as it did. -/
def routerTurnsUptoRow : OpenClaim := { program := "ythihgiaflbaigaa", sum := "141bbc2c77f0d7a512705d6422e5b78e052d530d6d8e0bfb67526f05f6da54ac", func := "tiller/tillerlaw24.RouterTurns", spec := "routerTurns", unfollowed := true, recurses := true, apart := false, narrowed := true }
def RouterTurnsUptoSaid : Prop := routerTurnsUptoRow.holds Try.pinned (OpenSpec.upto routerTurnsSpec)

/-- 'tillerlaw24.RouterPlays', WHERE WHAT IT READS IS OF BULK AT MOST 1048576: true; the input reads as it did. -/
def routerPlaysUptoRow : OpenClaim := { program := "ythihgiaflbaigaa", sum := "141bbc2c77f0d7a512705d6422e5b78e052d530d6d8e0bfb67526f05f6da54ac", func := "tiller/tillerlaw24.RouterPlays", spec := "routerPlays", unfollowed := true, recurses := true, apart := false, narrowed := true }
def RouterPlaysUptoSaid : Prop := routerPlaysUptoRow.holds Try.pinned (OpenSpec.upto routerPlaysSpec)

/-- 'tillerlaw24.RouterOnce', WHERE WHAT IT READS IS OF BULK AT MOST 1048576: true; the input reads as it did. -/
def routerOnceUptoRow : OpenClaim := { program := "ythihgiaflbaigaa", sum := "141bbc2c77f0d7a512705d6422e5b78e052d530d6d8e0bfb67526f05f6da54ac", func := "tiller/tillerlaw24.RouterOnce", spec := "routerOnce", unfollowed := true, recurses := true, apart := false, narrowed := true }
def RouterOnceUptoSaid : Prop := routerOnceUptoRow.holds Try.pinned (OpenSpec.upto routerOnceSpec)

end Rows
end Go.Proofs.Ythihgiaflbaigaa
