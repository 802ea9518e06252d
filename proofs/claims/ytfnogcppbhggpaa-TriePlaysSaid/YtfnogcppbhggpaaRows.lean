/-
  No cell of these rows narrows 'for every input' (looked for: loops, veiled, ifaces, maps, wideKeys, modest, calm, conditions, laid).
  DERIVED. THE GIVEN ROWS OF THIS SEAT. 6 by the template 'for every input the law returns true; each argument reads behind the call as it read before'; 0 by the template 'total and deterministic' (their statements: YtfnogcppbhggpaaTotals.lean).
  GIVEN WITH THE SEED: the statements are not yours to turn. If you find one false, say at which input.
  Laid BY PROGRAM, IN A SANDBOX (cutbox-rows.mjs): the forced cells as the released guide's own fill.sh prints them over the translation f5a3aabb6442f257… (all of the seat's roots in one cut). By AI agents, Wed Nov 11 2026. No macro, syntax, notation, axiom, sorry.
-/
import Derived.Test.YtfnogcppbhggpaaChecked
import GoSem.Claim
import GoSem.ClaimJoined
import GoSem.ClaimMapViews
import Derived.JoinedTies
import Derived.KernelRfl
namespace Go.Proofs.Ytfnogcppbhggpaa
/- THE CELL 'sum', in the pinned program and in every row, IS THE sha256 OF THE DUMP (.gsa) THAT YtfnogcppbhggpaaProg.lean LOADS. Nothing in Lean hashes anything: it is a label: what it is worth is what the hold of that sum in a sandbox is worth. -/
noncomputable def Try.pinned : Pinned := { name := "ytfnogcppbhggpaa", sum := "f5a3aabb6442f25784f0c2a86853cf65e6906ecc27a494b4e289c35b9ac1ea3d", checked := Try.checked }
namespace Rows
def none {H : Type} : Left H := { results := [], args := [] }

/-- 'tillerlaw13.TrieFull': WHATEVER THE INPUT: true; the input reads as it did. -/
def trieFullSpec : ChangeSpec := { name := "trieFull", fn := fun _ => fun
  | [d] => { results := [.lit (.bool true)], args := [d] }
  | _ => none }
def trieFullRow : OpenClaim := { program := "ytfnogcppbhggpaa", sum := "f5a3aabb6442f25784f0c2a86853cf65e6906ecc27a494b4e289c35b9ac1ea3d", func := "tiller/tillerlaw13.TrieFull", spec := "trieFull", apart := false }
def TrieFullSaid : Prop := trieFullRow.holds Try.pinned (OpenSpec.ofChange trieFullSpec)

/-- ITS FALSE NEIGHBOUR: 'it returns false'. Refute it at one input. -/
def trieFullWrong : ChangeSpec := { name := "trieFull", fn := fun _ => fun
  | [d] => { results := [.lit (.bool false)], args := [d] }
  | _ => none }
def TrieFullWrongFalsely : Prop := trieFullRow.holds Try.pinned (OpenSpec.ofChange trieFullWrong)

/-- 'tillerlaw13.TrieFronts': WHATEVER THE INPUT: true; the input reads as it did. -/
def trieFrontsSpec : ChangeSpec := { name := "trieFronts", fn := fun _ => fun
  | [d1, d2] => { results := [.lit (.bool true)], args := [d1, d2] }
  | _ => none }
def trieFrontsRow : OpenClaim := { program := "ytfnogcppbhggpaa", sum := "f5a3aabb6442f25784f0c2a86853cf65e6906ecc27a494b4e289c35b9ac1ea3d", func := "tiller/tillerlaw13.TrieFronts", spec := "trieFronts", apart := false }
def TrieFrontsSaid : Prop := trieFrontsRow.holds Try.pinned (OpenSpec.ofChange trieFrontsSpec)

/-- ITS FALSE NEIGHBOUR: 'it returns false'. Refute it at one input. -/
def trieFrontsWrong : ChangeSpec := { name := "trieFronts", fn := fun _ => fun
  | [d1, d2] => { results := [.lit (.bool false)], args := [d1, d2] }
  | _ => none }
def TrieFrontsWrongFalsely : Prop := trieFrontsRow.holds Try.pinned (OpenSpec.ofChange trieFrontsWrong)

/-- 'tillerlaw13.TrieKeeps': WHATEVER THE INPUT: true; the input reads as it did. -/
def trieKeepsSpec : ChangeSpec := { name := "trieKeeps", fn := fun _ => fun
  | [d] => { results := [.lit (.bool true)], args := [d] }
  | _ => none }
def trieKeepsRow : OpenClaim := { program := "ytfnogcppbhggpaa", sum := "f5a3aabb6442f25784f0c2a86853cf65e6906ecc27a494b4e289c35b9ac1ea3d", func := "tiller/tillerlaw13.TrieKeeps", spec := "trieKeeps", unfollowed := true, recurses := true, apart := false }
def TrieKeepsSaid : Prop := trieKeepsRow.holds Try.pinned (OpenSpec.ofChange trieKeepsSpec)

/-- ITS FALSE NEIGHBOUR: 'it returns false'. Refute it at one input. -/
def trieKeepsWrong : ChangeSpec := { name := "trieKeeps", fn := fun _ => fun
  | [d] => { results := [.lit (.bool false)], args := [d] }
  | _ => none }
def TrieKeepsWrongFalsely : Prop := trieKeepsRow.holds Try.pinned (OpenSpec.ofChange trieKeepsWrong)

/-- 'tillerlaw13.TrieOrder': WHATEVER THE INPUT: true; the input reads as it did. -/
def trieOrderSpec : ChangeSpec := { name := "trieOrder", fn := fun _ => fun
  | [d] => { results := [.lit (.bool true)], args := [d] }
  | _ => none }
def trieOrderRow : OpenClaim := { program := "ytfnogcppbhggpaa", sum := "f5a3aabb6442f25784f0c2a86853cf65e6906ecc27a494b4e289c35b9ac1ea3d", func := "tiller/tillerlaw13.TrieOrder", spec := "trieOrder", unfollowed := true, recurses := true, apart := false }
def TrieOrderSaid : Prop := trieOrderRow.holds Try.pinned (OpenSpec.ofChange trieOrderSpec)

/-- ITS FALSE NEIGHBOUR: 'it returns false'. Refute it at one input. -/
def trieOrderWrong : ChangeSpec := { name := "trieOrder", fn := fun _ => fun
  | [d] => { results := [.lit (.bool false)], args := [d] }
  | _ => none }
def TrieOrderWrongFalsely : Prop := trieOrderRow.holds Try.pinned (OpenSpec.ofChange trieOrderWrong)

/-- 'tillerlaw13.TrieBack': WHATEVER THE INPUT: true; the input reads as it did. -/
def trieBackSpec : ChangeSpec := { name := "trieBack", fn := fun _ => fun
  | [d1, d2, d3] => { results := [.lit (.bool true)], args := [d1, d2, d3] }
  | _ => none }
def trieBackRow : OpenClaim := { program := "ytfnogcppbhggpaa", sum := "f5a3aabb6442f25784f0c2a86853cf65e6906ecc27a494b4e289c35b9ac1ea3d", func := "tiller/tillerlaw13.TrieBack", spec := "trieBack", unfollowed := true, recurses := true, apart := false }
def TrieBackSaid : Prop := trieBackRow.holds Try.pinned (OpenSpec.ofChange trieBackSpec)

/-- ITS FALSE NEIGHBOUR: 'it returns false'. Refute it at one input. -/
def trieBackWrong : ChangeSpec := { name := "trieBack", fn := fun _ => fun
  | [d1, d2, d3] => { results := [.lit (.bool false)], args := [d1, d2, d3] }
  | _ => none }
def TrieBackWrongFalsely : Prop := trieBackRow.holds Try.pinned (OpenSpec.ofChange trieBackWrong)

/-- 'tillerlaw13.TriePlays': WHATEVER THE INPUT: true; the input reads as it did. -/
def triePlaysSpec : ChangeSpec := { name := "triePlays", fn := fun _ => fun
  | [d1, d2] => { results := [.lit (.bool true)], args := [d1, d2] }
  | _ => none }
def triePlaysRow : OpenClaim := { program := "ytfnogcppbhggpaa", sum := "f5a3aabb6442f25784f0c2a86853cf65e6906ecc27a494b4e289c35b9ac1ea3d", func := "tiller/tillerlaw13.TriePlays", spec := "triePlays", unfollowed := true, recurses := true, apart := false }
def TriePlaysSaid : Prop := triePlaysRow.holds Try.pinned (OpenSpec.ofChange triePlaysSpec)

/-- ITS FALSE NEIGHBOUR: 'it returns false'. Refute it at one input. -/
def triePlaysWrong : ChangeSpec := { name := "triePlays", fn := fun _ => fun
  | [d1, d2] => { results := [.lit (.bool false)], args := [d1, d2] }
  | _ => none }
def TriePlaysWrongFalsely : Prop := triePlaysRow.holds Try.pinned (OpenSpec.ofChange triePlaysWrong)

/- THE SECOND FORM. 'bulk': how many values and letters a reading holds, each counted each time it is reached (what is shared counts as often as it is met; a slice's spare places count too). A statement '..UptoSaid' is the law's where the arguments, and the package variables that the reading takes, are together of bulk at most 1048576: NARROWER than '..Said'. Prove '..Said' where nothing that the law and all that it calls make is longer than what came in: it says more and counts as full. Else prove '..UptoSaid'. A law counts once. -/
mutual
def uptoBulk {H : Type} : DataW H → Nat
  | .lit (.string bytes) => bytes.length + 1
  | .lit _ => 1
  | .nil => 1
  | .ptr d => uptoBulk d + 1
  | .slice elems spare => uptoBulkAll elems + uptoBulkAll spare + 1
  | .agg parts => uptoBulkAll parts + 1
  | .iface _ d => uptoBulk d + 1
  | .map entries => uptoBulkEntries entries + 1
  | .held _ => 1
def uptoBulkAll {H : Type} : List (DataW H) → Nat
  | [] => 0
  | d :: r => uptoBulk d + uptoBulkAll r
def uptoBulkEntries {H : Type} : List (Lit × DataW H) → Nat
  | [] => 0
  | x :: r => uptoBulkEntry x + uptoBulkEntries r
def uptoBulkEntry {H : Type} : Lit × DataW H → Nat
  | (.string bytes, d) => bytes.length + uptoBulk d + 1
  | (_, d) => uptoBulk d + 1
 end
def uptoSmall : (H : Type) → List (DataW H) → Bool := fun _ ds => decide (uptoBulkAll ds ≤ 1048576)
def OpenSpec.upto (s : _root_.Go.ChangeSpec) : _root_.Go.OpenSpec := { _root_.Go.OpenSpec.ofChange s with cond := some uptoSmall }

/-- 'tillerlaw13.TrieFull', WHERE WHAT IT READS IS OF BULK AT MOST 1048576: true; the input reads as it did. -/
def trieFullUptoRow : OpenClaim := { program := "ytfnogcppbhggpaa", sum := "f5a3aabb6442f25784f0c2a86853cf65e6906ecc27a494b4e289c35b9ac1ea3d", func := "tiller/tillerlaw13.TrieFull", spec := "trieFull", apart := false, narrowed := true }
def TrieFullUptoSaid : Prop := trieFullUptoRow.holds Try.pinned (OpenSpec.upto trieFullSpec)

/-- 'tillerlaw13.TrieFronts', WHERE WHAT IT READS IS OF BULK AT MOST 1048576: true; the input reads as it did. -/
def trieFrontsUptoRow : OpenClaim := { program := "ytfnogcppbhggpaa", sum := "f5a3aabb6442f25784f0c2a86853cf65e6906ecc27a494b4e289c35b9ac1ea3d", func := "tiller/tillerlaw13.TrieFronts", spec := "trieFronts", apart := false, narrowed := true }
def TrieFrontsUptoSaid : Prop := trieFrontsUptoRow.holds Try.pinned (OpenSpec.upto trieFrontsSpec)

/-- 'tillerlaw13.TrieKeeps', WHERE WHAT IT READS IS OF BULK AT MOST 1048576: true; the input reads as it did. -/
def trieKeepsUptoRow : OpenClaim := { program := "ytfnogcppbhggpaa", sum := "f5a3aabb6442f25784f0c2a86853cf65e6906ecc27a494b4e289c35b9ac1ea3d", func := "tiller/tillerlaw13.TrieKeeps", spec := "trieKeeps", unfollowed := true, recurses := true, apart := false, narrowed := true }
def TrieKeepsUptoSaid : Prop := trieKeepsUptoRow.holds Try.pinned (OpenSpec.upto trieKeepsSpec)

/-- 'tillerlaw13.TrieOrder', WHERE WHAT IT READS IS OF BULK AT MOST 1048576: true; the input reads as it did. -/
def trieOrderUptoRow : OpenClaim := { program := "ytfnogcppbhggpaa", sum := "f5a3aabb6442f25784f0c2a86853cf65e6906ecc27a494b4e289c35b9ac1ea3d", func := "tiller/tillerlaw13.TrieOrder", spec := "trieOrder", unfollowed := true, recurses := true, apart := false, narrowed := true }
def TrieOrderUptoSaid : Prop := trieOrderUptoRow.holds Try.pinned (OpenSpec.upto trieOrderSpec)

/-- 'tillerlaw13.TrieBack', WHERE WHAT IT READS IS OF BULK AT MOST 1048576: true; the input reads as it did. -/
def trieBackUptoRow : OpenClaim := { program := "ytfnogcppbhggpaa", sum := "f5a3aabb6442f25784f0c2a86853cf65e6906ecc27a494b4e289c35b9ac1ea3d", func := "tiller/tillerlaw13.TrieBack", spec := "trieBack", unfollowed := true, recurses := true, apart := false, narrowed := true }
def TrieBackUptoSaid : Prop := trieBackUptoRow.holds Try.pinned (OpenSpec.upto trieBackSpec)

/-- 'tillerlaw13.TriePlays', WHERE WHAT IT READS IS OF BULK AT MOST 1048576: true; the input reads as it did. -/
def triePlaysUptoRow : OpenClaim := { program := "ytfnogcppbhggpaa", sum := "f5a3aabb6442f25784f0c2a86853cf65e6906ecc27a494b4e289c35b9ac1ea3d", func := "tiller/tillerlaw13.TriePlays", spec := "triePlays", unfollowed := true, recurses := true, apart := false, narrowed := true }
def TriePlaysUptoSaid : Prop := triePlaysUptoRow.holds Try.pinned (OpenSpec.upto triePlaysSpec)

end Rows
end Go.Proofs.Ytfnogcppbhggpaa
