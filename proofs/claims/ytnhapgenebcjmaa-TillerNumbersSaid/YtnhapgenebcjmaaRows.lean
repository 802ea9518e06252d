/-
  No cell of these rows narrows 'for every input' (looked for: loops, veiled, ifaces, maps, wideKeys, modest, calm, conditions, laid).
  DERIVED. THE GIVEN ROWS OF THIS SEAT. 8 by the template 'for every input the law returns true; each argument reads behind the call as it read before'; 0 by the template 'total and deterministic' (their statements: YtnhapgenebcjmaaTotals.lean).
  GIVEN WITH THE SEED: the statements are not yours to turn. If you find one false, say at which input.
  Laid BY PROGRAM, IN A SANDBOX (cutbox-rows.mjs): the forced cells as the released guide's own fill.sh prints them over the translation 4d944824aeb5b29d… (all of the seat's roots in one cut). By AI agents, Wed Nov 11 2026. No macro, syntax, notation, axiom, sorry.
-/
import Derived.Test.YtnhapgenebcjmaaChecked
import GoSem.Claim
import GoSem.ClaimJoined
import GoSem.ClaimMapViews
import Derived.JoinedTies
import Derived.KernelRfl
namespace Go.Proofs.Ytnhapgenebcjmaa
/- THE CELL 'sum', in the pinned program and in every row, IS THE sha256 OF THE DUMP (.gsa) THAT YtnhapgenebcjmaaProg.lean LOADS. Nothing in Lean hashes anything: it is a label: what it is worth is what the hold of that sum in a sandbox is worth. -/
noncomputable def Try.pinned : Pinned := { name := "ytnhapgenebcjmaa", sum := "4d944824aeb5b29d0dd54649b15d9afa8559cd6d2ab1829cfadfa072d5cf3d3e", checked := Try.checked }
namespace Rows
def none {H : Type} : Left H := { results := [], args := [] }

/-- 'tillerlaw01.FixProducts': WHATEVER THE INPUT: true; the input reads as it did. -/
def fixProductsSpec : ChangeSpec := { name := "fixProducts", fn := fun _ => fun
  | [d1, d2, d3, d4] => { results := [.lit (.bool true)], args := [d1, d2, d3, d4] }
  | _ => none }
def fixProductsRow : OpenClaim := { program := "ytnhapgenebcjmaa", sum := "4d944824aeb5b29d0dd54649b15d9afa8559cd6d2ab1829cfadfa072d5cf3d3e", func := "tiller/tillerlaw01.FixProducts", spec := "fixProducts", inPlace := ["internal/abi.NoEscape"], recurses := true, apart := false }
def FixProductsSaid : Prop := fixProductsRow.holds Try.pinned (OpenSpec.ofChange fixProductsSpec)

/-- ITS FALSE NEIGHBOUR: 'it returns false'. Refute it at one input. -/
def fixProductsWrong : ChangeSpec := { name := "fixProducts", fn := fun _ => fun
  | [d1, d2, d3, d4] => { results := [.lit (.bool false)], args := [d1, d2, d3, d4] }
  | _ => none }
def FixProductsWrongFalsely : Prop := fixProductsRow.holds Try.pinned (OpenSpec.ofChange fixProductsWrong)

/-- 'tillerlaw01.FixNear': WHATEVER THE INPUT: true; the input reads as it did. -/
def fixNearSpec : ChangeSpec := { name := "fixNear", fn := fun _ => fun
  | [d1, d2, d3, d4] => { results := [.lit (.bool true)], args := [d1, d2, d3, d4] }
  | _ => none }
def fixNearRow : OpenClaim := { program := "ytnhapgenebcjmaa", sum := "4d944824aeb5b29d0dd54649b15d9afa8559cd6d2ab1829cfadfa072d5cf3d3e", func := "tiller/tillerlaw01.FixNear", spec := "fixNear", inPlace := ["internal/abi.NoEscape"], apart := false }
def FixNearSaid : Prop := fixNearRow.holds Try.pinned (OpenSpec.ofChange fixNearSpec)

/-- ITS FALSE NEIGHBOUR: 'it returns false'. Refute it at one input. -/
def fixNearWrong : ChangeSpec := { name := "fixNear", fn := fun _ => fun
  | [d1, d2, d3, d4] => { results := [.lit (.bool false)], args := [d1, d2, d3, d4] }
  | _ => none }
def FixNearWrongFalsely : Prop := fixNearRow.holds Try.pinned (OpenSpec.ofChange fixNearWrong)

/-- 'tillerlaw01.FixRing': WHATEVER THE INPUT: true; the input reads as it did. -/
def fixRingSpec : ChangeSpec := { name := "fixRing", fn := fun _ => fun
  | [d1, d2, d3] => { results := [.lit (.bool true)], args := [d1, d2, d3] }
  | _ => none }
def fixRingRow : OpenClaim := { program := "ytnhapgenebcjmaa", sum := "4d944824aeb5b29d0dd54649b15d9afa8559cd6d2ab1829cfadfa072d5cf3d3e", func := "tiller/tillerlaw01.FixRing", spec := "fixRing", inPlace := ["internal/abi.NoEscape"], apart := false }
def FixRingSaid : Prop := fixRingRow.holds Try.pinned (OpenSpec.ofChange fixRingSpec)

/-- ITS FALSE NEIGHBOUR: 'it returns false'. Refute it at one input. -/
def fixRingWrong : ChangeSpec := { name := "fixRing", fn := fun _ => fun
  | [d1, d2, d3] => { results := [.lit (.bool false)], args := [d1, d2, d3] }
  | _ => none }
def FixRingWrongFalsely : Prop := fixRingRow.holds Try.pinned (OpenSpec.ofChange fixRingWrong)

/-- 'tillerlaw01.FixSums': WHATEVER THE INPUT: true; the input reads as it did. -/
def fixSumsSpec : ChangeSpec := { name := "fixSums", fn := fun _ => fun
  | [d1, d2, d3, d4] => { results := [.lit (.bool true)], args := [d1, d2, d3, d4] }
  | _ => none }
def fixSumsRow : OpenClaim := { program := "ytnhapgenebcjmaa", sum := "4d944824aeb5b29d0dd54649b15d9afa8559cd6d2ab1829cfadfa072d5cf3d3e", func := "tiller/tillerlaw01.FixSums", spec := "fixSums", inPlace := ["internal/abi.NoEscape"], apart := false }
def FixSumsSaid : Prop := fixSumsRow.holds Try.pinned (OpenSpec.ofChange fixSumsSpec)

/-- ITS FALSE NEIGHBOUR: 'it returns false'. Refute it at one input. -/
def fixSumsWrong : ChangeSpec := { name := "fixSums", fn := fun _ => fun
  | [d1, d2, d3, d4] => { results := [.lit (.bool false)], args := [d1, d2, d3, d4] }
  | _ => none }
def FixSumsWrongFalsely : Prop := fixSumsRow.holds Try.pinned (OpenSpec.ofChange fixSumsWrong)

/-- 'tillerlaw01.FixOrder': WHATEVER THE INPUT: true; the input reads as it did. -/
def fixOrderSpec : ChangeSpec := { name := "fixOrder", fn := fun _ => fun
  | [d1, d2, d3] => { results := [.lit (.bool true)], args := [d1, d2, d3] }
  | _ => none }
def fixOrderRow : OpenClaim := { program := "ytnhapgenebcjmaa", sum := "4d944824aeb5b29d0dd54649b15d9afa8559cd6d2ab1829cfadfa072d5cf3d3e", func := "tiller/tillerlaw01.FixOrder", spec := "fixOrder", inPlace := ["internal/abi.NoEscape"], apart := false }
def FixOrderSaid : Prop := fixOrderRow.holds Try.pinned (OpenSpec.ofChange fixOrderSpec)

/-- ITS FALSE NEIGHBOUR: 'it returns false'. Refute it at one input. -/
def fixOrderWrong : ChangeSpec := { name := "fixOrder", fn := fun _ => fun
  | [d1, d2, d3] => { results := [.lit (.bool false)], args := [d1, d2, d3] }
  | _ => none }
def FixOrderWrongFalsely : Prop := fixOrderRow.holds Try.pinned (OpenSpec.ofChange fixOrderWrong)

/-- 'tillerlaw01.FixTexts': WHATEVER THE INPUT: true; the input reads as it did. -/
def fixTextsSpec : ChangeSpec := { name := "fixTexts", fn := fun _ => fun
  | [d1, d2] => { results := [.lit (.bool true)], args := [d1, d2] }
  | _ => none }
def fixTextsRow : OpenClaim := { program := "ytnhapgenebcjmaa", sum := "4d944824aeb5b29d0dd54649b15d9afa8559cd6d2ab1829cfadfa072d5cf3d3e", func := "tiller/tillerlaw01.FixTexts", spec := "fixTexts", inPlace := ["internal/abi.NoEscape", "internal/bytealg.IndexByteString", "internal/bytealg.IndexString"], named := ["internal/bytealg.MaxLen"], apart := false }
def FixTextsSaid : Prop := fixTextsRow.holds Try.pinned (OpenSpec.ofChange fixTextsSpec)

/-- ITS FALSE NEIGHBOUR: 'it returns false'. Refute it at one input. -/
def fixTextsWrong : ChangeSpec := { name := "fixTexts", fn := fun _ => fun
  | [d1, d2] => { results := [.lit (.bool false)], args := [d1, d2] }
  | _ => none }
def FixTextsWrongFalsely : Prop := fixTextsRow.holds Try.pinned (OpenSpec.ofChange fixTextsWrong)

/-- 'tillerlaw01.FixSpelled': WHATEVER THE INPUT: true; the input reads as it did. -/
def fixSpelledSpec : ChangeSpec := { name := "fixSpelled", fn := fun _ => fun
  | [d1, d2, d3] => { results := [.lit (.bool true)], args := [d1, d2, d3] }
  | _ => none }
def fixSpelledRow : OpenClaim := { program := "ytnhapgenebcjmaa", sum := "4d944824aeb5b29d0dd54649b15d9afa8559cd6d2ab1829cfadfa072d5cf3d3e", func := "tiller/tillerlaw01.FixSpelled", spec := "fixSpelled", inPlace := ["internal/abi.NoEscape", "internal/bytealg.IndexByteString", "internal/bytealg.IndexString"], named := ["internal/bytealg.MaxLen"], apart := false }
def FixSpelledSaid : Prop := fixSpelledRow.holds Try.pinned (OpenSpec.ofChange fixSpelledSpec)

/-- ITS FALSE NEIGHBOUR: 'it returns false'. Refute it at one input. -/
def fixSpelledWrong : ChangeSpec := { name := "fixSpelled", fn := fun _ => fun
  | [d1, d2, d3] => { results := [.lit (.bool false)], args := [d1, d2, d3] }
  | _ => none }
def FixSpelledWrongFalsely : Prop := fixSpelledRow.holds Try.pinned (OpenSpec.ofChange fixSpelledWrong)

/-- 'tillertop.TillerNumbers': WHATEVER THE INPUT: true; the input reads as it did. -/
def tillerNumbersSpec : ChangeSpec := { name := "tillerNumbers", fn := fun _ => fun
  | [d1, d2] => { results := [.lit (.bool true)], args := [d1, d2] }
  | _ => none }
def tillerNumbersRow : OpenClaim := { program := "ytnhapgenebcjmaa", sum := "4d944824aeb5b29d0dd54649b15d9afa8559cd6d2ab1829cfadfa072d5cf3d3e", func := "tiller/tillertop.TillerNumbers", spec := "tillerNumbers", inPlace := ["internal/abi.NoEscape", "internal/bytealg.IndexByteString", "internal/bytealg.IndexString"], named := ["internal/bytealg.MaxLen"], apart := false }
def TillerNumbersSaid : Prop := tillerNumbersRow.holds Try.pinned (OpenSpec.ofChange tillerNumbersSpec)

/-- ITS FALSE NEIGHBOUR: 'it returns false'. Refute it at one input. -/
def tillerNumbersWrong : ChangeSpec := { name := "tillerNumbers", fn := fun _ => fun
  | [d1, d2] => { results := [.lit (.bool false)], args := [d1, d2] }
  | _ => none }
def TillerNumbersWrongFalsely : Prop := tillerNumbersRow.holds Try.pinned (OpenSpec.ofChange tillerNumbersWrong)

/- THE SECOND FORM. 'bulk': how many values and letters a reading holds, each counted each time it is reached (what is shared counts as often as it is met; a slice's spare places count too). A statement '..UptoSaid' is the law's where the arguments, and the package variables that the reading takes, are together of bulk at most 1048576: NARROWER than '..Said'. Prove '..Said' where nothing that the law and all that it calls make is longer than what came in: it says more and counts as full. Else prove '..UptoSaid'. A law counts once. -/
mutual
def uptoBulk {H : Type} : DataW H → Nat
  | .lit (.string bytes) => bytes.length + 1
  | .lit _ => 1
  | .nil => 1
  | .ptr d => uptoBulk d + 1
  | .slice elems spare => uptoBulkAll elems + uptoBulkAll spare + 1
  | .agg parts => uptoBulkAll parts + 1
  | .iface _ d => uptoBulk d + 1
  | .map entries => uptoBulkEntries entries + 1
  | .held _ => 1
def uptoBulkAll {H : Type} : List (DataW H) → Nat
  | [] => 0
  | d :: r => uptoBulk d + uptoBulkAll r
def uptoBulkEntries {H : Type} : List (Lit × DataW H) → Nat
  | [] => 0
  | x :: r => uptoBulkEntry x + uptoBulkEntries r
def uptoBulkEntry {H : Type} : Lit × DataW H → Nat
  | (.string bytes, d) => bytes.length + uptoBulk d + 1
  | (_, d) => uptoBulk d + 1
 end
def uptoSmall : (H : Type) → List (DataW H) → Bool := fun _ ds => decide (uptoBulkAll ds ≤ 1048576)
def OpenSpec.upto (s : _root_.Go.ChangeSpec) : _root_.Go.OpenSpec := { _root_.Go.OpenSpec.ofChange s with cond := some uptoSmall }

/-- 'tillerlaw01.FixProducts', WHERE WHAT IT READS IS OF BULK AT MOST 1048576: true; the input reads as it did. -/
def fixProductsUptoRow : OpenClaim := { program := "ytnhapgenebcjmaa", sum := "4d944824aeb5b29d0dd54649b15d9afa8559cd6d2ab1829cfadfa072d5cf3d3e", func := "tiller/tillerlaw01.FixProducts", spec := "fixProducts", inPlace := ["internal/abi.NoEscape"], recurses := true, apart := false, narrowed := true }
def FixProductsUptoSaid : Prop := fixProductsUptoRow.holds Try.pinned (OpenSpec.upto fixProductsSpec)

/-- 'tillerlaw01.FixNear', WHERE WHAT IT READS IS OF BULK AT MOST 1048576: true; the input reads as it did. -/
def fixNearUptoRow : OpenClaim := { program := "ytnhapgenebcjmaa", sum := "4d944824aeb5b29d0dd54649b15d9afa8559cd6d2ab1829cfadfa072d5cf3d3e", func := "tiller/tillerlaw01.FixNear", spec := "fixNear", inPlace := ["internal/abi.NoEscape"], apart := false, narrowed := true }
def FixNearUptoSaid : Prop := fixNearUptoRow.holds Try.pinned (OpenSpec.upto fixNearSpec)

/-- 'tillerlaw01.FixRing', WHERE WHAT IT READS IS OF BULK AT MOST 1048576: true; the input reads as it did. -/
def fixRingUptoRow : OpenClaim := { program := "ytnhapgenebcjmaa", sum := "4d944824aeb5b29d0dd54649b15d9afa8559cd6d2ab1829cfadfa072d5cf3d3e", func := "tiller/tillerlaw01.FixRing", spec := "fixRing", inPlace := ["internal/abi.NoEscape"], apart := false, narrowed := true }
def FixRingUptoSaid : Prop := fixRingUptoRow.holds Try.pinned (OpenSpec.upto fixRingSpec)

/-- 'tillerlaw01.FixSums', WHERE WHAT IT READS IS OF BULK AT MOST 1048576: true; the input reads as it did. -/
def fixSumsUptoRow : OpenClaim := { program := "ytnhapgenebcjmaa", sum := "4d944824aeb5b29d0dd54649b15d9afa8559cd6d2ab1829cfadfa072d5cf3d3e", func := "tiller/tillerlaw01.FixSums", spec := "fixSums", inPlace := ["internal/abi.NoEscape"], apart := false, narrowed := true }
def FixSumsUptoSaid : Prop := fixSumsUptoRow.holds Try.pinned (OpenSpec.upto fixSumsSpec)

/-- 'tillerlaw01.FixOrder', WHERE WHAT IT READS IS OF BULK AT MOST 1048576: true; the input reads as it did. -/
def fixOrderUptoRow : OpenClaim := { program := "ytnhapgenebcjmaa", sum := "4d944824aeb5b29d0dd54649b15d9afa8559cd6d2ab1829cfadfa072d5cf3d3e", func := "tiller/tillerlaw01.FixOrder", spec := "fixOrder", inPlace := ["internal/abi.NoEscape"], apart := false, narrowed := true }
def FixOrderUptoSaid : Prop := fixOrderUptoRow.holds Try.pinned (OpenSpec.upto fixOrderSpec)

/-- 'tillerlaw01.FixTexts', WHERE WHAT IT READS IS OF BULK AT MOST 1048576: true; the input reads as it did. -/
def fixTextsUptoRow : OpenClaim := { program := "ytnhapgenebcjmaa", sum := "4d944824aeb5b29d0dd54649b15d9afa8559cd6d2ab1829cfadfa072d5cf3d3e", func := "tiller/tillerlaw01.FixTexts", spec := "fixTexts", inPlace := ["internal/abi.NoEscape", "internal/bytealg.IndexByteString", "internal/bytealg.IndexString"], named := ["internal/bytealg.MaxLen"], apart := false, narrowed := true }
def FixTextsUptoSaid : Prop := fixTextsUptoRow.holds Try.pinned (OpenSpec.upto fixTextsSpec)

/-- 'tillerlaw01.FixSpelled', WHERE WHAT IT READS IS OF BULK AT MOST 1048576: true; the input reads as it did. -/
def fixSpelledUptoRow : OpenClaim := { program := "ytnhapgenebcjmaa", sum := "4d944824aeb5b29d0dd54649b15d9afa8559cd6d2ab1829cfadfa072d5cf3d3e", func := "tiller/tillerlaw01.FixSpelled", spec := "fixSpelled", inPlace := ["internal/abi.NoEscape", "internal/bytealg.IndexByteString", "internal/bytealg.IndexString"], named := ["internal/bytealg.MaxLen"], apart := false, narrowed := true }
def FixSpelledUptoSaid : Prop := fixSpelledUptoRow.holds Try.pinned (OpenSpec.upto fixSpelledSpec)

/-- 'tillertop.TillerNumbers', WHERE WHAT IT READS IS OF BULK AT MOST 1048576: true; the input reads as it did. -/
def tillerNumbersUptoRow : OpenClaim := { program := "ytnhapgenebcjmaa", sum := "4d944824aeb5b29d0dd54649b15d9afa8559cd6d2ab1829cfadfa072d5cf3d3e", func := "tiller/tillertop.TillerNumbers", spec := "tillerNumbers", inPlace := ["internal/abi.NoEscape", "internal/bytealg.IndexByteString", "internal/bytealg.IndexString"], named := ["internal/bytealg.MaxLen"], apart := false, narrowed := true }
def TillerNumbersUptoSaid : Prop := tillerNumbersUptoRow.holds Try.pinned (OpenSpec.upto tillerNumbersSpec)

end Rows
end Go.Proofs.Ytnhapgenebcjmaa
