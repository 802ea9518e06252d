/-
  No cell of these rows narrows 'for every input' (looked for: loops, veiled, ifaces, maps, wideKeys, modest, calm, conditions, laid).
  DERIVED. THE GIVEN ROWS OF THIS SEAT. 8 by the template 'for every input the law returns true; each argument reads behind the call as it read before'; 0 by the template 'total and deterministic' (their statements: YtfonfdpimbnfaaaTotals.lean).
  GIVEN WITH THE SEED: the statements are not yours to turn. If you find one false, say at which input.
  Laid BY PROGRAM, IN A SANDBOX (cutbox-rows.mjs): the forced cells as the released guide's own fill.sh prints them over the translation 8310cac1d0f13dea… (all of the seat's roots in one cut). By AI agents, Wed Nov 11 2026. No macro, syntax, notation, axiom, sorry.
-/
import Derived.Test.YtfonfdpimbnfaaaChecked
import GoSem.Claim
import GoSem.ClaimJoined
import GoSem.ClaimMapViews
import Derived.JoinedTies
import Derived.KernelRfl
namespace Go.Proofs.Ytfonfdpimbnfaaa
/- THE CELL 'sum', in the pinned program and in every row, IS THE sha256 OF THE DUMP (.gsa) THAT YtfonfdpimbnfaaaProg.lean LOADS. Nothing in Lean hashes anything: it is a label: what it is worth is what the hold of that sum in a sandbox is worth. -/
noncomputable def Try.pinned : Pinned := { name := "ytfonfdpimbnfaaa", sum := "8310cac1d0f13dea6ec3574e5a00d05c9420f980de9f393b5e767249dce9ce88", checked := Try.checked }
namespace Rows
def none {H : Type} : Left H := { results := [], args := [] }

/-- 'tillerlaw20.SendJoins': WHATEVER THE INPUT: true; the input reads as it did. -/
def sendJoinsSpec : ChangeSpec := { name := "sendJoins", fn := fun _ => fun
  | [d1, d2] => { results := [.lit (.bool true)], args := [d1, d2] }
  | _ => none }
def sendJoinsRow : OpenClaim := { program := "ytfonfdpimbnfaaa", sum := "8310cac1d0f13dea6ec3574e5a00d05c9420f980de9f393b5e767249dce9ce88", func := "tiller/tillerlaw20.SendJoins", spec := "sendJoins", apart := false }
def SendJoinsSaid : Prop := sendJoinsRow.holds Try.pinned (OpenSpec.ofChange sendJoinsSpec)

/-- ITS FALSE NEIGHBOUR: 'it returns false'. Refute it at one input. -/
def sendJoinsWrong : ChangeSpec := { name := "sendJoins", fn := fun _ => fun
  | [d1, d2] => { results := [.lit (.bool false)], args := [d1, d2] }
  | _ => none }
def SendJoinsWrongFalsely : Prop := sendJoinsRow.holds Try.pinned (OpenSpec.ofChange sendJoinsWrong)

/-- 'tillerlaw20.SendPlays': WHATEVER THE INPUT: true; the input reads as it did. -/
def sendPlaysSpec : ChangeSpec := { name := "sendPlays", fn := fun _ => fun
  | [d1, d2, d3, d4, d5, d6] => { results := [.lit (.bool true)], args := [d1, d2, d3, d4, d5, d6] }
  | _ => none }
def sendPlaysRow : OpenClaim := { program := "ytfonfdpimbnfaaa", sum := "8310cac1d0f13dea6ec3574e5a00d05c9420f980de9f393b5e767249dce9ce88", func := "tiller/tillerlaw20.SendPlays", spec := "sendPlays", apart := false }
def SendPlaysSaid : Prop := sendPlaysRow.holds Try.pinned (OpenSpec.ofChange sendPlaysSpec)

/-- ITS FALSE NEIGHBOUR: 'it returns false'. Refute it at one input. -/
def sendPlaysWrong : ChangeSpec := { name := "sendPlays", fn := fun _ => fun
  | [d1, d2, d3, d4, d5, d6] => { results := [.lit (.bool false)], args := [d1, d2, d3, d4, d5, d6] }
  | _ => none }
def SendPlaysWrongFalsely : Prop := sendPlaysRow.holds Try.pinned (OpenSpec.ofChange sendPlaysWrong)

/-- 'tillerlaw20.SendRaw': WHATEVER THE INPUT: true; the input reads as it did. -/
def sendRawSpec : ChangeSpec := { name := "sendRaw", fn := fun _ => fun
  | [d1, d2, d3] => { results := [.lit (.bool true)], args := [d1, d2, d3] }
  | _ => none }
def sendRawRow : OpenClaim := { program := "ytfonfdpimbnfaaa", sum := "8310cac1d0f13dea6ec3574e5a00d05c9420f980de9f393b5e767249dce9ce88", func := "tiller/tillerlaw20.SendRaw", spec := "sendRaw", apart := false }
def SendRawSaid : Prop := sendRawRow.holds Try.pinned (OpenSpec.ofChange sendRawSpec)

/-- ITS FALSE NEIGHBOUR: 'it returns false'. Refute it at one input. -/
def sendRawWrong : ChangeSpec := { name := "sendRaw", fn := fun _ => fun
  | [d1, d2, d3] => { results := [.lit (.bool false)], args := [d1, d2, d3] }
  | _ => none }
def SendRawWrongFalsely : Prop := sendRawRow.holds Try.pinned (OpenSpec.ofChange sendRawWrong)

/-- 'tillerlaw20.SendEnds': WHATEVER THE INPUT: true; the input reads as it did. -/
def sendEndsSpec : ChangeSpec := { name := "sendEnds", fn := fun _ => fun
  | [d1, d2, d3] => { results := [.lit (.bool true)], args := [d1, d2, d3] }
  | _ => none }
def sendEndsRow : OpenClaim := { program := "ytfonfdpimbnfaaa", sum := "8310cac1d0f13dea6ec3574e5a00d05c9420f980de9f393b5e767249dce9ce88", func := "tiller/tillerlaw20.SendEnds", spec := "sendEnds", apart := false }
def SendEndsSaid : Prop := sendEndsRow.holds Try.pinned (OpenSpec.ofChange sendEndsSpec)

/-- ITS FALSE NEIGHBOUR: 'it returns false'. Refute it at one input. -/
def sendEndsWrong : ChangeSpec := { name := "sendEnds", fn := fun _ => fun
  | [d1, d2, d3] => { results := [.lit (.bool false)], args := [d1, d2, d3] }
  | _ => none }
def SendEndsWrongFalsely : Prop := sendEndsRow.holds Try.pinned (OpenSpec.ofChange sendEndsWrong)

/-- 'tillerlaw21.RecvPlays': WHATEVER THE INPUT: true; the input reads as it did. -/
def recvPlaysSpec : ChangeSpec := { name := "recvPlays", fn := fun _ => fun
  | [d1, d2, d3] => { results := [.lit (.bool true)], args := [d1, d2, d3] }
  | _ => none }
def recvPlaysRow : OpenClaim := { program := "ytfonfdpimbnfaaa", sum := "8310cac1d0f13dea6ec3574e5a00d05c9420f980de9f393b5e767249dce9ce88", func := "tiller/tillerlaw21.RecvPlays", spec := "recvPlays", inPlace := ["internal/abi.NoEscape", "internal/bytealg.MakeNoZero"], apart := false }
def RecvPlaysSaid : Prop := recvPlaysRow.holds Try.pinned (OpenSpec.ofChange recvPlaysSpec)

/-- ITS FALSE NEIGHBOUR: 'it returns false'. Refute it at one input. -/
def recvPlaysWrong : ChangeSpec := { name := "recvPlays", fn := fun _ => fun
  | [d1, d2, d3] => { results := [.lit (.bool false)], args := [d1, d2, d3] }
  | _ => none }
def RecvPlaysWrongFalsely : Prop := recvPlaysRow.holds Try.pinned (OpenSpec.ofChange recvPlaysWrong)

/-- 'tillerlaw21.RecvRaw': WHATEVER THE INPUT: true; the input reads as it did. -/
def recvRawSpec : ChangeSpec := { name := "recvRaw", fn := fun _ => fun
  | [d1, d2] => { results := [.lit (.bool true)], args := [d1, d2] }
  | _ => none }
def recvRawRow : OpenClaim := { program := "ytfonfdpimbnfaaa", sum := "8310cac1d0f13dea6ec3574e5a00d05c9420f980de9f393b5e767249dce9ce88", func := "tiller/tillerlaw21.RecvRaw", spec := "recvRaw", inPlace := ["internal/abi.NoEscape", "internal/bytealg.MakeNoZero"], apart := false }
def RecvRawSaid : Prop := recvRawRow.holds Try.pinned (OpenSpec.ofChange recvRawSpec)

/-- ITS FALSE NEIGHBOUR: 'it returns false'. Refute it at one input. -/
def recvRawWrong : ChangeSpec := { name := "recvRaw", fn := fun _ => fun
  | [d1, d2] => { results := [.lit (.bool false)], args := [d1, d2] }
  | _ => none }
def RecvRawWrongFalsely : Prop := recvRawRow.holds Try.pinned (OpenSpec.ofChange recvRawWrong)

/-- 'tillerlaw21.RecvFalse': WHATEVER THE INPUT: true; the input reads as it did. -/
def recvFalseSpec : ChangeSpec := { name := "recvFalse", fn := fun _ => fun
  | [d1, d2, d3, d4, d5] => { results := [.lit (.bool true)], args := [d1, d2, d3, d4, d5] }
  | _ => none }
def recvFalseRow : OpenClaim := { program := "ytfonfdpimbnfaaa", sum := "8310cac1d0f13dea6ec3574e5a00d05c9420f980de9f393b5e767249dce9ce88", func := "tiller/tillerlaw21.RecvFalse", spec := "recvFalse", inPlace := ["internal/abi.NoEscape", "internal/bytealg.MakeNoZero"], apart := false }
def RecvFalseSaid : Prop := recvFalseRow.holds Try.pinned (OpenSpec.ofChange recvFalseSpec)

/-- ITS FALSE NEIGHBOUR: 'it returns false'. Refute it at one input. -/
def recvFalseWrong : ChangeSpec := { name := "recvFalse", fn := fun _ => fun
  | [d1, d2, d3, d4, d5] => { results := [.lit (.bool false)], args := [d1, d2, d3, d4, d5] }
  | _ => none }
def RecvFalseWrongFalsely : Prop := recvFalseRow.holds Try.pinned (OpenSpec.ofChange recvFalseWrong)

/-- 'tillerlaw21.RecvWhole': WHATEVER THE INPUT: true; the input reads as it did. -/
def recvWholeSpec : ChangeSpec := { name := "recvWhole", fn := fun _ => fun
  | [d1, d2, d3, d4] => { results := [.lit (.bool true)], args := [d1, d2, d3, d4] }
  | _ => none }
def recvWholeRow : OpenClaim := { program := "ytfonfdpimbnfaaa", sum := "8310cac1d0f13dea6ec3574e5a00d05c9420f980de9f393b5e767249dce9ce88", func := "tiller/tillerlaw21.RecvWhole", spec := "recvWhole", inPlace := ["internal/abi.NoEscape", "internal/bytealg.MakeNoZero"], apart := false }
def RecvWholeSaid : Prop := recvWholeRow.holds Try.pinned (OpenSpec.ofChange recvWholeSpec)

/-- ITS FALSE NEIGHBOUR: 'it returns false'. Refute it at one input. -/
def recvWholeWrong : ChangeSpec := { name := "recvWhole", fn := fun _ => fun
  | [d1, d2, d3, d4] => { results := [.lit (.bool false)], args := [d1, d2, d3, d4] }
  | _ => none }
def RecvWholeWrongFalsely : Prop := recvWholeRow.holds Try.pinned (OpenSpec.ofChange recvWholeWrong)

/- THE SECOND FORM. 'bulk': how many values and letters a reading holds, each counted each time it is reached (what is shared counts as often as it is met; a slice's spare places count too). A statement '..UptoSaid' is the law's where the arguments, and the package variables that the reading takes, are together of bulk at most 1048576: NARROWER than '..Said'. Prove '..Said' where nothing that the law and all that it calls make is longer than what came in: it says more and counts as full. Else prove '..UptoSaid'. A law counts once. -/
mutual
def uptoBulk {H : Type} : DataW H → Nat
  | .lit (.string bytes) => bytes.length + 1
  | .lit _ => 1
  | .nil => 1
  | .ptr d => uptoBulk d + 1
  | .slice elems spare => uptoBulkAll elems + uptoBulkAll spare + 1
  | .agg parts => uptoBulkAll parts + 1
  | .iface _ d => uptoBulk d + 1
  | .map entries => uptoBulkEntries entries + 1
  | .held _ => 1
def uptoBulkAll {H : Type} : List (DataW H) → Nat
  | [] => 0
  | d :: r => uptoBulk d + uptoBulkAll r
def uptoBulkEntries {H : Type} : List (Lit × DataW H) → Nat
  | [] => 0
  | x :: r => uptoBulkEntry x + uptoBulkEntries r
def uptoBulkEntry {H : Type} : Lit × DataW H → Nat
  | (.string bytes, d) => bytes.length + uptoBulk d + 1
  | (_, d) => uptoBulk d + 1
 end
def uptoSmall : (H : Type) → List (DataW H) → Bool := fun _ ds => decide (uptoBulkAll ds ≤ 1048576)
def OpenSpec.upto (s : _root_.Go.ChangeSpec) : _root_.Go.OpenSpec := { _root_.Go.OpenSpec.ofChange s with cond := some uptoSmall }

/-- 'tillerlaw20.SendJoins', WHERE WHAT IT READS IS OF BULK AT MOST 1048576: true; the input reads as it did. -/
def sendJoinsUptoRow : OpenClaim := { program := "ytfonfdpimbnfaaa", sum := "8310cac1d0f13dea6ec3574e5a00d05c9420f980de9f393b5e767249dce9ce88", func := "tiller/tillerlaw20.SendJoins", spec := "sendJoins", apart := false, narrowed := true }
def SendJoinsUptoSaid : Prop := sendJoinsUptoRow.holds Try.pinned (OpenSpec.upto sendJoinsSpec)

/-- 'tillerlaw20.SendPlays', WHERE WHAT IT READS IS OF BULK AT MOST 1048576: true; the input reads as it did. -/
def sendPlaysUptoRow : OpenClaim := { program := "ytfonfdpimbnfaaa", sum := "8310cac1d0f13dea6ec3574e5a00d05c9420f980de9f393b5e767249dce9ce88", func := "tiller/tillerlaw20.SendPlays", spec := "sendPlays", apart := false, narrowed := true }
def SendPlaysUptoSaid : Prop := sendPlaysUptoRow.holds Try.pinned (OpenSpec.upto sendPlaysSpec)

/-- 'tillerlaw20.SendRaw', WHERE WHAT IT READS IS OF BULK AT MOST 1048576: true; the input reads as it did. -/
def sendRawUptoRow : OpenClaim := { program := "ytfonfdpimbnfaaa", sum := "8310cac1d0f13dea6ec3574e5a00d05c9420f980de9f393b5e767249dce9ce88", func := "tiller/tillerlaw20.SendRaw", spec := "sendRaw", apart := false, narrowed := true }
def SendRawUptoSaid : Prop := sendRawUptoRow.holds Try.pinned (OpenSpec.upto sendRawSpec)

/-- 'tillerlaw20.SendEnds', WHERE WHAT IT READS IS OF BULK AT MOST 1048576: true; the input reads as it did. -/
def sendEndsUptoRow : OpenClaim := { program := "ytfonfdpimbnfaaa", sum := "8310cac1d0f13dea6ec3574e5a00d05c9420f980de9f393b5e767249dce9ce88", func := "tiller/tillerlaw20.SendEnds", spec := "sendEnds", apart := false, narrowed := true }
def SendEndsUptoSaid : Prop := sendEndsUptoRow.holds Try.pinned (OpenSpec.upto sendEndsSpec)

/-- 'tillerlaw21.RecvPlays', WHERE WHAT IT READS IS OF BULK AT MOST 1048576: true; the input reads as it did. -/
def recvPlaysUptoRow : OpenClaim := { program := "ytfonfdpimbnfaaa", sum := "8310cac1d0f13dea6ec3574e5a00d05c9420f980de9f393b5e767249dce9ce88", func := "tiller/tillerlaw21.RecvPlays", spec := "recvPlays", inPlace := ["internal/abi.NoEscape", "internal/bytealg.MakeNoZero"], apart := false, narrowed := true }
def RecvPlaysUptoSaid : Prop := recvPlaysUptoRow.holds Try.pinned (OpenSpec.upto recvPlaysSpec)

/-- 'tillerlaw21.RecvRaw', WHERE WHAT IT READS IS OF BULK AT MOST 1048576: true; the input reads as it did. -/
def recvRawUptoRow : OpenClaim := { program := "ytfonfdpimbnfaaa", sum := "8310cac1d0f13dea6ec3574e5a00d05c9420f980de9f393b5e767249dce9ce88", func := "tiller/tillerlaw21.RecvRaw", spec := "recvRaw", inPlace := ["internal/abi.NoEscape", "internal/bytealg.MakeNoZero"], apart := false, narrowed := true }
def RecvRawUptoSaid : Prop := recvRawUptoRow.holds Try.pinned (OpenSpec.upto recvRawSpec)

/-- 'tillerlaw21.RecvFalse', WHERE WHAT IT READS IS OF BULK AT MOST 1048576: true; the input reads as it did. -/
def recvFalseUptoRow : OpenClaim := { program := "ytfonfdpimbnfaaa", sum := "8310cac1d0f13dea6ec3574e5a00d05c9420f980de9f393b5e767249dce9ce88", func := "tiller/tillerlaw21.RecvFalse", spec := "recvFalse", inPlace := ["internal/abi.NoEscape", "internal/bytealg.MakeNoZero"], apart := false, narrowed := true }
def RecvFalseUptoSaid : Prop := recvFalseUptoRow.holds Try.pinned (OpenSpec.upto recvFalseSpec)

/-- 'tillerlaw21.RecvWhole', WHERE WHAT IT READS IS OF BULK AT MOST 1048576: true; the input reads as it did. -/
def recvWholeUptoRow : OpenClaim := { program := "ytfonfdpimbnfaaa", sum := "8310cac1d0f13dea6ec3574e5a00d05c9420f980de9f393b5e767249dce9ce88", func := "tiller/tillerlaw21.RecvWhole", spec := "recvWhole", inPlace := ["internal/abi.NoEscape", "internal/bytealg.MakeNoZero"], apart := false, narrowed := true }
def RecvWholeUptoSaid : Prop := recvWholeUptoRow.holds Try.pinned (OpenSpec.upto recvWholeSpec)

end Rows
end Go.Proofs.Ytfonfdpimbnfaaa
