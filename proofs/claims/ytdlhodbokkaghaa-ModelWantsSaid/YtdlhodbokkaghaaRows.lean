/-
  No cell of these rows narrows 'for every input' (looked for: loops, veiled, ifaces, maps, wideKeys, modest, calm, conditions, laid).
  DERIVED. THE GIVEN ROWS OF THIS SEAT. 6 by the template 'for every input the law returns true; each argument reads behind the call as it read before'; 0 by the template 'total and deterministic' (their statements: YtdlhodbokkaghaaTotals.lean).
  GIVEN WITH THE SEED: the statements are not yours to turn. If you find one false, say at which input.
  Laid BY PROGRAM, IN A SANDBOX (cutbox-rows.mjs): the forced cells as the released guide's own fill.sh prints them over the translation a179c8fd0f8b3da6… (all of the seat's roots in one cut). By AI agents, Wed Nov 11 2026. No macro, syntax, notation, axiom, sorry.
-/
import Derived.Test.YtdlhodbokkaghaaChecked
import GoSem.Claim
import GoSem.ClaimJoined
import GoSem.ClaimMapViews
import Derived.JoinedTies
import Derived.KernelRfl
namespace Go.Proofs.Ytdlhodbokkaghaa
/- THE CELL 'sum', in the pinned program and in every row, IS THE sha256 OF THE DUMP (.gsa) THAT YtdlhodbokkaghaaProg.lean LOADS. Nothing in Lean hashes anything: it is a label: what it is worth is what the hold of that sum in a sandbox is worth. -/
noncomputable def Try.pinned : Pinned := { name := "ytdlhodbokkaghaa", sum := "a179c8fd0f8b3da62535dd89934eb068140dd7a9fc06d674bfde143d32f66006", checked := Try.checked }
namespace Rows
def none {H : Type} : Left H := { results := [], args := [] }

/-- 'tillerlaw06.ModelBounds': WHATEVER THE INPUT: true; the input reads as it did. -/
def modelBoundsSpec : ChangeSpec := { name := "modelBounds", fn := fun _ => fun
  | [d1, d2] => { results := [.lit (.bool true)], args := [d1, d2] }
  | _ => none }
def modelBoundsRow : OpenClaim := { program := "ytdlhodbokkaghaa", sum := "a179c8fd0f8b3da62535dd89934eb068140dd7a9fc06d674bfde143d32f66006", func := "tiller/tillerlaw06.ModelBounds", spec := "modelBounds", apart := false }
def ModelBoundsSaid : Prop := modelBoundsRow.holds Try.pinned (OpenSpec.ofChange modelBoundsSpec)

/-- ITS FALSE NEIGHBOUR: 'it returns false'. Refute it at one input. -/
def modelBoundsWrong : ChangeSpec := { name := "modelBounds", fn := fun _ => fun
  | [d1, d2] => { results := [.lit (.bool false)], args := [d1, d2] }
  | _ => none }
def ModelBoundsWrongFalsely : Prop := modelBoundsRow.holds Try.pinned (OpenSpec.ofChange modelBoundsWrong)

/-- 'tillerlaw06.ModelBegins': WHATEVER THE INPUT: true; the input reads as it did. -/
def modelBeginsSpec : ChangeSpec := { name := "modelBegins", fn := fun _ => fun
  | [d1, d2, d3] => { results := [.lit (.bool true)], args := [d1, d2, d3] }
  | _ => none }
def modelBeginsRow : OpenClaim := { program := "ytdlhodbokkaghaa", sum := "a179c8fd0f8b3da62535dd89934eb068140dd7a9fc06d674bfde143d32f66006", func := "tiller/tillerlaw06.ModelBegins", spec := "modelBegins", apart := false }
def ModelBeginsSaid : Prop := modelBeginsRow.holds Try.pinned (OpenSpec.ofChange modelBeginsSpec)

/-- ITS FALSE NEIGHBOUR: 'it returns false'. Refute it at one input. -/
def modelBeginsWrong : ChangeSpec := { name := "modelBegins", fn := fun _ => fun
  | [d1, d2, d3] => { results := [.lit (.bool false)], args := [d1, d2, d3] }
  | _ => none }
def ModelBeginsWrongFalsely : Prop := modelBeginsRow.holds Try.pinned (OpenSpec.ofChange modelBeginsWrong)

/-- 'tillerlaw06.ModelCopies': WHATEVER THE INPUT: true; the input reads as it did. -/
def modelCopiesSpec : ChangeSpec := { name := "modelCopies", fn := fun _ => fun
  | [d1, d2] => { results := [.lit (.bool true)], args := [d1, d2] }
  | _ => none }
def modelCopiesRow : OpenClaim := { program := "ytdlhodbokkaghaa", sum := "a179c8fd0f8b3da62535dd89934eb068140dd7a9fc06d674bfde143d32f66006", func := "tiller/tillerlaw06.ModelCopies", spec := "modelCopies", apart := false }
def ModelCopiesSaid : Prop := modelCopiesRow.holds Try.pinned (OpenSpec.ofChange modelCopiesSpec)

/-- ITS FALSE NEIGHBOUR: 'it returns false'. Refute it at one input. -/
def modelCopiesWrong : ChangeSpec := { name := "modelCopies", fn := fun _ => fun
  | [d1, d2] => { results := [.lit (.bool false)], args := [d1, d2] }
  | _ => none }
def ModelCopiesWrongFalsely : Prop := modelCopiesRow.holds Try.pinned (OpenSpec.ofChange modelCopiesWrong)

/-- 'tillerlaw06.ModelMakes': WHATEVER THE INPUT: true; the input reads as it did. -/
def modelMakesSpec : ChangeSpec := { name := "modelMakes", fn := fun _ => fun
  | [d1, d2] => { results := [.lit (.bool true)], args := [d1, d2] }
  | _ => none }
def modelMakesRow : OpenClaim := { program := "ytdlhodbokkaghaa", sum := "a179c8fd0f8b3da62535dd89934eb068140dd7a9fc06d674bfde143d32f66006", func := "tiller/tillerlaw06.ModelMakes", spec := "modelMakes", apart := false }
def ModelMakesSaid : Prop := modelMakesRow.holds Try.pinned (OpenSpec.ofChange modelMakesSpec)

/-- ITS FALSE NEIGHBOUR: 'it returns false'. Refute it at one input. -/
def modelMakesWrong : ChangeSpec := { name := "modelMakes", fn := fun _ => fun
  | [d1, d2] => { results := [.lit (.bool false)], args := [d1, d2] }
  | _ => none }
def ModelMakesWrongFalsely : Prop := modelMakesRow.holds Try.pinned (OpenSpec.ofChange modelMakesWrong)

/-- 'tillerlaw06.ModelWants': WHATEVER THE INPUT: true; the input reads as it did. -/
def modelWantsSpec : ChangeSpec := { name := "modelWants", fn := fun _ => fun
  | [d1, d2, d3, d4] => { results := [.lit (.bool true)], args := [d1, d2, d3, d4] }
  | _ => none }
def modelWantsRow : OpenClaim := { program := "ytdlhodbokkaghaa", sum := "a179c8fd0f8b3da62535dd89934eb068140dd7a9fc06d674bfde143d32f66006", func := "tiller/tillerlaw06.ModelWants", spec := "modelWants", apart := false }
def ModelWantsSaid : Prop := modelWantsRow.holds Try.pinned (OpenSpec.ofChange modelWantsSpec)

/-- ITS FALSE NEIGHBOUR: 'it returns false'. Refute it at one input. -/
def modelWantsWrong : ChangeSpec := { name := "modelWants", fn := fun _ => fun
  | [d1, d2, d3, d4] => { results := [.lit (.bool false)], args := [d1, d2, d3, d4] }
  | _ => none }
def ModelWantsWrongFalsely : Prop := modelWantsRow.holds Try.pinned (OpenSpec.ofChange modelWantsWrong)

/-- 'tillerlaw06.ModelChecks': WHATEVER THE INPUT: true; the input reads as it did. -/
def modelChecksSpec : ChangeSpec := { name := "modelChecks", fn := fun _ => fun
  | [d1, d2, d3] => { results := [.lit (.bool true)], args := [d1, d2, d3] }
  | _ => none }
def modelChecksRow : OpenClaim := { program := "ytdlhodbokkaghaa", sum := "a179c8fd0f8b3da62535dd89934eb068140dd7a9fc06d674bfde143d32f66006", func := "tiller/tillerlaw06.ModelChecks", spec := "modelChecks", apart := false }
def ModelChecksSaid : Prop := modelChecksRow.holds Try.pinned (OpenSpec.ofChange modelChecksSpec)

/-- ITS FALSE NEIGHBOUR: 'it returns false'. Refute it at one input. -/
def modelChecksWrong : ChangeSpec := { name := "modelChecks", fn := fun _ => fun
  | [d1, d2, d3] => { results := [.lit (.bool false)], args := [d1, d2, d3] }
  | _ => none }
def ModelChecksWrongFalsely : Prop := modelChecksRow.holds Try.pinned (OpenSpec.ofChange modelChecksWrong)

/- THE SECOND FORM. 'bulk': how many values and letters a reading holds, each counted each time it is reached (what is shared counts as often as it is met; a slice's spare places count too). A statement '..UptoSaid' is the law's where the arguments, and the package variables that the reading takes, are together of bulk at most 1048576: NARROWER than '..Said'. Prove '..Said' where nothing that the law and all that it calls make is longer than what came in: it says more and counts as full. Else prove '..UptoSaid'. A law counts once. -/
mutual
def uptoBulk {H : Type} : DataW H → Nat
  | .lit (.string bytes) => bytes.length + 1
  | .lit _ => 1
  | .nil => 1
  | .ptr d => uptoBulk d + 1
  | .slice elems spare => uptoBulkAll elems + uptoBulkAll spare + 1
  | .agg parts => uptoBulkAll parts + 1
  | .iface _ d => uptoBulk d + 1
  | .map entries => uptoBulkEntries entries + 1
  | .held _ => 1
def uptoBulkAll {H : Type} : List (DataW H) → Nat
  | [] => 0
  | d :: r => uptoBulk d + uptoBulkAll r
def uptoBulkEntries {H : Type} : List (Lit × DataW H) → Nat
  | [] => 0
  | x :: r => uptoBulkEntry x + uptoBulkEntries r
def uptoBulkEntry {H : Type} : Lit × DataW H → Nat
  | (.string bytes, d) => bytes.length + uptoBulk d + 1
  | (_, d) => uptoBulk d + 1
 end
def uptoSmall : (H : Type) → List (DataW H) → Bool := fun _ ds => decide (uptoBulkAll ds ≤ 1048576)
def OpenSpec.upto (s : _root_.Go.ChangeSpec) : _root_.Go.OpenSpec := { _root_.Go.OpenSpec.ofChange s with cond := some uptoSmall }

/-- 'tillerlaw06.ModelBounds', WHERE WHAT IT READS IS OF BULK AT MOST 1048576: true; the input reads as it did. -/
def modelBoundsUptoRow : OpenClaim := { program := "ytdlhodbokkaghaa", sum := "a179c8fd0f8b3da62535dd89934eb068140dd7a9fc06d674bfde143d32f66006", func := "tiller/tillerlaw06.ModelBounds", spec := "modelBounds", apart := false, narrowed := true }
def ModelBoundsUptoSaid : Prop := modelBoundsUptoRow.holds Try.pinned (OpenSpec.upto modelBoundsSpec)

/-- 'tillerlaw06.ModelBegins', WHERE WHAT IT READS IS OF BULK AT MOST 1048576: true; the input reads as it did. -/
def modelBeginsUptoRow : OpenClaim := { program := "ytdlhodbokkaghaa", sum := "a179c8fd0f8b3da62535dd89934eb068140dd7a9fc06d674bfde143d32f66006", func := "tiller/tillerlaw06.ModelBegins", spec := "modelBegins", apart := false, narrowed := true }
def ModelBeginsUptoSaid : Prop := modelBeginsUptoRow.holds Try.pinned (OpenSpec.upto modelBeginsSpec)

/-- 'tillerlaw06.ModelCopies', WHERE WHAT IT READS IS OF BULK AT MOST 1048576: true; the input reads as it did. -/
def modelCopiesUptoRow : OpenClaim := { program := "ytdlhodbokkaghaa", sum := "a179c8fd0f8b3da62535dd89934eb068140dd7a9fc06d674bfde143d32f66006", func := "tiller/tillerlaw06.ModelCopies", spec := "modelCopies", apart := false, narrowed := true }
def ModelCopiesUptoSaid : Prop := modelCopiesUptoRow.holds Try.pinned (OpenSpec.upto modelCopiesSpec)

/-- 'tillerlaw06.ModelMakes', WHERE WHAT IT READS IS OF BULK AT MOST 1048576: true; the input reads as it did. -/
def modelMakesUptoRow : OpenClaim := { program := "ytdlhodbokkaghaa", sum := "a179c8fd0f8b3da62535dd89934eb068140dd7a9fc06d674bfde143d32f66006", func := "tiller/tillerlaw06.ModelMakes", spec := "modelMakes", apart := false, narrowed := true }
def ModelMakesUptoSaid : Prop := modelMakesUptoRow.holds Try.pinned (OpenSpec.upto modelMakesSpec)

/-- 'tillerlaw06.ModelWants', WHERE WHAT IT READS IS OF BULK AT MOST 1048576: true; the input reads as it did. -/
def modelWantsUptoRow : OpenClaim := { program := "ytdlhodbokkaghaa", sum := "a179c8fd0f8b3da62535dd89934eb068140dd7a9fc06d674bfde143d32f66006", func := "tiller/tillerlaw06.ModelWants", spec := "modelWants", apart := false, narrowed := true }
def ModelWantsUptoSaid : Prop := modelWantsUptoRow.holds Try.pinned (OpenSpec.upto modelWantsSpec)

/-- 'tillerlaw06.ModelChecks', WHERE WHAT IT READS IS OF BULK AT MOST 1048576: true; the input reads as it did. -/
def modelChecksUptoRow : OpenClaim := { program := "ytdlhodbokkaghaa", sum := "a179c8fd0f8b3da62535dd89934eb068140dd7a9fc06d674bfde143d32f66006", func := "tiller/tillerlaw06.ModelChecks", spec := "modelChecks", apart := false, narrowed := true }
def ModelChecksUptoSaid : Prop := modelChecksUptoRow.holds Try.pinned (OpenSpec.upto modelChecksSpec)

end Rows
end Go.Proofs.Ytdlhodbokkaghaa
