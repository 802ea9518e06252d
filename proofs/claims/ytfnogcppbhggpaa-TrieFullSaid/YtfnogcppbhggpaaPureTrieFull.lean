/- TrieFull: the pure statement. -/
import Derived.Test.YtfnogcppbhggpaaOTFull
set_option linter.unusedVariables false
namespace Go.Proofs.Ytfnogcppbhggpaa.Pure
open Go.RowKit Go.Proofs.Ytfnogcppbhggpaa.GQ Go.Proofs.Ytfnogcppbhggpaa.OTFull
theorem TrieFull : ∀ (a0 : Int), (Lit.int .i64 a0).wf = true → ∃ k : Nat, tillerlaw13_TrieFull.f a0 = some true := fun a0 _ => ⟨0, rfl⟩
end Go.Proofs.Ytfnogcppbhggpaa.Pure
