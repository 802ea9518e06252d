/- PoolHolds: the pure statement. -/
import Derived.Test.YtmbbaalpeomnlaaOHolds
import Derived.Test.YtmbbaalpeomnlaaUMath
set_option linter.unusedVariables false
namespace Go.Proofs.Ytmbbaalpeomnlaa.Pure
open Go.RowKit Go.Proofs.Ytmbbaalpeomnlaa.OHolds Go.Proofs.Ytmbbaalpeomnlaa.U
theorem PoolHolds : ∀ (a0 : Int), (Lit.int .i64 a0).wf = true → ∃ k : Nat, tillerlaw12_PoolHolds.f a0 = some true := by
  intro a0 h0
  exact ⟨0, by unfold tillerlaw12_PoolHolds.f; rw [if_pos (wf_i64 h0)]⟩
end Go.Proofs.Ytmbbaalpeomnlaa.Pure
