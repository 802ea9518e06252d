/- PoolForgets: the pure statement. -/
import Derived.Test.YtmbbaalpeomnlaaOForgets
import Derived.Test.YtmbbaalpeomnlaaUMath
set_option linter.unusedVariables false
namespace Go.Proofs.Ytmbbaalpeomnlaa.Pure
open Go.RowKit Go.Proofs.Ytmbbaalpeomnlaa.OForgets Go.Proofs.Ytmbbaalpeomnlaa.U
theorem PoolForgets : ∀ (a0 : Int) (a1 : Int) (a2 : Int), (Lit.int .i64 a0).wf = true → (Lit.int .i64 a1).wf = true → (Lit.int .i64 a2).wf = true → ∃ k : Nat, tillerlaw12_PoolForgets.f a0 a1 a2 = some true := by
  intro a0 a1 a2 h0 h1 h2
  exact ⟨0, by unfold tillerlaw12_PoolForgets.f; rw [if_pos ⟨wf_i64 h0, wf_i64 h1⟩]⟩
end Go.Proofs.Ytmbbaalpeomnlaa.Pure
