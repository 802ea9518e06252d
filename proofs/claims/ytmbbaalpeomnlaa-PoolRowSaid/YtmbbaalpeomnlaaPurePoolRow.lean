/- PoolRow: the pure statement. -/
import Derived.Test.YtmbbaalpeomnlaaORow
import Derived.Test.YtmbbaalpeomnlaaUMath
set_option linter.unusedVariables false
namespace Go.Proofs.Ytmbbaalpeomnlaa.Pure
open Go.RowKit Go.Proofs.Ytmbbaalpeomnlaa.GQ Go.Proofs.Ytmbbaalpeomnlaa.ORow Go.Proofs.Ytmbbaalpeomnlaa.U
theorem PoolRow : ∀ (a0 : Int) (l1 : List Int) (a2 : Int), (Lit.int .i64 a0).wf = true → (l1.length * 8 ≤ 140737488351232 ∧ l1.length ≤ maxLen ∧ ∀ x0 ∈ l1, (Lit.int .i64 x0).wf = true) → (Lit.int .i64 a2).wf = true → ∃ k : Nat, tillerlaw12_PoolRow.f a0 l1 a2 = some true := by
  intro a0 l1 a2 h0 h1 h2
  exact ⟨0, by unfold tillerlaw12_PoolRow.f; rw [if_pos (wf_i64 h0)]⟩
end Go.Proofs.Ytmbbaalpeomnlaa.Pure
