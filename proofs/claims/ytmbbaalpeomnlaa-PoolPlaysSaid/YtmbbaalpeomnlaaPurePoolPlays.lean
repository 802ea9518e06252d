/- PoolPlays: the pure statement. -/
import Derived.Test.YtmbbaalpeomnlaaOPoolPlays
import Derived.Test.YtmbbaalpeomnlaaUMath
set_option linter.unusedVariables false
namespace Go.Proofs.Ytmbbaalpeomnlaa.Pure
open Go.RowKit Go.Proofs.Ytmbbaalpeomnlaa.GQ Go.Proofs.Ytmbbaalpeomnlaa.OPoolPlays Go.Proofs.Ytmbbaalpeomnlaa.U
theorem PoolPlays : ∀ (a0 : Int) (l1 : List (S47)), (Lit.int .i64 a0).wf = true → (l1.length * 24 ≤ 140737488351232 ∧ l1.length ≤ maxLen ∧ ∀ x0 ∈ l1, ((Lit.int .i64 x0.f0).wf = true ∧ (Lit.int .i64 x0.f1).wf = true ∧ (Lit.int .i64 x0.f2).wf = true)) → ∃ k : Nat, tillerlaw12_PoolPlays.f a0 l1 = some true := by
  intro a0 l1 h0 h1
  exact ⟨0, by unfold tillerlaw12_PoolPlays.f; rw [if_pos (wf_i64 h0)]⟩
end Go.Proofs.Ytmbbaalpeomnlaa.Pure
