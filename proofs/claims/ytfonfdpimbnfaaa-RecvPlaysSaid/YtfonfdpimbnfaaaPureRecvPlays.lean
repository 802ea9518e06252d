/- RecvPlays: the pure statement. -/
import Derived.Test.YtfonfdpimbnfaaaORecvPlays
set_option linter.unusedVariables false
namespace Go.Proofs.Ytfonfdpimbnfaaa.Pure
open Go.RowKit Go.Proofs.Ytfonfdpimbnfaaa.GQ Go.Proofs.Ytfonfdpimbnfaaa.ORecvPlays Go.Proofs.Ytfonfdpimbnfaaa.U
theorem RecvPlays : ∀ (a0 : Int) (a1 : Int) (l2 : List (S46)), (Lit.int .i64 a0).wf = true → (Lit.int .i64 a1).wf = true → (l2.length * 40 ≤ 140737488351232 ∧ l2.length ≤ maxLen ∧ ∀ x0 ∈ l2, ((Lit.int .i64 x0.f0).wf = true ∧ (Lit.int .i64 x0.f1).wf = true ∧ (Lit.int .i64 x0.f2).wf = true ∧ x0.f3.size ≤ 140737488351232)) → ∃ k : Nat, tillerlaw21_RecvPlays.f a0 a1 l2 = some true := by
  intro a0 a1 l2 _ _ h
  refine ⟨0, ?_⟩
  unfold tillerlaw21_RecvPlays.f
  rw [if_pos]
  omega
end Go.Proofs.Ytfonfdpimbnfaaa.Pure
