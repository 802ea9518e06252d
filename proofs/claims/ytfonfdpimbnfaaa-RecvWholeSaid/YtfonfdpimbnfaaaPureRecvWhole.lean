/- RecvWhole: the pure statement. -/
import Derived.Test.YtfonfdpimbnfaaaORecvWhole
set_option linter.unusedVariables false
namespace Go.Proofs.Ytfonfdpimbnfaaa.Pure
open Go.RowKit Go.Proofs.Ytfonfdpimbnfaaa.GQ Go.Proofs.Ytfonfdpimbnfaaa.ORecvWhole Go.Proofs.Ytfonfdpimbnfaaa.U
theorem RecvWhole : ∀ (a0 : Int) (a1 : ByteArray) (a2 : Int) (l3 : List Int), (Lit.int .i64 a0).wf = true → a1.size ≤ 140737488351232 → (Lit.int .i64 a2).wf = true → (l3.length * 8 ≤ 140737488351232 ∧ l3.length ≤ maxLen ∧ ∀ x0 ∈ l3, (Lit.int .i64 x0).wf = true) → ∃ k : Nat, tillerlaw21_RecvWhole.f a0 a1 a2 l3 = some true := by
  intro a0 a1 a2 l3 _ _ _ h
  refine ⟨0, ?_⟩
  unfold tillerlaw21_RecvWhole.f
  rw [if_pos]
  omega
end Go.Proofs.Ytfonfdpimbnfaaa.Pure
