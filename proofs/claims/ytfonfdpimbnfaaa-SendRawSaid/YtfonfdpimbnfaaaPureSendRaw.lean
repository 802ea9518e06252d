/- SendRaw: the pure statement. -/
import Derived.Test.YtfonfdpimbnfaaaOSendRaw
set_option linter.unusedVariables false
namespace Go.Proofs.Ytfonfdpimbnfaaa.Pure
open Go.RowKit Go.Proofs.Ytfonfdpimbnfaaa.GQ Go.Proofs.Ytfonfdpimbnfaaa.OSendRaw Go.Proofs.Ytfonfdpimbnfaaa.U
theorem SendRaw : ∀ (a0_0 : Int) (l0_1 : List ByteArray) (l0_2 : List Bool) (a1 : Int) (a2 : Int), (Lit.int .i64 a0_0).wf = true → (l0_1.length * 16 ≤ 140737488351232 ∧ l0_1.length ≤ maxLen ∧ ∀ x0 ∈ l0_1, x0.size ≤ 140737488351232) → (l0_2.length * 1 ≤ 140737488351232 ∧ l0_2.length ≤ maxLen ∧ ∀ x0 ∈ l0_2, True) → (Lit.int .i64 a1).wf = true → (Lit.int .i64 a2).wf = true → ∃ k : Nat, tillerlaw20_SendRaw.f a0_0 l0_1 l0_2 a1 a2 = some true := by
  intro num P C n a _ h1 h2 _ h4
  refine ⟨0, ?_⟩
  unfold tillerlaw20_SendRaw.f
  rw [if_pos]
  exact ⟨⟨by omega, by omega⟩, wf_i64 h4⟩
end Go.Proofs.Ytfonfdpimbnfaaa.Pure
