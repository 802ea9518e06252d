/- SendPlays: the pure statement. -/
import Derived.Test.YtfonfdpimbnfaaaOSendPlays
set_option linter.unusedVariables false
namespace Go.Proofs.Ytfonfdpimbnfaaa.Pure
open Go.RowKit Go.Proofs.Ytfonfdpimbnfaaa.GQ Go.Proofs.Ytfonfdpimbnfaaa.OSendPlays Go.Proofs.Ytfonfdpimbnfaaa.U
theorem SendPlays : ∀ (a0 : Int) (a1 : ByteArray) (a2 : Int) (l3 : List Int) (l4 : List Int) (a5 : Int), (Lit.int .i64 a0).wf = true → a1.size ≤ 140737488351232 → (Lit.int .i64 a2).wf = true → (l3.length * 8 ≤ 140737488351232 ∧ l3.length ≤ maxLen ∧ ∀ x0 ∈ l3, (Lit.int .i64 x0).wf = true) → (l4.length * 8 ≤ 140737488351232 ∧ l4.length ≤ maxLen ∧ ∀ x0 ∈ l4, (Lit.int .i64 x0).wf = true) → (Lit.int .i64 a5).wf = true → ∃ k : Nat, tillerlaw20_SendPlays.f a0 a1 a2 l3 l4 a5 = some true := by
  intro num t sz l3 l4 most _ h1 h2 h3 h4 h5
  refine ⟨0, ?_⟩
  unfold tillerlaw20_SendPlays.f
  rw [if_pos]
  exact ⟨⟨by omega, by omega⟩, wf_i64 h5⟩
end Go.Proofs.Ytfonfdpimbnfaaa.Pure
