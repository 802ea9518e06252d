/- VecTurns: the pure statement. -/
import Derived.Test.YtefimleoffaggaaOTurns
set_option linter.unusedVariables false
namespace Go.Proofs.Ytefimleoffaggaa.Pure
open Go.RowKit Go.Proofs.Ytefimleoffaggaa.GQ Go.Proofs.Ytefimleoffaggaa.OTurns Go.Proofs.Ytefimleoffaggaa.U
theorem VecTurns : ∀ (l0 : List Int) (l1 : List Int) (a2 : Int), (l0.length * 4 ≤ 140737488351232 ∧ l0.length ≤ maxLen ∧ ∀ x0 ∈ l0, (Lit.int .i32 x0).wf = true) → (l1.length * 4 ≤ 140737488351232 ∧ l1.length ≤ maxLen ∧ ∀ x0 ∈ l1, (Lit.int .i32 x0).wf = true) → (Lit.int .i64 a2).wf = true → ∃ k : Nat, tillerlaw03_VecTurns.f l0 l1 a2 = some true := by
  intro l0 l1 a2 h0 h1 h2
  refine ⟨0, ?_⟩
  unfold tillerlaw03_VecTurns.f
  rw [if_pos]
  exact ⟨⟨I32.wf h0.2.2, by omega⟩, ⟨I32.wf h1.2.2, by omega⟩⟩
end Go.Proofs.Ytefimleoffaggaa.Pure
