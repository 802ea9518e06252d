/- MatUnits: the pure statement. -/
import Derived.Test.YtefimleoffaggaaOMatUnits
set_option linter.unusedVariables false
namespace Go.Proofs.Ytefimleoffaggaa.Pure
open Go.RowKit Go.Proofs.Ytefimleoffaggaa.GQ Go.Proofs.Ytefimleoffaggaa.OMatUnits Go.Proofs.Ytefimleoffaggaa.U
theorem MatUnits : ∀ (a0_0 : Int) (a0_1 : Int) (l0_2 : List Int) (a1 : Int), (Lit.int .i64 a0_0).wf = true → (Lit.int .i64 a0_1).wf = true → (l0_2.length * 4 ≤ 140737488351232 ∧ l0_2.length ≤ maxLen ∧ ∀ x0 ∈ l0_2, (Lit.int .i32 x0).wf = true) → (Lit.int .i64 a1).wf = true → ∃ k : Nat, tillerlaw04_MatUnits.f a0_0 a0_1 l0_2 a1 = some true := by
  intro a b l0 j _ _ h0 h1
  refine ⟨0, ?_⟩
  unfold tillerlaw04_MatUnits.f
  rw [if_pos]
  exact ⟨⟨I32.wf h0.2.2, by omega⟩, wf_i64 h1⟩
end Go.Proofs.Ytefimleoffaggaa.Pure
