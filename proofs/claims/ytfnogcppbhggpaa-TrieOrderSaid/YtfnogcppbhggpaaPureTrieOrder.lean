/- TrieOrder: the pure statement. -/
import Derived.Test.YtfnogcppbhggpaaOTOrder
set_option linter.unusedVariables false
namespace Go.Proofs.Ytfnogcppbhggpaa.Pure
open Go.RowKit Go.Proofs.Ytfnogcppbhggpaa.GQ Go.Proofs.Ytfnogcppbhggpaa.OTOrder Go.Proofs.Ytfnogcppbhggpaa.OTrie
theorem TrieOrder : ∀ (l0 : List (List Int)), (l0.length * 24 ≤ 140737488351232 ∧ l0.length ≤ maxLen ∧ ∀ x0 ∈ l0, (x0.length * 8 ≤ 140737488351232 ∧ x0.length ≤ maxLen ∧ ∀ x1 ∈ x0, (Lit.int .i64 x1).wf = true)) → ∃ k : Nat, tillerlaw13_TrieOrder.f l0 = some true := by
  intro l0 h0
  refine ⟨0, ?_⟩
  unfold tillerlaw13_TrieOrder.f
  rw [if_pos (fun x hx => okL_wf (h0.2.2 x hx).2.2)]
end Go.Proofs.Ytfnogcppbhggpaa.Pure
