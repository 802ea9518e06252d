/- TrieBack: the pure statement. -/
import Derived.Test.YtfnogcppbhggpaaOTBack
set_option linter.unusedVariables false
namespace Go.Proofs.Ytfnogcppbhggpaa.Pure
open Go.RowKit Go.Proofs.Ytfnogcppbhggpaa.GQ Go.Proofs.Ytfnogcppbhggpaa.OTBack Go.Proofs.Ytfnogcppbhggpaa.OTrie
theorem TrieBack : ∀ (l0 : List (List Int)) (l1 : List (List Int)) (l2 : List Int), (l0.length * 24 ≤ 140737488351232 ∧ l0.length ≤ maxLen ∧ ∀ x0 ∈ l0, (x0.length * 8 ≤ 140737488351232 ∧ x0.length ≤ maxLen ∧ ∀ x1 ∈ x0, (Lit.int .i64 x1).wf = true)) → (l1.length * 24 ≤ 140737488351232 ∧ l1.length ≤ maxLen ∧ ∀ x0 ∈ l1, (x0.length * 8 ≤ 140737488351232 ∧ x0.length ≤ maxLen ∧ ∀ x1 ∈ x0, (Lit.int .i64 x1).wf = true)) → (l2.length * 8 ≤ 140737488351232 ∧ l2.length ≤ maxLen ∧ ∀ x0 ∈ l2, (Lit.int .i64 x0).wf = true) → ∃ k : Nat, tillerlaw13_TrieBack.f l0 l1 l2 = some true := by
  intro l0 l1 l2 h0 h1 h2
  refine ⟨0, ?_⟩
  unfold tillerlaw13_TrieBack.f
  rw [if_pos ⟨fun x hx => okL_wf (h0.2.2 x hx).2.2, fun x hx => okL_wf (h1.2.2 x hx).2.2, okL_wf h2.2.2, by omega⟩]
end Go.Proofs.Ytfnogcppbhggpaa.Pure
