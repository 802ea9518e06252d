/- TriePlays: the pure statement. -/
import Derived.Test.YtfnogcppbhggpaaOTPlays
set_option linter.unusedVariables false
namespace Go.Proofs.Ytfnogcppbhggpaa.Pure
open Go.RowKit Go.Proofs.Ytfnogcppbhggpaa.GQ Go.Proofs.Ytfnogcppbhggpaa.OTPlays Go.Proofs.Ytfnogcppbhggpaa.OTrie
theorem TriePlays : ∀ (l0 : List (S56)) (l1 : List Int), (l0.length * 40 ≤ 140737488351232 ∧ l0.length ≤ maxLen ∧ ∀ x0 ∈ l0, ((Lit.int .i64 x0.f0).wf = true ∧ (x0.f1.length * 8 ≤ 140737488351232 ∧ x0.f1.length ≤ maxLen ∧ ∀ x1 ∈ x0.f1, (Lit.int .i64 x1).wf = true) ∧ (Lit.int .i64 x0.f2).wf = true)) → (l1.length * 8 ≤ 140737488351232 ∧ l1.length ≤ maxLen ∧ ∀ x0 ∈ l1, (Lit.int .i64 x0).wf = true) → ∃ k : Nat, tillerlaw13_TriePlays.f l0 l1 = some true := by
  intro l0 l1 h0 h1
  refine ⟨0, ?_⟩
  unfold tillerlaw13_TriePlays.f
  rw [if_pos ⟨fun x hx => okL_wf (h0.2.2 x hx).2.1.2.2, okL_wf h1.2.2⟩]
end Go.Proofs.Ytfnogcppbhggpaa.Pure
