/- RouterKeeps: the pure statement. -/
import Derived.Test.YthihgiaflbaigaaOKeeps
set_option linter.unusedVariables false
namespace Go.Proofs.Ythihgiaflbaigaa.Pure
open Go.RowKit Go.Proofs.Ythihgiaflbaigaa.GQ Go.Proofs.Ythihgiaflbaigaa.OKeeps Go.Proofs.Ythihgiaflbaigaa.OMap
theorem RouterKeeps : ∀ (l0 : List Int) (l1 : List Int), (l0.length * 8 ≤ 140737488351232 ∧ l0.length ≤ maxLen ∧ ∀ x0 ∈ l0, (Lit.int .i64 x0).wf = true) → (l1.length * 8 ≤ 140737488351232 ∧ l1.length ≤ maxLen ∧ ∀ x0 ∈ l1, (Lit.int .i64 x0).wf = true) → ∃ k : Nat, tillerlaw24_RouterKeeps.f l0 l1 = some true := by
  intro l0 l1 h0 h1
  refine ⟨0, ?_⟩
  unfold tillerlaw24_RouterKeeps.f
  rw [if_pos]
  exact ⟨fun x hx => Go.Proofs.Ythihgiaflbaigaa.U.wf_i64 (h0.2.2 x hx), fun x hx => Go.Proofs.Ythihgiaflbaigaa.U.wf_i64 (h1.2.2 x hx)⟩
end Go.Proofs.Ythihgiaflbaigaa.Pure
