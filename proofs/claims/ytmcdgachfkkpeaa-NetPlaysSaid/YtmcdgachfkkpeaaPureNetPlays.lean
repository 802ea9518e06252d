/- NetPlays: the pure statement. -/
import Derived.Test.YtmcdgachfkkpeaaOPlays
import Derived.Test.YtmcdgachfkkpeaaUMath
set_option linter.unusedVariables false
namespace Go.Proofs.Ytmcdgachfkkpeaa.Pure
open Go.RowKit Go.Proofs.Ytmcdgachfkkpeaa.GQ Go.Proofs.Ytmcdgachfkkpeaa.OPlays Go.Proofs.Ytmcdgachfkkpeaa.U
theorem NetPlays : ∀ (l0 : List (S52)), (l0.length * 48 ≤ 140737488351232 ∧ l0.length ≤ maxLen ∧ ∀ x0 ∈ l0, ((Lit.int .i64 x0.f0).wf = true ∧ (Lit.int .i64 x0.f1).wf = true ∧ (Lit.int .i64 x0.f2).wf = true ∧ x0.f3.size ≤ 140737488351232 ∧ (Lit.int .u32 x0.f4).wf = true)) → ∃ k : Nat, tillerlaw16_NetPlays.f l0 = some true := by
  intro l0 h0
  refine ⟨0, ?_⟩
  unfold tillerlaw16_NetPlays.f
  rw [if_pos]
  intro x hx
  obtain ⟨_, _, h2, _, h4⟩ := h0.2.2 x hx
  exact ⟨wf_i64 h2, (wf_u32 h4).1, by have := (wf_u32 h4).2; omega⟩
end Go.Proofs.Ytmcdgachfkkpeaa.Pure
