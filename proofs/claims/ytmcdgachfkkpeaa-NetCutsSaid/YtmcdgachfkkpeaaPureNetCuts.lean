/- NetCuts: the pure statement. -/
import Derived.Test.YtmcdgachfkkpeaaOCuts
import Derived.Test.YtmcdgachfkkpeaaUMath
set_option linter.unusedVariables false
namespace Go.Proofs.Ytmcdgachfkkpeaa.Pure
open Go.RowKit Go.Proofs.Ytmcdgachfkkpeaa.GQ Go.Proofs.Ytmcdgachfkkpeaa.OCuts Go.Proofs.Ytmcdgachfkkpeaa.U
theorem NetCuts : ∀ (l0 : List ByteArray) (l1 : List Int) (a2 : Int), (l0.length * 16 ≤ 140737488351232 ∧ l0.length ≤ maxLen ∧ ∀ x0 ∈ l0, x0.size ≤ 140737488351232) → (l1.length * 8 ≤ 140737488351232 ∧ l1.length ≤ maxLen ∧ ∀ x0 ∈ l1, (Lit.int .i64 x0).wf = true) → (Lit.int .i64 a2).wf = true → ∃ k : Nat, tillerlaw16_NetCuts.f l0 l1 a2 = some true := by
  intro l0 l1 a2 h0 h1 h2
  exact ⟨0, by unfold tillerlaw16_NetCuts.f; rw [if_pos h0.2.1]⟩
end Go.Proofs.Ytmcdgachfkkpeaa.Pure
