/- NetFull: the pure statement. -/
import Derived.Test.YtmcdgachfkkpeaaOFull
import Derived.Test.YtmcdgachfkkpeaaUMath
set_option linter.unusedVariables false
namespace Go.Proofs.Ytmcdgachfkkpeaa.Pure
open Go.RowKit Go.Proofs.Ytmcdgachfkkpeaa.GQ Go.Proofs.Ytmcdgachfkkpeaa.OFull Go.Proofs.Ytmcdgachfkkpeaa.U
theorem NetFull : ∀ (a0 : Int) (a1 : Int), (Lit.int .i64 a0).wf = true → (Lit.int .i64 a1).wf = true → ∃ k : Nat, tillerlaw16_NetFull.f a0 a1 = some true := by
  intro a0 a1 h0 h1
  exact ⟨0, by unfold tillerlaw16_NetFull.f; rw [if_pos ⟨wf_i64 h0, wf_i64 h1⟩]⟩
end Go.Proofs.Ytmcdgachfkkpeaa.Pure
