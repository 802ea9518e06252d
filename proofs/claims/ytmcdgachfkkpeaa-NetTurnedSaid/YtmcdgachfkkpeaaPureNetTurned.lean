/- NetTurned: the pure statement. -/
import Derived.Test.YtmcdgachfkkpeaaOTurned
import Derived.Test.YtmcdgachfkkpeaaUMath
set_option linter.unusedVariables false
namespace Go.Proofs.Ytmcdgachfkkpeaa.Pure
open Go.RowKit Go.Proofs.Ytmcdgachfkkpeaa.GQ Go.Proofs.Ytmcdgachfkkpeaa.OTurned Go.Proofs.Ytmcdgachfkkpeaa.U
theorem NetTurned : ∀ (a0 : ByteArray) (a1 : Int) (a2 : Int), a0.size ≤ 140737488351232 → (Lit.int .i64 a1).wf = true → (Lit.int .u32 a2).wf = true → ∃ k : Nat, tillerlaw16_NetTurned.f a0 a1 a2 = some true := by
  intro a0 a1 a2 h0 h1 h2
  have h3 := wf_u32 h2
  exact ⟨0, by unfold tillerlaw16_NetTurned.f; rw [if_pos ⟨wf_i64 h1, h3.1, by omega⟩]⟩
end Go.Proofs.Ytmcdgachfkkpeaa.Pure
