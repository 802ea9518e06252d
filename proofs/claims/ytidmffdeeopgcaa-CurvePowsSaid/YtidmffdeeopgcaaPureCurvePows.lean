/- CurvePows: the pure statement. -/
import Derived.Test.YtidmffdeeopgcaaGPows
set_option linter.unusedVariables false
namespace Go.Proofs.Ytidmffdeeopgcaa.Pure
open Go.RowKit Go.Proofs.Ytidmffdeeopgcaa.GPows Go.Proofs.Ytidmffdeeopgcaa.U
theorem CurvePows : ∀ (a0 : Int) (a1 : Int), (Lit.int .i32 a0).wf = true → (Lit.int .i64 a1).wf = true → ∃ k : Nat, tillerlaw02_CurvePows.f a0 a1 = some true := by
  intro a0 a1 h0 h1
  exact ⟨0, by unfold tillerlaw02_CurvePows.f; rw [if_pos ⟨wf_i32 h0, wf_i64 h1⟩]⟩
end Go.Proofs.Ytidmffdeeopgcaa.Pure
