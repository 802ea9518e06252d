/- CurveSteps: the pure statement. -/
import Derived.Test.YtidmffdeeopgcaaGStepsLaw
set_option linter.unusedVariables false
namespace Go.Proofs.Ytidmffdeeopgcaa.Pure
open Go.RowKit Go.Proofs.Ytidmffdeeopgcaa.GStepsLaw Go.Proofs.Ytidmffdeeopgcaa.U
theorem CurveSteps : ∀ (a0 : Int) (a1 : Int) (a2 : Int), (Lit.int .i32 a0).wf = true → (Lit.int .i64 a1).wf = true → (Lit.int .u32 a2).wf = true → ∃ k : Nat, tillerlaw02_CurveSteps.f a0 a1 a2 = some true := by
  intro a0 a1 a2 h0 h1 h2
  exact ⟨0, by unfold tillerlaw02_CurveSteps.f; rw [if_pos ⟨wf_i32 h0, wf_i64 h1, wf_u32 h2⟩]⟩
end Go.Proofs.Ytidmffdeeopgcaa.Pure
