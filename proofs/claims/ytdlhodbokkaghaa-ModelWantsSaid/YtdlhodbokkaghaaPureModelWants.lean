/- ModelWants: the pure statement. -/
import Derived.Test.YtdlhodbokkaghaaOWants
set_option linter.unusedVariables false
namespace Go.Proofs.Ytdlhodbokkaghaa.Pure
open Go.RowKit Go.Proofs.Ytdlhodbokkaghaa.GQ Go.Proofs.Ytdlhodbokkaghaa.OWants Go.Proofs.Ytdlhodbokkaghaa.U
theorem ModelWants : ∀ (a0_0 : Int) (a0_1 : Int) (a0_2 : Int) (a0_3 : Int) (a0_4 : Int) (a1 : Int) (a2 : Int) (a3 : Bool), (Lit.int .i64 a0_0).wf = true → (Lit.int .i64 a0_1).wf = true → (Lit.int .i64 a0_2).wf = true → (Lit.int .i64 a0_3).wf = true → (Lit.int .i64 a0_4).wf = true → (Lit.int .u64 a1).wf = true → (Lit.int .i64 a2).wf = true → ∃ k : Nat, tillerlaw06_ModelWants.f a0_0 a0_1 a0_2 a0_3 a0_4 a1 a2 a3 = some true := by
  intro v d hs hid ly sd wh more _ _ _ _ _ hsd _
  have hr := wf_u64 hsd
  refine ⟨0, ?_⟩
  unfold tillerlaw06_ModelWants.f
  rw [if_pos ⟨hr.1, by omega⟩]
end Go.Proofs.Ytdlhodbokkaghaa.Pure
