/- CurveRoots: the pure statement. -/
import Derived.Test.YtidmffdeeopgcaaUInverse
import Derived.Test.YtidmffdeeopgcaaGQx3
set_option linter.unusedVariables false
set_option linter.unusedSimpArgs false
namespace Go.Proofs.Ytidmffdeeopgcaa.Pure
open Go.RowKit Go.Proofs.YtidmffdeeopgcaaW.PrintWords Go.Proofs.YtidmffdeeopgcaaW.PrintLast Go.Proofs.YtidmffdeeopgcaaW.PrintMore Go.Proofs.Ytidmffdeeopgcaa.GQ Go.Proofs.Ytidmffdeeopgcaa.GLen Go.Proofs.Ytidmffdeeopgcaa.GCurve Go.Proofs.Ytidmffdeeopgcaa.GAwake Go.Proofs.Ytidmffdeeopgcaa.U
theorem CurveRoots : ∀ (a0 : Int) (a1 : Int), (Lit.int .u64 a0).wf = true → (Lit.int .i32 a1).wf = true → ∃ k, tillerlaw02_CurveRoots.f k a0 a1 = some true := by
  intro a0 a1 h0 h1
  have h0 := wf_u64 h0
  have h1 := wf_i32 h1
  obtain ⟨s, hs, hf⟩ := Root_eq a0 h0.1 h0.2
  obtain ⟨s', hs', hf'⟩ := rRoot_eq a0 h0.1 h0.2 4294967297 (by omega)
  refine ⟨4294967297, ?_⟩
  unfold tillerlaw02_CurveRoots.f tillerlaw02_awake.f
  rw [Option.bind_some, if_pos rfl, hf _ (Nat.le_refl _), Option.bind_some, hf', Option.bind_some, if_pos (isq_unique hs hs')]
  by_cases hy : a1 ≤ 0
  · rw [Inverse_low a1 hy, rInverse_low a1 hy]; rfl
  · obtain ⟨t, ht, _, hg⟩ := Inverse_eq a1 (by omega) h1.2
    obtain ⟨t', ht', hg'⟩ := rInverse_eq a1 (by omega) h1.2 4294967297 (by omega)
    rw [hg _ (Nat.le_refl _), hg', isq_unique ht ht']
    simp
end Go.Proofs.Ytidmffdeeopgcaa.Pure
