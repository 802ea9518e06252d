/- ModelCopies: the pure statement. -/
import Derived.Test.YtdlhodbokkaghaaOCopies
set_option linter.unusedVariables false
namespace Go.Proofs.Ytdlhodbokkaghaa.Pure
open Go.RowKit Go.Proofs.Ytdlhodbokkaghaa.GQ Go.Proofs.Ytdlhodbokkaghaa.OCopies Go.Proofs.Ytdlhodbokkaghaa.U
theorem ModelCopies : ∀ (a0_0 : Int) (a0_1 : Int) (l0_2 : List Int) (l0_3 : List (S37)) (l0_4 : List Int) (a0_5 : Int) (a0_6 : Int) (l0_7 : List Int) (a1 : Int), (Lit.int .i64 a0_0).wf = true → (Lit.int .i64 a0_1).wf = true → (l0_2.length * 4 ≤ 140737488351232 ∧ l0_2.length ≤ maxLen ∧ ∀ x0 ∈ l0_2, (Lit.int .i32 x0).wf = true) → (l0_3.length * 288 ≤ 140737488351232 ∧ l0_3.length ≤ maxLen ∧ ∀ x0 ∈ l0_3, ((x0.f0.length * 4 ≤ 140737488351232 ∧ x0.f0.length ≤ maxLen ∧ ∀ x1 ∈ x0.f0, (Lit.int .i32 x1).wf = true) ∧ ((Lit.int .i64 x0.f1.f0).wf = true ∧ (Lit.int .i64 x0.f1.f1).wf = true ∧ (x0.f1.f2.length * 4 ≤ 140737488351232 ∧ x0.f1.f2.length ≤ maxLen ∧ ∀ x1 ∈ x0.f1.f2, (Lit.int .i32 x1).wf = true)) ∧ ((Lit.int .i64 x0.f2.f0).wf = true ∧ (Lit.int .i64 x0.f2.f1).wf = true ∧ (x0.f2.f2.length * 4 ≤ 140737488351232 ∧ x0.f2.f2.length ≤ maxLen ∧ ∀ x1 ∈ x0.f2.f2, (Lit.int .i32 x1).wf = true)) ∧ ((Lit.int .i64 x0.f3.f0).wf = true ∧ (Lit.int .i64 x0.f3.f1).wf = true ∧ (x0.f3.f2.length * 4 ≤ 140737488351232 ∧ x0.f3.f2.length ≤ maxLen ∧ ∀ x1 ∈ x0.f3.f2, (Lit.int .i32 x1).wf = true)) ∧ ((Lit.int .i64 x0.f4.f0).wf = true ∧ (Lit.int .i64 x0.f4.f1).wf = true ∧ (x0.f4.f2.length * 4 ≤ 140737488351232 ∧ x0.f4.f2.length ≤ maxLen ∧ ∀ x1 ∈ x0.f4.f2, (Lit.int .i32 x1).wf = true)) ∧ (x0.f5.length * 4 ≤ 140737488351232 ∧ x0.f5.length ≤ maxLen ∧ ∀ x1 ∈ x0.f5, (Lit.int .i32 x1).wf = true) ∧ ((Lit.int .i64 x0.f6.f0).wf = true ∧ (Lit.int .i64 x0.f6.f1).wf = true ∧ (x0.f6.f2.length * 4 ≤ 140737488351232 ∧ x0.f6.f2.length ≤ maxLen ∧ ∀ x1 ∈ x0.f6.f2, (Lit.int .i32 x1).wf = true)) ∧ ((Lit.int .i64 x0.f7.f0).wf = true ∧ (Lit.int .i64 x0.f7.f1).wf = true ∧ (x0.f7.f2.length * 4 ≤ 140737488351232 ∧ x0.f7.f2.length ≤ maxLen ∧ ∀ x1 ∈ x0.f7.f2, (Lit.int .i32 x1).wf = true)))) → (l0_4.length * 4 ≤ 140737488351232 ∧ l0_4.length ≤ maxLen ∧ ∀ x0 ∈ l0_4, (Lit.int .i32 x0).wf = true) → (Lit.int .i64 a0_5).wf = true → (Lit.int .i64 a0_6).wf = true → (l0_7.length * 4 ≤ 140737488351232 ∧ l0_7.length ≤ maxLen ∧ ∀ x0 ∈ l0_7, (Lit.int .i32 x0).wf = true) → (Lit.int .i64 a1).wf = true → ∃ k : Nat, tillerlaw06_ModelCopies.f a0_0 a0_1 l0_2 l0_3 l0_4 a0_5 a0_6 l0_7 a1 = some true := by
  intro r c l2 l3 l4 r' c' l7 at_ _ _ h2 h3 h4 _ _ h7 ha
  have ha2 := wf_i64 ha
  refine ⟨0, ?_⟩
  unfold tillerlaw06_ModelCopies.f
  rw [if_pos]
  refine ⟨by omega, by omega, by omega, by omega, ?_, ha2.1, ha2.2⟩
  intro b hb
  obtain ⟨k0, ⟨_, _, k1⟩, ⟨_, _, k2⟩, ⟨_, _, k3⟩, ⟨_, _, k4⟩, k5, ⟨_, _, k6⟩, ⟨_, _, k7⟩⟩ := h3.2.2 b hb
  unfold lensB
  omega
end Go.Proofs.Ytdlhodbokkaghaa.Pure
