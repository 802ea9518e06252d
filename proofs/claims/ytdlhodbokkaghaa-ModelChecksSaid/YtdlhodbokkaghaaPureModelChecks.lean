/- ModelChecks: the pure statement. -/
import Derived.Test.YtdlhodbokkaghaaOChecks
set_option linter.unusedVariables false
namespace Go.Proofs.Ytdlhodbokkaghaa.Pure
open Go.RowKit Go.Proofs.Ytdlhodbokkaghaa.GQ Go.Proofs.Ytdlhodbokkaghaa.OChecks Go.Proofs.Ytdlhodbokkaghaa.U
theorem ModelChecks : ∀ (a0_0 : Int) (a0_1 : Int) (a0_2 : Int) (a0_3 : Int) (a0_4 : Int) (a1_0 : Int) (a1_1 : Int) (l1_2 : List Int) (l1_3 : List (S37)) (l1_4 : List Int) (a1_5 : Int) (a1_6 : Int) (l1_7 : List Int) (l2 : List Int), (Lit.int .i64 a0_0).wf = true → (Lit.int .i64 a0_1).wf = true → (Lit.int .i64 a0_2).wf = true → (Lit.int .i64 a0_3).wf = true → (Lit.int .i64 a0_4).wf = true → (Lit.int .i64 a1_0).wf = true → (Lit.int .i64 a1_1).wf = true → (l1_2.length * 4 ≤ 140737488351232 ∧ l1_2.length ≤ maxLen ∧ ∀ x0 ∈ l1_2, (Lit.int .i32 x0).wf = true) → (l1_3.length * 288 ≤ 140737488351232 ∧ l1_3.length ≤ maxLen ∧ ∀ x0 ∈ l1_3, ((x0.f0.length * 4 ≤ 140737488351232 ∧ x0.f0.length ≤ maxLen ∧ ∀ x1 ∈ x0.f0, (Lit.int .i32 x1).wf = true) ∧ ((Lit.int .i64 x0.f1.f0).wf = true ∧ (Lit.int .i64 x0.f1.f1).wf = true ∧ (x0.f1.f2.length * 4 ≤ 140737488351232 ∧ x0.f1.f2.length ≤ maxLen ∧ ∀ x1 ∈ x0.f1.f2, (Lit.int .i32 x1).wf = true)) ∧ ((Lit.int .i64 x0.f2.f0).wf = true ∧ (Lit.int .i64 x0.f2.f1).wf = true ∧ (x0.f2.f2.length * 4 ≤ 140737488351232 ∧ x0.f2.f2.length ≤ maxLen ∧ ∀ x1 ∈ x0.f2.f2, (Lit.int .i32 x1).wf = true)) ∧ ((Lit.int .i64 x0.f3.f0).wf = true ∧ (Lit.int .i64 x0.f3.f1).wf = true ∧ (x0.f3.f2.length * 4 ≤ 140737488351232 ∧ x0.f3.f2.length ≤ maxLen ∧ ∀ x1 ∈ x0.f3.f2, (Lit.int .i32 x1).wf = true)) ∧ ((Lit.int .i64 x0.f4.f0).wf = true ∧ (Lit.int .i64 x0.f4.f1).wf = true ∧ (x0.f4.f2.length * 4 ≤ 140737488351232 ∧ x0.f4.f2.length ≤ maxLen ∧ ∀ x1 ∈ x0.f4.f2, (Lit.int .i32 x1).wf = true)) ∧ (x0.f5.length * 4 ≤ 140737488351232 ∧ x0.f5.length ≤ maxLen ∧ ∀ x1 ∈ x0.f5, (Lit.int .i32 x1).wf = true) ∧ ((Lit.int .i64 x0.f6.f0).wf = true ∧ (Lit.int .i64 x0.f6.f1).wf = true ∧ (x0.f6.f2.length * 4 ≤ 140737488351232 ∧ x0.f6.f2.length ≤ maxLen ∧ ∀ x1 ∈ x0.f6.f2, (Lit.int .i32 x1).wf = true)) ∧ ((Lit.int .i64 x0.f7.f0).wf = true ∧ (Lit.int .i64 x0.f7.f1).wf = true ∧ (x0.f7.f2.length * 4 ≤ 140737488351232 ∧ x0.f7.f2.length ≤ maxLen ∧ ∀ x1 ∈ x0.f7.f2, (Lit.int .i32 x1).wf = true)))) → (l1_4.length * 4 ≤ 140737488351232 ∧ l1_4.length ≤ maxLen ∧ ∀ x0 ∈ l1_4, (Lit.int .i32 x0).wf = true) → (Lit.int .i64 a1_5).wf = true → (Lit.int .i64 a1_6).wf = true → (l1_7.length * 4 ≤ 140737488351232 ∧ l1_7.length ≤ maxLen ∧ ∀ x0 ∈ l1_7, (Lit.int .i32 x0).wf = true) → (l2.length * 8 ≤ 140737488351232 ∧ l2.length ≤ maxLen ∧ ∀ x0 ∈ l2, (Lit.int .i64 x0).wf = true) → ∃ k : Nat, tillerlaw06_ModelChecks.f a0_0 a0_1 a0_2 a0_3 a0_4 a1_0 a1_1 l1_2 l1_3 l1_4 a1_5 a1_6 l1_7 l2 = some true := by
  intro a0 a1 a2 a3 a4 r c l2 l3 l4 r' c' l7 lt _ _ _ _ _ _ _ h2 h3 h4 _ _ h7 h9
  refine ⟨0, ?_⟩
  unfold tillerlaw06_ModelChecks.f
  rw [if_pos]
  refine ⟨by omega, by omega, by omega, by omega, ?_, by omega⟩
  intro b hb
  obtain ⟨k0, ⟨_, _, k1⟩, ⟨_, _, k2⟩, ⟨_, _, k3⟩, ⟨_, _, k4⟩, k5, ⟨_, _, k6⟩, ⟨_, _, k7⟩⟩ := h3.2.2 b hb
  unfold lensB
  omega
end Go.Proofs.Ytdlhodbokkaghaa.Pure
