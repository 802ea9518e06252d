/- VecDots: the pure statement. -/
import Derived.Test.YtefimleoffaggaaGQx2
import Derived.Test.YtefimleoffaggaaGQx3
import Derived.Test.YtefimleoffaggaaURef3
set_option linter.unusedVariables false
namespace Go.Proofs.Ytefimleoffaggaa.U
open Go.RowKit Go.Proofs.YtefimleoffaggaaW.PrintWords Go.Proofs.YtefimleoffaggaaW.PrintMore Go.Proofs.Ytefimleoffaggaa.GQ
theorem awake3 {k : Nat} (hk : 5000 ≤ k) : tillerlaw03_awake.f k = some true := by
  have h : tillerlaw03_awake.f 10 = some true := by decide +kernel
  exact at_rounds (g := fun k => tillerlaw03_awake.f k) (tillerlaw03_awake.mono) (show 10 ≤ k by omega) h
end Go.Proofs.Ytefimleoffaggaa.U
namespace Go.Proofs.Ytefimleoffaggaa.Pure
open Go.RowKit Go.Proofs.YtefimleoffaggaaW.PrintWords Go.Proofs.YtefimleoffaggaaW.PrintLast Go.Proofs.YtefimleoffaggaaW.PrintMore Go.Proofs.Ytefimleoffaggaa.GQ Go.Proofs.Ytefimleoffaggaa.U
theorem VecDots : ∀ (l0 : List Int) (l1 : List Int) (a2 : Int) (a3 : Int), (l0.length * 4 ≤ 140737488351232 ∧ l0.length ≤ maxLen ∧ ∀ x0 ∈ l0, (Lit.int .i32 x0).wf = true) → (l1.length * 4 ≤ 140737488351232 ∧ l1.length ≤ maxLen ∧ ∀ x0 ∈ l1, (Lit.int .i32 x0).wf = true) → (Lit.int .i64 a2).wf = true → (Lit.int .i64 a3).wf = true → ∃ k, tillerlaw03_VecDots.f k l0 l1 a2 a3 = some true := by
  intro l0 l1 x y h0 h1 hx hy
  have i0 := I32.wf h0.2.2
  have i1 := I32.wf h1.2.2
  have hx := wf_i64 hx
  have hy := wf_i64 hy
  have j0 := i0.take 5000
  have j1 := i1.take 5000
  refine ⟨10000, ?_⟩
  unfold tillerlaw03_VecDots.f
  rw [Few_eq (by omega) (by omega), Option.bind_some, Few_eq (by omega) (by omega), Option.bind_some, show (5000 : Int).toNat = 5000 from rfl]
  generalize l0.take 5000 = a at *
  generalize l1.take 5000 = b at *
  rw [Dot_eq j0 j1 (by omega), Option.bind_some, rFit_eq _ _ (by omega), Option.bind_some]
  have fin : ∀ x y : Int, -9223372036854775807 ≤ x → x ≤ 9223372036854775807 → -9223372036854775807 ≤ y → y ≤ 9223372036854775807 → ∀ k, 5001 ≤ k →
      tillerlaw03_VecDots.j1 k a b x y (if fitv a b = 0 then (dotv a b, (0 : Int)) else (0, fitv a b)).1 (if fitv a b = 0 then (dotv a b, (0 : Int)) else (0, fitv a b)).2 (fitv a b) = some true := by
    intro x y x1 x2 y1 y2 k hk
    obtain ⟨k, rfl⟩ := succ_of_lt (show 0 < k by omega)
    simp only [tillerlaw03_VecDots.j1]
    rw [awake3 (by omega), Option.bind_some, if_pos rfl, if_pos (by split <;> simp [*]), Grow_eq (by omega) x1 x2 y1 y2, Option.bind_some, rGrow_eq (by omega) x1 x2 y1 y2, Option.bind_some, if_pos rfl]
    by_cases hf : fitv a b = 0
    · have hl := fitv_len hf
      rw [if_pos hf, if_pos hf, rDot_eq j0 j1 (by omega) (by omega) (by omega), Option.bind_some]
      simp
    · rw [if_neg hf, if_neg hf]; simp
  have mid : ∀ x : Int, -9223372036854775807 ≤ x → x ≤ 9223372036854775807 → tillerlaw03_VecDots.j0 10000 a b x y (if fitv a b = 0 then (dotv a b, (0 : Int)) else (0, fitv a b)).1 (if fitv a b = 0 then (dotv a b, (0 : Int)) else (0, fitv a b)).2 (fitv a b) = some true := by
    intro x x1 x2
    simp only [tillerlaw03_VecDots.j0]
    by_cases h : y = -9223372036854775808
    · rw [if_pos h]; exact fin x 0 x1 x2 (by omega) (by omega) _ (by omega)
    · rw [if_neg h]; exact fin x y x1 x2 (by omega) (by omega) _ (by omega)
  by_cases h : x = -9223372036854775808
  · rw [if_pos h]; exact mid 0 (by omega) (by omega)
  · rw [if_neg h]; exact mid x (by omega) (by omega)
end Go.Proofs.Ytefimleoffaggaa.Pure
