/- MatTurned: the pure statement. -/
import Derived.Test.YtefimleoffaggaaGQx12
import Derived.Test.YtefimleoffaggaaUMat
import Derived.Test.YtefimleoffaggaaUSame3
set_option linter.unusedVariables false
namespace Go.Proofs.Ytefimleoffaggaa.Pure
open Go.RowKit Go.Proofs.YtefimleoffaggaaW.PrintWords Go.Proofs.YtefimleoffaggaaW.PrintLast Go.Proofs.YtefimleoffaggaaW.PrintMore Go.Proofs.Ytefimleoffaggaa.GQ Go.Proofs.Ytefimleoffaggaa.U
theorem MatTurned : ∀ (a0_0 : Int) (a0_1 : Int) (l0_2 : List Int) (a1_0 : Int) (a1_1 : Int) (l1_2 : List Int), (Lit.int .i64 a0_0).wf = true → (Lit.int .i64 a0_1).wf = true → (l0_2.length * 4 ≤ 140737488351232 ∧ l0_2.length ≤ maxLen ∧ ∀ x0 ∈ l0_2, (Lit.int .i32 x0).wf = true) → (Lit.int .i64 a1_0).wf = true → (Lit.int .i64 a1_1).wf = true → (l1_2.length * 4 ≤ 140737488351232 ∧ l1_2.length ≤ maxLen ∧ ∀ x0 ∈ l1_2, (Lit.int .i32 x0).wf = true) → ∃ k, tillerlaw04_MatTurned.f k a0_0 a0_1 l0_2 a1_0 a1_1 l1_2 = some true := by
  intro a b l0 a' b' l1 _ _ h0 _ _ h1
  have j0 := (I32.wf h0.2.2).take 2000
  have j1 := (I32.wf h1.2.2).take 2000
  refine ⟨100000, ?_⟩
  unfold tillerlaw04_MatTurned.f
  rw [Few4_eq (by omega), Option.bind_some, Few4_eq (by omega), Option.bind_some]
  dsimp only
  generalize l0.take 2000 = d at *
  generalize l1.take 2000 = d' at *
  rw [Times_eq j0 j1 (by omega), Option.bind_some]
  by_cases h : tchk a b d a' b' d' = 0
  · simp only [if_pos h]
    rw [if_pos trivial]
    have hh := h
    unfold tchk at hh
    by_cases c1 : chkv a b d = 0
    · rw [if_pos c1] at hh
      by_cases c2 : chkv a' b' d' = 0
      · rw [if_pos c2] at hh
        by_cases he : b = a'
        · subst he
          obtain ⟨R, C, rfl, rfl, r1, r2, r3, r4, hl⟩ := chkv_ok c1
          obtain ⟨R', C', e1, rfl, s1, s2, s3, s4, hl'⟩ := chkv_ok c2
          obtain rfl : C = R' := by omega
          rw [Turn_eq (by omega), Option.bind_some, Turn_eq (by omega), Option.bind_some]
          simp only [if_pos c1, if_pos c2, Int.toNat_natCast]
          have t1 : chkv (C' : Int) (C : Int) (turnv d' C C') = 0 := chkv_mk s3 s4 s1 s2 (turnv_len ..)
          have t2 : chkv (C : Int) (R : Int) (turnv d R C) = 0 := chkv_mk r3 r4 r1 r2 (turnv_len ..)
          have t3 : chkv (R : Int) (C' : Int) (timesv d R C d' C C') = 0 := chkv_mk r1 r2 s3 s4 (timesv_len ..)
          have t4 : tchk (C' : Int) (C : Int) (turnv d' C C') (C : Int) (R : Int) (turnv d R C) = 0 := by unfold tchk; rw [if_pos t1, if_pos t2, if_pos rfl]
          rw [Times_eq (turnv_i32 j1 C C') (turnv_i32 j0 R C) (by omega), Option.bind_some, Turn_eq (by omega), Option.bind_some, awake4 (by omega), Option.bind_some]
          simp only [if_pos t3, if_pos t4, Int.toNat_natCast, if_true]
          rw [turn_times rfl, rSame4 (by rw [turnv_len]; exact Nat.le_trans (mul128 s4 r2) (by omega)) (by rw [turnv_len]; have := mul128 s4 r2; omega)]
          rfl
        · rw [if_neg he] at hh; cases hh
      · rw [if_neg c2] at hh; exact absurd hh c2
    · rw [if_neg c1] at hh; exact absurd hh c1
  · simp only [if_neg h]
    rw [awake4 (by omega), Option.bind_some, if_pos rfl, rSame4 (by simp) (by simp)]
    rfl
end Go.Proofs.Ytefimleoffaggaa.Pure
