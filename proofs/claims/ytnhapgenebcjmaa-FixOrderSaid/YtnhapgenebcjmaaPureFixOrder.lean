/- FixOrder: the pure statement. -/
import Derived.Test.YtnhapgenebcjmaaGQx8
import Derived.Test.YtnhapgenebcjmaaUFix1
set_option linter.unusedVariables false
namespace Go.Proofs.Ytnhapgenebcjmaa.Pure
open Go.RowKit Go.Proofs.YtnhapgenebcjmaaW.PrintWords Go.Proofs.YtnhapgenebcjmaaW.PrintLast Go.Proofs.YtnhapgenebcjmaaW.PrintMore Go.Proofs.Ytnhapgenebcjmaa.GQ Go.Proofs.Ytnhapgenebcjmaa.U Go.Proofs.Ytnhapgenebcjmaa.GText
theorem order_j2 {k : Nat} (hk : 100 ≤ k) (n : Int) : tillerlaw01_FixOrder.j2 k n false = some true := by
  obtain ⟨k, rfl⟩ := succ_of_lt (show 0 < k by omega)
  simp only [tillerlaw01_FixOrder.j2, Bool.false_eq_true, if_false]
  rw [awake1 (by omega), Option.bind_some, if_pos rfl]
  by_cases h1 : n < -32767
  · rw [if_pos h1]
  rw [if_neg h1]
  by_cases h2 : n > 32767
  · rw [if_pos h2]
  rw [if_neg h2, Of_eq, Option.bind_some, if_neg (by omega), if_neg (by omega), sat_id (by omega) (by omega), Floor_eq (by omega) (by omega), Option.bind_some, show n * 65536 / 65536 = n by omega, beq_self_eq_true]
theorem order_j1 {k : Nat} (hk : 200 ≤ k) (a n p e q : Int) (hp : -2147483647 ≤ p ∧ p ≤ 2147483647) (h : a > -2147483648 → e = 0 → q = -p) : tillerlaw01_FixOrder.j1 k a n p e q false = some true := by
  obtain ⟨k, rfl⟩ := succ_of_lt (show 0 < k by omega)
  simp only [tillerlaw01_FixOrder.j1, Bool.false_eq_true, if_false]
  by_cases h1 : a > -2147483648
  · rw [if_pos h1]
    by_cases h2 : e = 0
    · rw [if_pos h2, Sub_eq (by omega) (by omega) (by omega) (by omega), Option.bind_some, Int.zero_sub, sat_id (by omega) (by omega), h h1 h2, bne_self_eq_false, order_j2 (by omega)]
    · rw [if_neg h2, order_j2 (by omega)]
  · rw [if_neg h1, order_j2 (by omega)]
theorem FixOrder : ∀ (a0 : Int) (a1 : Int) (a2 : Int), (Lit.int .i32 a0).wf = true → (Lit.int .i32 a1).wf = true → (Lit.int .i64 a2).wf = true → ∃ k, tillerlaw01_FixOrder.f k a0 a1 a2 = some true := by
  intro a b n ha hb hn
  have ha := wf_i32 ha
  have hb := wf_i32 hb
  have hs := sat_bound a
  have hx := sat_bound (-a)
  have hm := mulv_bound (sat a) b
  obtain ⟨k, hk⟩ : ∃ k, k = 499 := ⟨_, rfl⟩
  refine ⟨k + 1, ?_⟩
  unfold tillerlaw01_FixOrder.f
  simp only [tillerlaw01_FixOrder.j0]
  have e1 : decide ((a / 65536 + 1) * 65536 ≤ a) = false := decide_eq_false (by omega)
  rw [Floor_eq ha.1 ha.2, Option.bind_some, w64 (x := a / 65536 * 65536) (by omega) (by omega), w64 (x := a) (by omega) (by omega), if_neg (by omega), w64 (x := a / 65536 + 1) (by omega) (by omega), w64 (x := (a / 65536 + 1) * 65536) (by omega) (by omega), e1, if_neg (by decide), Sub_eq (by omega) (by omega) ha.1 ha.2, Option.bind_some, Int.zero_sub]
  have e2 : mulv (sat (-a)) b = sat (-mulv (sat a) b) := by rw [sat_neg, mulv_neg, sat_id (x := -mulv (sat a) b) (by omega) (by omega)]
  by_cases h0 : b = 0
  · subst h0
    rw [Div_zero, Option.bind_some, Div_zero, Option.bind_some, if_pos rfl, Mul_eq (by omega) (by omega) (by omega) hb.1 hb.2, Option.bind_some, Sat_eq, Option.bind_some, Mul_eq (by omega) (by omega) (by omega) hb.1 hb.2, Option.bind_some, Sub_eq (by omega) (by omega) (by omega) (by omega), Option.bind_some, Int.zero_sub, e2, bne_self_eq_false]
    exact order_j1 (by omega) _ _ _ _ _ (by decide) (fun _ h => absurd h (by decide))
  · rw [Div_eq (by omega) ha.1 ha.2 hb.1 hb.2 h0, Option.bind_some, Div_eq (by omega) (by omega) (by omega) hb.1 hb.2 h0, Option.bind_some, if_pos rfl, Mul_eq (by omega) (by omega) (by omega) hb.1 hb.2, Option.bind_some, Sat_eq, Option.bind_some, Mul_eq (by omega) (by omega) (by omega) hb.1 hb.2, Option.bind_some, Sub_eq (by omega) (by omega) (by omega) (by omega), Option.bind_some, Int.zero_sub, e2, bne_self_eq_false]
    refine order_j1 (by omega) _ _ _ _ _ (divv_bound a b) (fun h _ => ?_)
    rw [sat_id (by omega) (by omega), divv_neg _ _ h0]
end Go.Proofs.Ytnhapgenebcjmaa.Pure
