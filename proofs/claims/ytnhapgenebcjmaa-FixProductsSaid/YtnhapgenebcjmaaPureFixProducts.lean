/- FixProducts: the pure statement. -/
import Derived.Test.YtnhapgenebcjmaaGQx5
import Derived.Test.YtnhapgenebcjmaaUFix1
set_option linter.unusedVariables false
namespace Go.Proofs.Ytnhapgenebcjmaa.Pure
open Go.RowKit Go.Proofs.YtnhapgenebcjmaaW.PrintWords Go.Proofs.YtnhapgenebcjmaaW.PrintLast Go.Proofs.YtnhapgenebcjmaaW.PrintMore Go.Proofs.Ytnhapgenebcjmaa.GQ Go.Proofs.Ytnhapgenebcjmaa.U Go.Proofs.Ytnhapgenebcjmaa.GText
theorem prod_j1 {k : Nat} (hk : 10 ≤ k) (x d : Int) : tillerlaw01_FixProducts.j1 k x d true = some true := by
  obtain ⟨k, rfl⟩ := succ_of_lt (show 0 < k by omega)
  simp only [tillerlaw01_FixProducts.j1, if_true]
theorem prod_j0 {k : Nat} (hk : 20 ≤ k) {x d : Int} (x1 : -9223372036854775808 ≤ x) (x2 : x ≤ 9223372036854775807) : tillerlaw01_FixProducts.j0 k x d false = some true := by
  obtain ⟨k, rfl⟩ := succ_of_lt (show 0 < k by omega)
  simp only [tillerlaw01_FixProducts.j0, Bool.false_eq_true, if_false]
  by_cases h1 : d < 1
  · rw [if_pos h1, prod_j1 (by omega)]
  rw [if_neg h1]
  by_cases h2 : d > 4611686018427387904
  · rw [if_pos h2, prod_j1 (by omega)]
  rw [if_neg h2]
  by_cases h3 : x = -9223372036854775808
  · rw [show (x == -9223372036854775808) = true from beq_iff_eq.2 h3, prod_j1 (by omega)]
  · rw [show (x == -9223372036854775808) = false from beq_eq_false_iff_ne.2 h3]
    obtain ⟨k, rfl⟩ := succ_of_lt (show 0 < k by omega)
    simp only [tillerlaw01_FixProducts.j1, Bool.false_eq_true, if_false]
    rw [Round_eq (by omega) x1 x2 (by omega) (by omega), Option.bind_some, rRound_eq (by omega) (by omega) x2 (by omega) (by omega), Option.bind_some, beq_self_eq_true]
theorem FixProducts : ∀ (a0 : Int) (a1 : Int) (a2 : Int) (a3 : Int), (Lit.int .i32 a0).wf = true → (Lit.int .i32 a1).wf = true → (Lit.int .i64 a2).wf = true → (Lit.int .i64 a3).wf = true → ∃ k, tillerlaw01_FixProducts.f k a0 a1 a2 a3 = some true := by
  intro a b x d ha hb hx hd
  have ha := wf_i32 ha
  have hb := wf_i32 hb
  have hx := wf_i64 hx
  refine ⟨100, ?_⟩
  unfold tillerlaw01_FixProducts.f
  by_cases h0 : b = 0
  · subst h0
    rw [Div_zero, Option.bind_some, awake1 (by omega), Option.bind_some, if_pos rfl, Mul_eq (by omega) ha.1 ha.2 (by omega) (by omega), Option.bind_some, rMul_eq (by omega) ha.1 ha.2 (by omega) (by omega), Option.bind_some, if_pos (show mulv a 0 = sat (rnd (a * 0) 65536) from rfl), if_pos rfl, if_pos rfl, if_pos rfl]
    exact prod_j0 (by omega) hx.1 hx.2
  · rw [Div_eq (by omega) ha.1 ha.2 hb.1 hb.2 h0, Option.bind_some, awake1 (by omega), Option.bind_some, if_pos rfl, Mul_eq (by omega) ha.1 ha.2 hb.1 hb.2, Option.bind_some, rMul_eq (by omega) ha.1 ha.2 hb.1 hb.2, Option.bind_some, if_pos (show mulv a b = sat (rnd (a * b) 65536) from rfl), if_neg h0, if_pos rfl, rDiv_eq (by omega) ha.1 ha.2 hb.1 hb.2 h0, Option.bind_some, bne_self_eq_false]
    exact prod_j0 (by omega) hx.1 hx.2
end Go.Proofs.Ytnhapgenebcjmaa.Pure
