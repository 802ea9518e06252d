/- FixRing: the pure statement. -/
import Derived.Test.YtnhapgenebcjmaaGQx6
import Derived.Test.YtnhapgenebcjmaaUFix1
set_option linter.unusedVariables false
namespace Go.Proofs.Ytnhapgenebcjmaa.Pure
open Go.RowKit Go.Proofs.YtnhapgenebcjmaaW.PrintWords Go.Proofs.YtnhapgenebcjmaaW.PrintLast Go.Proofs.YtnhapgenebcjmaaW.PrintMore Go.Proofs.Ytnhapgenebcjmaa.GQ Go.Proofs.Ytnhapgenebcjmaa.U Go.Proofs.Ytnhapgenebcjmaa.GText
theorem FixRing : ∀ (a0 : Int) (a1 : Int) (a2 : Int), (Lit.int .i32 a0).wf = true → (Lit.int .i32 a1).wf = true → (Lit.int .i32 a2).wf = true → ∃ k, tillerlaw01_FixRing.f k a0 a1 a2 = some true := by
  intro a b c ha hb hc
  have ha := wf_i32 ha
  have hb := wf_i32 hb
  have hc := wf_i32 hc
  have hs := sat_bound a
  have hn := sat_bound (-a)
  have hm := mulv_bound (sat a) b
  obtain ⟨k, hk⟩ : ∃ k, k = 199 := ⟨_, rfl⟩
  refine ⟨k + 1, ?_⟩
  unfold tillerlaw01_FixRing.f
  simp only [tillerlaw01_FixRing.j0]
  rw [Add_eq ha.1 ha.2 hb.1 hb.2, Option.bind_some, Add_eq hb.1 hb.2 ha.1 ha.2, Option.bind_some, if_pos (show sat (a + b) = sat (b + a) by rw [Int.add_comm]), Mul_eq (by omega) ha.1 ha.2 hb.1 hb.2, Option.bind_some, Mul_eq (by omega) hb.1 hb.2 ha.1 ha.2, Option.bind_some, if_pos (mulv_comm' a b),
    Add_eq ha.1 ha.2 (by omega) (by omega), Option.bind_some, w64 (x := a) (by omega) (by omega), Sat_eq, Option.bind_some, if_pos (show sat (a + 0) = sat a by rw [Int.add_zero]), Mul_eq (by omega) ha.1 ha.2 (by omega) (by omega), Option.bind_some, if_pos (mulv_one' a), Sub_eq ha.1 ha.2 ha.1 ha.2, Option.bind_some,
    show (sat (a - a) != 0) = false by rw [Int.sub_self]; rfl, if_neg (by decide), Sub_eq (by omega) (by omega) ha.1 ha.2, Option.bind_some, Int.zero_sub, Mul_eq (by omega) (by omega) (by omega) hb.1 hb.2, Option.bind_some, Option.bind_some, Mul_eq (by omega) (by omega) (by omega) hb.1 hb.2, Option.bind_some, Sub_eq (by omega) (by omega) (by omega) (by omega), Option.bind_some, Int.zero_sub,
    if_pos (show mulv (sat (-a)) b = sat (-mulv (sat a) b) by rw [sat_neg, mulv_neg, sat_id (x := -mulv (sat a) b) (by omega) (by omega)]), awake1 (by omega), Option.bind_some, if_pos rfl]
  by_cases h1 : a > b
  · rw [if_pos h1]
  rw [if_neg h1, Add_eq ha.1 ha.2 hc.1 hc.2, Option.bind_some, Add_eq hb.1 hb.2 hc.1 hc.2, Option.bind_some, if_pos (sat_mono (by omega))]
  by_cases h2 : c < 0
  · rw [if_pos h2]
  rw [if_neg h2, Mul_eq (by omega) ha.1 ha.2 hc.1 hc.2, Option.bind_some, Mul_eq (by omega) hb.1 hb.2 hc.1 hc.2, Option.bind_some]
  have hle : mulv a c ≤ mulv b c := sat_mono (rnd_mono (by omega) (Int.mul_le_mul_of_nonneg_right (by omega) (by omega)))
  rw [decide_eq_true hle]
end Go.Proofs.Ytnhapgenebcjmaa.Pure
