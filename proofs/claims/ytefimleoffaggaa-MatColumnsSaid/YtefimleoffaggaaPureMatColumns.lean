/- MatColumns: the pure statement. -/
import Derived.Test.YtefimleoffaggaaGQx13
import Derived.Test.YtefimleoffaggaaUMat
import Derived.Test.YtefimleoffaggaaUSame3
set_option linter.unusedVariables false
namespace Go.Proofs.Ytefimleoffaggaa.Pure
open Go.RowKit Go.Proofs.YtefimleoffaggaaW.PrintWords Go.Proofs.YtefimleoffaggaaW.PrintLast Go.Proofs.YtefimleoffaggaaW.PrintMore Go.Proofs.Ytefimleoffaggaa.GQ Go.Proofs.Ytefimleoffaggaa.U
theorem cols_true {k : Nat} {a b c a' b' c' p q r : Int} {d e f : List Int} (j : Int) (hk : 100 ≤ k) : tillerlaw04_MatColumns.j0 k j true a b d a' b' e p q f = some true := by
  obtain ⟨k, rfl⟩ := succ_of_lt (show 0 < k by omega)
  simp only [tillerlaw04_MatColumns.j0, if_true]
  rw [awake4 (by omega)]; rfl
theorem MatColumns : ∀ (a0_0 : Int) (a0_1 : Int) (l0_2 : List Int) (a1_0 : Int) (a1_1 : Int) (l1_2 : List Int) (a2 : Int), (Lit.int .i64 a0_0).wf = true → (Lit.int .i64 a0_1).wf = true → (l0_2.length * 4 ≤ 140737488351232 ∧ l0_2.length ≤ maxLen ∧ ∀ x0 ∈ l0_2, (Lit.int .i32 x0).wf = true) → (Lit.int .i64 a1_0).wf = true → (Lit.int .i64 a1_1).wf = true → (l1_2.length * 4 ≤ 140737488351232 ∧ l1_2.length ≤ maxLen ∧ ∀ x0 ∈ l1_2, (Lit.int .i32 x0).wf = true) → (Lit.int .i64 a2).wf = true → ∃ k, tillerlaw04_MatColumns.f k a0_0 a0_1 l0_2 a1_0 a1_1 l1_2 a2 = some true := by
  intro a b l0 a' b' l1 j _ _ h0 _ _ h1 hj
  have hj := wf_i64 hj
  have j0 := (I32.wf h0.2.2).take 2000
  have j1 := (I32.wf h1.2.2).take 2000
  refine ⟨100000, ?_⟩
  unfold tillerlaw04_MatColumns.f
  rw [Few4_eq (by omega), Option.bind_some, Few4_eq (by omega), Option.bind_some]
  dsimp only
  generalize l0.take 2000 = d at *
  generalize l1.take 2000 = d' at *
  rw [Times_eq j0 j1 (by omega), Option.bind_some]
  by_cases h : tchk a b d a' b' d' = 0
  · simp only [if_pos h]
    rw [if_pos trivial]
    by_cases n1 : j < 0
    · rw [if_pos n1]; exact cols_true (c := 0) (c' := 0) (r := 0) j (by omega)
    · rw [if_neg n1]
      by_cases n2 : j ≥ b'
      · rw [decide_eq_true n2]; exact cols_true (c := 0) (c' := 0) (r := 0) j (by omega)
      · rw [decide_eq_false n2]
        have hh := h
        unfold tchk at hh
        by_cases c1 : chkv a b d = 0
        · rw [if_pos c1] at hh
          by_cases c2 : chkv a' b' d' = 0
          · rw [if_pos c2] at hh
            by_cases he : b = a'
            · subst he
              obtain ⟨R, C, rfl, rfl, r1, r2, r3, r4, hl⟩ := chkv_ok c1
              obtain ⟨R', C', e1, rfl, s1, s2, s3, s4, hl'⟩ := chkv_ok c2
              obtain rfl : C = R' := by omega
              obtain ⟨n, rfl⟩ := Int.eq_ofNat_of_zero_le (show 0 ≤ j by omega)
              obtain ⟨k, hk⟩ : ∃ k, 100000 = k + 1 := ⟨99999, rfl⟩
              rw [hk]
              simp only [tillerlaw04_MatColumns.j0, Bool.false_eq_true, if_false]
              obtain rfl : k = 99999 := by omega
              have t1 : chkv (C' : Int) (C : Int) (turnv d' C C') = 0 := chkv_mk s3 s4 s1 s2 (turnv_len ..)
              have t3 : chkv (R : Int) (C' : Int) (timesv d R C d' C C') = 0 := chkv_mk r1 r2 s3 s4 (timesv_len ..)
              have t5 : chkv (C' : Int) (R : Int) (turnv (timesv d R C d' C C') R C') = 0 := chkv_mk s3 s4 r1 r2 (turnv_len ..)
              have hn : n < C' := by omega
              have hno : ¬ ((n : Int) < 0 ∨ (n : Int) ≥ (C' : Int)) := by omega
              rw [Turn_eq (by omega), Option.bind_some]
              simp only [if_pos c2, Int.toNat_natCast]
              rw [Row_eq (by omega) hj.1 hj.2, Option.bind_some]
              simp only [if_pos t1, if_neg hno, Int.toNat_natCast]
              rw [rowv_turn hn, Apply_eq j0 (colv_i32 j1 C C' n) (by omega), Option.bind_some]
              simp only [if_pos c1, colv_len, if_true, Int.toNat_natCast]
              rw [Turn_eq (by omega), Option.bind_some]
              simp only [if_pos t3, Int.toNat_natCast]
              rw [Row_eq (by omega) hj.1 hj.2, Option.bind_some]
              simp only [if_pos t5, if_neg hno, Int.toNat_natCast]
              rw [awake4 (by omega), Option.bind_some]
              simp only [if_true]
              have e : rowv (turnv (timesv d R C d' C C') R C') R n = applyv d R C (colv d' C C' n) := by
                rw [rowv_turn hn]
                unfold colv applyv
                refine List.map_congr_left fun i hi => ?_
                rw [timesv_get (List.mem_range.1 hi) hn, dotv_comm]; rfl
              rw [e, rSame_eq _ _ (by rw [applyv_len]; omega) (by rw [applyv_len]; omega)]
              simp
            · rw [if_neg he] at hh; cases hh
          · rw [if_neg c2] at hh; exact absurd hh c2
        · rw [if_neg c1] at hh; exact absurd hh c1
  · simp only [if_neg h]
    exact cols_true (c := 0) (c' := 0) (r := 0) j (by omega)
end Go.Proofs.Ytefimleoffaggaa.Pure
