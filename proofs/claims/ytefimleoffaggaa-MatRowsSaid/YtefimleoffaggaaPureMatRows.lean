/- MatRows: the pure statement. -/
import Derived.Test.YtefimleoffaggaaGQx19
import Derived.Test.YtefimleoffaggaaUMat
import Derived.Test.YtefimleoffaggaaURef4
import Derived.Test.YtefimleoffaggaaUSame3
set_option linter.unusedVariables false
namespace Go.Proofs.Ytefimleoffaggaa.Pure
open Go.RowKit Go.Proofs.YtefimleoffaggaaW.PrintWords Go.Proofs.YtefimleoffaggaaW.PrintLast Go.Proofs.YtefimleoffaggaaW.PrintMore Go.Proofs.Ytefimleoffaggaa.GQ Go.Proofs.Ytefimleoffaggaa.U
theorem rows_loop {d : List Int} {R C : Nat} (r1 : 1 ≤ R) (r2 : R ≤ 128) (r3 : 1 ≤ C) (r4 : C ≤ 128) (hl : d.length = R * C) : ∀ (m j k : Nat), C - j = m → j ≤ C → m + 1000 ≤ k →
    tillerlaw04_MatRows.l0 k (j : Int) (R : Int) (C : Int) d (C : Int) (R : Int) (turnv d R C) = some true := by
  intro m
  induction m with
  | zero =>
    intro j k hd hj hk
    obtain ⟨k, rfl⟩ := succ_of_lt (show 0 < k by omega)
    simp only [tillerlaw04_MatRows.l0]
    rw [if_neg (by omega)]
  | succ m ih =>
    intro j k hd hj hk
    obtain ⟨k, rfl⟩ := succ_of_lt (show 0 < k by omega)
    have hjC : j < C := by omega
    have := ih (j + 1) k (by omega) (by omega) (by omega)
    rw [Int.natCast_add, Int.natCast_one] at this
    simp only [tillerlaw04_MatRows.l0]
    rw [if_pos (by omega), rRow_eq r4 r2 (turnv_len d R C) hjC _ (by omega), Option.bind_some, rCol_eq r2 r4 hl hjC (by omega), Option.bind_some, rowv_turn hjC, rSame_eq _ _ (by rw [colv_len]; omega) (by rw [colv_len]; omega), Option.bind_some, if_pos (by simp), w64 (x := (j : Int) + 1) (by omega) (by omega)]
    exact this
theorem MatRows : ∀ (a0_0 : Int) (a0_1 : Int) (l0_2 : List Int) (a1 : Int) (l2 : List Int), (Lit.int .i64 a0_0).wf = true → (Lit.int .i64 a0_1).wf = true → (l0_2.length * 4 ≤ 140737488351232 ∧ l0_2.length ≤ maxLen ∧ ∀ x0 ∈ l0_2, (Lit.int .i32 x0).wf = true) → (Lit.int .i64 a1).wf = true → (l2.length * 4 ≤ 140737488351232 ∧ l2.length ≤ maxLen ∧ ∀ x0 ∈ l2, (Lit.int .i32 x0).wf = true) → ∃ k, tillerlaw04_MatRows.f k a0_0 a0_1 l0_2 a1 l2 = some true := by
  intro a b l0 i l2 _ _ h0 hi h2
  have hi := wf_i64 hi
  have j0 := (I32.wf h0.2.2).take 2000
  have j1 := (I32.wf h2.2.2).take 200
  refine ⟨100000, ?_⟩
  unfold tillerlaw04_MatRows.f
  rw [Few4_eq (by omega), Option.bind_some, Few_eq (by omega) (by omega), Option.bind_some, show (200 : Int).toNat = 200 from rfl]
  have nv : (l2.take 200).length ≤ 200 := by rw [List.length_take]; omega
  dsimp only
  generalize l0.take 2000 = d at *
  generalize l2.take 200 = v at *
  rw [rCheck_eq (by omega), Option.bind_some, Row_eq (by omega) hi.1 hi.2, Option.bind_some, Turn_eq (by omega), Option.bind_some, Apply_eq j0 j1 (by omega), Option.bind_some, awake4 (by omega), Option.bind_some, if_pos rfl, Check_eq (by omega), Option.bind_some, if_pos rfl]
  obtain ⟨k, hk⟩ : ∃ k, 100000 = k + 1 := ⟨99999, rfl⟩
  by_cases c1 : chkv a b d = 0
  · obtain ⟨R, C, rfl, rfl, r1, r2, r3, r4, hl⟩ := chkv_ok c1
    simp only [if_pos c1, Int.toNat_natCast]
    rw [c1]
    have t1 : chkv (C : Int) (R : Int) (turnv d R C) = 0 := chkv_mk r3 r4 r1 r2 (turnv_len ..)
    have g3 : ∀ k, 2000 ≤ k → tillerlaw04_MatRows.j3 k (R : Int) (C : Int) d (C : Int) (R : Int) (turnv d R C) = some true := by
      intro k hk
      obtain ⟨k, rfl⟩ := succ_of_lt (show 0 < k by omega)
      obtain ⟨k, rfl⟩ := succ_of_lt (show 0 < k by omega)
      simp only [tillerlaw04_MatRows.j3]
      rw [rCheck_eq (by omega), Option.bind_some, if_pos t1, if_pos trivial]
      simp only [tillerlaw04_MatRows.j4]
      rw [if_neg (by simp)]
      have := rows_loop r1 r2 r3 r4 hl C 0 k (by omega) (by omega) (by omega)
      rw [Int.natCast_zero] at this
      exact this
    have g2 : ∀ k, 20000 ≤ k → tillerlaw04_MatRows.j2 k v (if (v.length : Int) = (C : Int) then (applyv d R C v, (0 : Int)) else ([], 6)).1 (if (v.length : Int) = (C : Int) then (applyv d R C v, (0 : Int)) else ([], 6)).2 (R : Int) (C : Int) d (C : Int) (R : Int) (turnv d R C) = some true := by
      intro k hk
      obtain ⟨k, rfl⟩ := succ_of_lt (show 0 < k by omega)
      simp only [tillerlaw04_MatRows.j2]
      by_cases hv : (v.length : Int) = (C : Int)
      · simp only [if_pos hv]
        rw [if_pos trivial, rApply_eq j0 j1 r2 r4 hl (by omega) (by omega), Option.bind_some, rSame_eq _ _ (by rw [applyv_len]; omega) (by rw [applyv_len]; omega), Option.bind_some, if_pos (by simp)]
        exact g3 _ (by omega)
      · simp only [if_neg hv]
        rw [if_pos trivial, if_pos (show (([] : List Int).length : Int) = 0 from rfl)]
        exact g3 _ (by omega)
    have g1 : ∀ c : Bool, (c = true ↔ i < 0 ∨ i ≥ (R : Int)) → ∀ k, 30000 ≤ k → tillerlaw04_MatRows.j1 k i v (if i < 0 ∨ i ≥ (R : Int) then ([], (8 : Int)) else (rowv d C i.toNat, 0)).1 (if i < 0 ∨ i ≥ (R : Int) then ([], (8 : Int)) else (rowv d C i.toNat, 0)).2 (if (v.length : Int) = (C : Int) then (applyv d R C v, (0 : Int)) else ([], 6)).1 (if (v.length : Int) = (C : Int) then (applyv d R C v, (0 : Int)) else ([], 6)).2 c (R : Int) (C : Int) d (C : Int) (R : Int) (turnv d R C) = some true := by
      intro c hc k hk
      obtain ⟨k, rfl⟩ := succ_of_lt (show 0 < k by omega)
      simp only [tillerlaw04_MatRows.j1]
      by_cases h : c = true
      · have hz := hc.1 h
        rw [if_pos h]
        simp only [if_pos hz]
        rw [if_pos trivial, if_pos (show (([] : List Int).length : Int) = 0 from rfl)]
        exact g2 _ (by omega)
      · have hz : ¬ (i < 0 ∨ i ≥ (R : Int)) := fun z => h (hc.2 z)
        rw [if_neg h]
        simp only [if_neg hz]
        obtain ⟨n, rfl⟩ := Int.eq_ofNat_of_zero_le (show 0 ≤ i by omega)
        rw [if_pos trivial, rRow_eq r2 r4 hl (show n < R by omega) _ (by omega), Option.bind_some, Int.toNat_natCast, rSame_eq _ _ (by rw [rowv_len]; omega) (by rw [rowv_len]; omega), Option.bind_some, if_pos (by simp)]
        exact g2 _ (by omega)
    rw [hk]
    simp only [tillerlaw04_MatRows.j0]
    rw [if_neg (by simp)]
    simp only [if_true]
    by_cases h : i < 0
    · rw [if_pos h]; exact g1 _ (by simp [h]) _ (by omega)
    · rw [if_neg h]; exact g1 _ (by simp; omega) _ (by omega)
  · simp only [if_neg c1]
    rw [hk]
    simp only [tillerlaw04_MatRows.j0]
    rw [if_neg (by simp), if_neg c1, if_pos trivial, if_pos trivial, if_pos (show (([] : List Int).length : Int) = 0 from rfl), if_pos (show (([] : List Int).length : Int) = 0 from rfl), rSame4 (by simp) (by simp; omega)]
    rfl
end Go.Proofs.Ytefimleoffaggaa.Pure
