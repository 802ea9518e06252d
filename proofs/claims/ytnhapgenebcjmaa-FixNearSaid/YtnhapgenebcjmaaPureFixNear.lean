/- FixNear: the pure statement. -/
import Derived.Test.YtnhapgenebcjmaaGQx7
import Derived.Test.YtnhapgenebcjmaaUFix1
set_option linter.unusedVariables false
namespace Go.Proofs.Ytnhapgenebcjmaa.Pure
open Go.RowKit Go.Proofs.YtnhapgenebcjmaaW.PrintWords Go.Proofs.YtnhapgenebcjmaaW.PrintLast Go.Proofs.YtnhapgenebcjmaaW.PrintMore Go.Proofs.Ytnhapgenebcjmaa.GQ Go.Proofs.Ytnhapgenebcjmaa.U Go.Proofs.Ytnhapgenebcjmaa.GText
theorem near_j2t {k : Nat} (hk : 100 ≤ k) (a b q : Int) : tillerlaw01_FixNear.j2 k a b q true = some true := by
  obtain ⟨k, rfl⟩ := succ_of_lt (show 0 < k by omega)
  simp only [tillerlaw01_FixNear.j2, if_true]
  rw [awake1 (by omega)]; rfl
theorem near_j2 {k : Nat} (hk : 100 ≤ k) {a b q : Int} (a1 : -2147483648 ≤ a) (a2 : a ≤ 2147483647) (b1 : -2147483648 ≤ b) (b2 : b ≤ 2147483647) (q1 : -2147483647 ≤ q) (q2 : q ≤ 2147483647)
    (h : 2 * (q * b - a * 65536) ≤ (if b < 0 then -b else b) ∧ -(2 * (q * b - a * 65536)) ≤ (if b < 0 then -b else b)) : tillerlaw01_FixNear.j2 k a b q false = some true := by
  obtain ⟨k, rfl⟩ := succ_of_lt (show 0 < k by omega)
  have hq := mul32 (a := q) (b := b) (by omega) (by omega) b1 (by omega)
  simp only [tillerlaw01_FixNear.j2, Bool.false_eq_true, if_false]
  rw [w64 (x := q) (by omega) (by omega), w64 (x := b) (by omega) (by omega), w64 (x := a) (by omega) (by omega), w64 (x := q * b) (by omega) (by omega), w64 (x := a * 65536) (by omega) (by omega), w64 (x := q * b - a * 65536) (by omega) (by omega)]
  generalize q * b - a * 65536 = m at h
  rw [w64 (x := -b) (by omega) (by omega)]
  have hm : -2147483648 ≤ m ∧ m ≤ 2147483648 := by split at h <;> omega
  rw [w64 (x := -m) (by omega) (by omega), w64 (x := 2 * m) (by omega) (by omega), w64 (x := 2 * -m) (by omega) (by omega), awake1 (by omega)]
  simp only [Option.bind_some, if_true]
  by_cases hb : b < 0
  · rw [if_pos hb] at h
    rw [decide_eq_true (show 2 * -m ≤ -b by omega), decide_eq_true (show 2 * m ≤ -b by omega)]
    by_cases hm0 : m < 0
    · rw [if_pos hm0, if_pos hb]
    · rw [if_neg hm0, if_pos hb]
  · rw [if_neg hb] at h
    rw [decide_eq_true (show 2 * -m ≤ b by omega), decide_eq_true (show 2 * m ≤ b by omega)]
    by_cases hm0 : m < 0
    · rw [if_pos hm0, if_neg hb]
    · rw [if_neg hm0, if_neg hb]
theorem near_j1 {k : Nat} (hk : 200 ≤ k) {a b : Int} (a1 : -2147483648 ≤ a) (a2 : a ≤ 2147483647) (b1 : -2147483648 ≤ b) (b2 : b ≤ 2147483647) : tillerlaw01_FixNear.j1 k a b = some true := by
  obtain ⟨k, rfl⟩ := succ_of_lt (show 0 < k by omega)
  simp only [tillerlaw01_FixNear.j1]
  by_cases h0 : b = 0
  · subst h0
    rw [Div_zero, Option.bind_some, if_neg (by decide), near_j2t (by omega)]
  rw [Div_eq (by omega) a1 a2 b1 b2 h0, Option.bind_some, if_pos rfl]
  by_cases h1 : divv a b = 2147483647
  · rw [if_pos h1, near_j2t (by omega)]
  rw [if_neg h1]
  by_cases h2 : divv a b = -2147483647
  · rw [if_pos h2, near_j2t (by omega)]
  rw [if_neg h2]
  by_cases h3 : divv a b = 0
  · rw [show (divv a b == 0) = true from beq_iff_eq.2 h3, near_j2t (by omega)]
  rw [show (divv a b == 0) = false from beq_eq_false_iff_ne.2 h3]
  have hq := divv_bound a b
  refine near_j2 (by omega) a1 a2 b1 b2 hq.1 hq.2 ?_
  unfold divv at h1 h2 ⊢
  by_cases hb : b < 0
  · rw [if_pos hb, if_pos hb] at h1 h2
    rw [if_pos hb, if_pos hb]
    have hn := rnd_near (x := -(a * 65536)) (d := -b) (by omega)
    generalize rnd (-(a * 65536)) (-b) = Q at *
    have hs : sat Q = Q := by
      unfold sat at h1 h2 ⊢
      (repeat' split) <;> (repeat' split at h1) <;> (repeat' split at h2) <;> omega
    rw [hs, Int.mul_comm Q b]
    rw [show -b * Q = -(b * Q) from Int.neg_mul _ _] at hn
    generalize b * Q = M at *
    omega
  · rw [if_neg hb, if_neg hb] at h1 h2
    rw [if_neg hb, if_neg hb]
    have hn := rnd_near (x := a * 65536) (d := b) (by omega)
    generalize rnd (a * 65536) b = Q at *
    have hs : sat Q = Q := by
      unfold sat at h1 h2 ⊢
      (repeat' split) <;> (repeat' split at h1) <;> (repeat' split at h2) <;> omega
    rw [hs, Int.mul_comm Q b]
    generalize b * Q = M at *
    omega
theorem near_j0f {k : Nat} (hk : 300 ≤ k) (x d : Int) {a b : Int} (a1 : -2147483648 ≤ a) (a2 : a ≤ 2147483647) (b1 : -2147483648 ≤ b) (b2 : b ≤ 2147483647) : tillerlaw01_FixNear.j0 k x d a b false = some true := by
  obtain ⟨k, rfl⟩ := succ_of_lt (show 0 < k by omega)
  simp only [tillerlaw01_FixNear.j0, Bool.false_eq_true, if_false]
  exact near_j1 (by omega) a1 a2 b1 b2
/-- What is rounded: halves go away from nought. -/
theorem rnd_half {x d : Int} (hd : 0 < d) : (0 < x → 2 * x - d < 2 * (d * rnd x d)) ∧ (0 < x → 2 * (d * rnd x d) ≤ 2 * x + d) ∧ (x < 0 → 2 * (d * rnd x d) < 2 * x + d) := by
  unfold rnd
  by_cases hx : x < 0
  · rw [if_pos hx]
    have h := rndp_near (x := -x) hd
    rw [show d * -rndp (-x) d = -(d * rndp (-x) d) from Int.mul_neg _ _]
    omega
  · rw [if_neg hx]
    have h := rndp_near (x := x) hd
    omega
theorem near_j0 {k : Nat} (hk : 300 ≤ k) {x d : Int} (x1 : -2305843009213693952 < x) (x2 : x < 2305843009213693952) (d1 : 1 ≤ d) (d2 : d ≤ 2147483648) {a b : Int} (a1 : -2147483648 ≤ a) (a2 : a ≤ 2147483647) (b1 : -2147483648 ≤ b) (b2 : b ≤ 2147483647) : tillerlaw01_FixNear.j0 k x d a b true = some true := by
  obtain ⟨k, rfl⟩ := succ_of_lt (show 0 < k by omega)
  have hn := rnd_near (x := x) (d := d) (by omega)
  have hh := rnd_half (x := x) (d := d) (by omega)
  simp only [tillerlaw01_FixNear.j0, if_true]
  rw [Round_eq (by omega) (by omega) (by omega) d1 (by omega)]
  simp only [Option.bind_some]
  rw [Int.mul_comm (rnd x d) d]
  generalize d * rnd x d = M at *
  rw [w64 (x := M) (by omega) (by omega), w64 (x := x - M) (by omega) (by omega), w64 (x := d - (x - M)) (by omega) (by omega), w64 (x := -(x - M)) (by omega) (by omega), w64 (x := d + (x - M)) (by omega) (by omega), if_neg (by omega), if_neg (by omega), near_j1 (by omega) a1 a2 b1 b2]
  by_cases h1 : x - M = d - (x - M)
  · rw [if_pos h1, if_neg (by omega), if_neg (by omega)]
  · rw [if_neg h1]
    by_cases h2 : -(x - M) = d + (x - M)
    · rw [if_pos h2, if_neg (by omega)]
    · rw [if_neg h2]
theorem FixNear : ∀ (a0 : Int) (a1 : Int) (a2 : Int) (a3 : Int), (Lit.int .i64 a0).wf = true → (Lit.int .i64 a1).wf = true → (Lit.int .i32 a2).wf = true → (Lit.int .i32 a3).wf = true → ∃ k, tillerlaw01_FixNear.f k a0 a1 a2 a3 = some true := by
  intro x d a b hx hd ha hb
  have ha := wf_i32 ha
  have hb := wf_i32 hb
  refine ⟨500, ?_⟩
  unfold tillerlaw01_FixNear.f
  by_cases h1 : d ≥ 1
  · rw [if_pos h1]
    by_cases h2 : d ≤ 2147483648
    · rw [if_pos h2]
      by_cases h3 : x > -2305843009213693952
      · rw [if_pos h3]
        by_cases h4 : x < 2305843009213693952
        · rw [decide_eq_true h4, near_j0 (by omega) h3 h4 h1 h2 ha.1 ha.2 hb.1 hb.2]
        · rw [decide_eq_false h4, near_j0f (by omega) x d ha.1 ha.2 hb.1 hb.2]
      · rw [if_neg h3, near_j0f (by omega) x d ha.1 ha.2 hb.1 hb.2]
    · rw [if_neg h2, near_j0f (by omega) x d ha.1 ha.2 hb.1 hb.2]
  · rw [if_neg h1, near_j0f (by omega) x d ha.1 ha.2 hb.1 hb.2]
end Go.Proofs.Ytnhapgenebcjmaa.Pure
