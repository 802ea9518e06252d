/- FixSums: the pure statement. -/
import Derived.Test.YtnhapgenebcjmaaGQx3
import Derived.Test.YtnhapgenebcjmaaUFix1
set_option linter.unusedVariables false
namespace Go.Proofs.Ytnhapgenebcjmaa.Pure
open Go.RowKit Go.Proofs.YtnhapgenebcjmaaW.PrintWords Go.Proofs.YtnhapgenebcjmaaW.PrintLast Go.Proofs.YtnhapgenebcjmaaW.PrintMore Go.Proofs.Ytnhapgenebcjmaa.GQ Go.Proofs.Ytnhapgenebcjmaa.U Go.Proofs.Ytnhapgenebcjmaa.GText
theorem sums_j3 {k : Nat} (hk : 100 ≤ k) {a b x n c : Int} (a1 : -2147483648 ≤ a) (a2 : a ≤ 2147483647) (b1 : -2147483648 ≤ b) (b2 : b ≤ 2147483647) (hc : c = if n < -65536 then -65536 else if n > 65536 then 65536 else n) :
    tillerlaw01_FixSums.j3 k a b x n (a / 65536) c = some true := by
  obtain ⟨k, rfl⟩ := succ_of_lt (show 0 < k by omega)
  have hcb : -65536 ≤ c ∧ c ≤ 65536 := by rw [hc]; (repeat' split) <;> omega
  simp only [tillerlaw01_FixSums.j3]
  rw [awake1 (by omega), Option.bind_some, if_pos rfl, Sat_eq, Option.bind_some, rSat_eq, Option.bind_some, if_pos rfl, Add_eq a1 a2 b1 b2, Option.bind_some, w64 (x := a) (by omega) (by omega), w64 (x := b) (by omega) (by omega), w64 (x := a + b) (by omega) (by omega), rSat_eq, Option.bind_some, if_pos rfl,
    Sub_eq a1 a2 b1 b2, Option.bind_some, w64 (x := a - b) (by omega) (by omega), rSat_eq, Option.bind_some, if_pos rfl, Floor_eq a1 a2, Option.bind_some, if_pos rfl, Of_eq, Option.bind_some, w64 (x := c * 65536) (by omega) (by omega), rSat_eq, Option.bind_some, hc, beq_self_eq_true]
theorem sums_j2 {k : Nat} (hk : 200 ≤ k) {a b x n : Int} (a1 : -2147483648 ≤ a) (a2 : a ≤ 2147483647) (b1 : -2147483648 ≤ b) (b2 : b ≤ 2147483647) :
    (if n > 65536 then tillerlaw01_FixSums.j2 k a b x n (a / 65536) 65536 else tillerlaw01_FixSums.j2 k a b x n (a / 65536) n) = some true := by
  obtain ⟨k, rfl⟩ := succ_of_lt (show 0 < k by omega)
  simp only [tillerlaw01_FixSums.j2]
  by_cases h1 : n > 65536
  · rw [if_pos h1, if_neg (by omega), sums_j3 (by omega) a1 a2 b1 b2 (by rw [if_neg (by omega), if_pos h1])]
  · rw [if_neg h1]
    by_cases h2 : n < -65536
    · rw [if_pos h2, sums_j3 (by omega) a1 a2 b1 b2 (by rw [if_pos h2])]
    · rw [if_neg h2, sums_j3 (by omega) a1 a2 b1 b2 (by rw [if_neg h2, if_neg h1])]
theorem sums_l1 {a b x n : Int} (a1 : -2147483648 ≤ a) (a2 : a ≤ 2147483647) (b1 : -2147483648 ≤ b) (b2 : b ≤ 2147483647) : ∀ (d k : Nat) (q : Int), -32768 ≤ q → a / 65536 - q = d → d + 300 ≤ k → tillerlaw01_FixSums.l1 k a b x n q = some true := by
  intro d
  induction d with
  | zero =>
    intro k q h0 hq hk
    obtain ⟨k, rfl⟩ := succ_of_lt (show 0 < k by omega)
    obtain rfl : q = a / 65536 := by omega
    simp only [tillerlaw01_FixSums.l1]
    rw [w64 (x := a / 65536 + 1) (by omega) (by omega), w64 (x := (a / 65536 + 1) * 65536) (by omega) (by omega), w64 (x := a) (by omega) (by omega), if_neg (by omega)]
    exact sums_j2 (by omega) a1 a2 b1 b2
  | succ d ih =>
    intro k q h0 hq hk
    obtain ⟨k, rfl⟩ := succ_of_lt (show 0 < k by omega)
    simp only [tillerlaw01_FixSums.l1]
    rw [w64 (x := q + 1) (by omega) (by omega), w64 (x := (q + 1) * 65536) (by omega) (by omega), w64 (x := a) (by omega) (by omega), if_pos (by omega)]
    exact ih k (q + 1) (by omega) (by omega) (by omega)
theorem sums_l0 {a b x n : Int} (a1 : -2147483648 ≤ a) (a2 : a ≤ 2147483647) (b1 : -2147483648 ≤ b) (b2 : b ≤ 2147483647) (hn : a < 0) : ∀ (d k : Nat) (q : Int), q ≤ 0 → q - a / 65536 = d → d + 500 ≤ k → tillerlaw01_FixSums.l0 k a b x n q = some true := by
  intro d
  induction d with
  | zero =>
    intro k q h0 hq hk
    obtain ⟨k, rfl⟩ := succ_of_lt (show 0 < k by omega)
    obtain rfl : q = a / 65536 := by omega
    simp only [tillerlaw01_FixSums.l0]
    rw [w64 (x := a / 65536 * 65536) (by omega) (by omega), w64 (x := a) (by omega) (by omega), if_neg (by omega)]
    exact sums_l1 a1 a2 b1 b2 0 k _ (by omega) (by omega) (by omega)
  | succ d ih =>
    intro k q h0 hq hk
    obtain ⟨k, rfl⟩ := succ_of_lt (show 0 < k by omega)
    simp only [tillerlaw01_FixSums.l0]
    rw [w64 (x := q * 65536) (by omega) (by omega), w64 (x := a) (by omega) (by omega), if_pos (by omega), w64 (x := q - 1) (by omega) (by omega)]
    exact ih k (q - 1) (by omega) (by omega) (by omega)
theorem FixSums : ∀ (a0 : Int) (a1 : Int) (a2 : Int) (a3 : Int), (Lit.int .i32 a0).wf = true → (Lit.int .i32 a1).wf = true → (Lit.int .i64 a2).wf = true → (Lit.int .i64 a3).wf = true → ∃ k, tillerlaw01_FixSums.f k a0 a1 a2 a3 = some true := by
  intro a b x n ha hb hx hn
  have ha := wf_i32 ha
  have hb := wf_i32 hb
  refine ⟨40000, ?_⟩
  unfold tillerlaw01_FixSums.f
  rcases Int.lt_or_le a 0 with h | h
  · exact sums_l0 ha.1 ha.2 hb.1 hb.2 h (0 - a / 65536).toNat _ 0 (by omega) (by omega) (by omega)
  · obtain ⟨k, hk⟩ : ∃ k, k = 39999 := ⟨_, rfl⟩
    rw [show 40000 = k + 1 by omega]
    simp only [tillerlaw01_FixSums.l0]
    rw [w64 (x := 0 * 65536) (by omega) (by omega), w64 (x := a) (by omega) (by omega), if_neg (by omega)]
    exact sums_l1 ha.1 ha.2 hb.1 hb.2 (a / 65536).toNat k 0 (by omega) (by omega) (by omega)
end Go.Proofs.Ytnhapgenebcjmaa.Pure
