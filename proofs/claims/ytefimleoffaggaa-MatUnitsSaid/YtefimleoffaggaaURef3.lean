/- What the document's functions of layer 3 answer. -/
import Derived.Test.YtefimleoffaggaaGQx3
import Derived.Test.YtefimleoffaggaaGQx4
import Derived.Test.YtefimleoffaggaaGQx5
import Derived.Test.YtefimleoffaggaaURef1
import Derived.Test.YtefimleoffaggaaUVec
import Derived.Laws.Bits64
set_option linter.unusedVariables false
namespace Go.Proofs.Ytefimleoffaggaa.U
open Go.RowKit Go.Proofs.YtefimleoffaggaaW.PrintWords Go.Proofs.YtefimleoffaggaaW.PrintMore Go.Proofs.Ytefimleoffaggaa.GQ
theorem u64 {x : Int} (h1 : 0 ≤ x) (h2 : x ≤ 18446744073709551615) : IntKind.u64.wrap x = x := by rw [IntKind.wrap_u64]; omega
theorem rGrow_eq {k : Nat} {s x : Int} (hk : 1 ≤ k) (s1 : -9223372036854775807 ≤ s) (s2 : s ≤ 9223372036854775807) (x1 : -9223372036854775807 ≤ x) (x2 : x ≤ 9223372036854775807) : tillerref03_Grow.f k s x = some (cl (s + x)) := by
  obtain ⟨k, rfl⟩ := succ_of_lt hk
  unfold tillerref03_Grow.f cl
  have key : ∀ b : Bool, (b = true ↔ (s ≥ 0 ∧ x ≥ 0 ∧ s + x > 9223372036854775807)) → tillerref03_Grow.j0 (k + 1) s x b = some (if s + x > 9223372036854775807 then 9223372036854775807 else if s + x < -9223372036854775807 then -9223372036854775807 else s + x) := by
    intro b hb
    simp only [tillerref03_Grow.j0]
    by_cases h : b = true
    · rw [if_pos h, if_pos (hb.1 h).2.2]
    · rw [if_neg h]
      have h' : ¬ (s ≥ 0 ∧ x ≥ 0 ∧ s + x > 9223372036854775807) := fun z => h (hb.2 z)
      have h2 : ¬ s + x > 9223372036854775807 := by omega
      rw [if_neg h2]
      by_cases hs : s < 0
      · rw [if_pos hs]
        by_cases hx : x < 0
        · rw [if_pos hx, w64 (x := -s) (by omega) (by omega), w64 (x := -x) (by omega) (by omega), u64 (x := -s) (by omega) (by omega), u64 (x := -x) (by omega) (by omega), u64 (by omega) (by omega)]
          by_cases h3 : -s + -x > 9223372036854775807
          · rw [if_pos h3, if_pos (by omega)]
          · rw [if_neg h3, if_neg (by omega), w64 (by omega) (by omega)]
        · rw [if_neg hx, if_neg (by omega), w64 (by omega) (by omega)]
      · rw [if_neg hs, if_neg (by omega), w64 (by omega) (by omega)]
  by_cases hs : s ≥ 0
  · rw [if_pos hs]
    by_cases hx : x ≥ 0
    · rw [if_pos hx, u64 (x := s) (by omega) (by omega), u64 (x := x) (by omega) (by omega), u64 (by omega) (by omega)]
      exact key _ (by simp; omega)
    · rw [if_neg hx]
      exact key _ (by simp; omega)
  · rw [if_neg hs]
    exact key _ (by simp; omega)
theorem rFit_eq {k : Nat} (a b : List Int) (hk : 1 ≤ k) : tillerref03_Fit.f k a b = some (fitv a b) := by
  obtain ⟨k, rfl⟩ := succ_of_lt hk
  unfold tillerref03_Fit.f fitv
  by_cases h : (a.length : Int) > 4096
  · rw [if_pos h, if_pos (by omega)]; simp [tillerref03_Fit.j0]
  · rw [if_neg h]
    by_cases h2 : (b.length : Int) > 4096
    · rw [if_pos (by omega)]; simp [tillerref03_Fit.j0, h2]
    · rw [if_neg (by omega)]
      simp only [tillerref03_Fit.j0, decide_eq_false h2, Bool.false_eq_true, if_false]
      by_cases h3 : a.length = b.length
      · rw [if_pos (by omega), if_pos h3]
      · rw [if_neg (by omega), if_neg h3]
theorem rDot_loop {a b : List Int} (ha : I32 a) (hb : I32 b) (hl : a.length ≤ b.length) (hn : a.length ≤ 1000000) : ∀ (d i k : Nat) (s : Int), a.length - i = d → i ≤ a.length → d + 3 ≤ k → -9223372036854775807 ≤ s → s ≤ 9223372036854775807 →
    tillerref03_Dot.l0 k a b s (i : Int) = some (sat (rnd (dots (a.drop i) (b.drop i) s) 65536)) := by
  intro d
  induction d with
  | zero =>
    intro i k s hd hi hk s1 s2
    obtain ⟨k, rfl⟩ := succ_of_lt (show 0 < k by omega)
    have : i = a.length := by omega
    subst this
    simp only [tillerref03_Dot.l0]
    rw [if_neg (by omega), rRound_eq (by omega) (by omega) (by omega) (by omega) (by omega), List.drop_length]
    simp only [Option.bind_some, rSat_eq, dots]
  | succ d ih =>
    intro i k s hd hi hk s1 s2
    obtain ⟨k, rfl⟩ := succ_of_lt (show 0 < k by omega)
    have hia : i < a.length := by omega
    have hib : i < b.length := by omega
    have r1 := ha.rd hia
    have r2 := hb.rd hib
    have hm := mul32 r1.1 (by omega) r2.1 (by omega)
    simp only [tillerref03_Dot.l0]
    rw [if_pos (by omega), if_pos (by omega), if_pos (by omega), w64 (x := rd a i) (by omega) (by omega), w64 (x := rd b i) (by omega) (by omega), w64 (x := rd a i * rd b i) (by omega) (by omega),
      rGrow_eq (by omega) s1 s2 (by omega) (by omega), Option.bind_some, w64 (x := (i : Int) + 1) (by omega) (by omega)]
    have hc := cl_bound (s + rd a i * rd b i)
    have := ih (i + 1) k (cl (s + rd a i * rd b i)) (by omega) (by omega) (by omega) hc.1 hc.2
    rw [Int.natCast_add, Int.natCast_one] at this
    rw [this, drop_rd hia, drop_rd hib, dots]
theorem rDot_eq {k : Nat} {a b : List Int} (ha : I32 a) (hb : I32 b) (hl : a.length ≤ b.length) (hn : a.length ≤ 4096) (hk : 5000 ≤ k) : tillerref03_Dot.f k a b = some (dotv a b) := by
  unfold tillerref03_Dot.f
  have := rDot_loop ha hb hl (by omega) a.length 0 k 0 (by omega) (by omega) (by omega) (by omega) (by omega)
  rw [Int.natCast_zero] at this
  rw [this]; rfl
end Go.Proofs.Ytefimleoffaggaa.U
