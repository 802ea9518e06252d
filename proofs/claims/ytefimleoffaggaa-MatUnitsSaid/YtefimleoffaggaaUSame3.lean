/- Two rows, two matrices: the same? -/
import Derived.Test.YtefimleoffaggaaGQx13
import Derived.Test.YtefimleoffaggaaGQx17
import Derived.Test.YtefimleoffaggaaUMath
set_option linter.unusedVariables false
namespace Go.Proofs.Ytefimleoffaggaa.U
open Go.RowKit Go.Proofs.YtefimleoffaggaaW.PrintWords Go.Proofs.YtefimleoffaggaaW.PrintMore Go.Proofs.Ytefimleoffaggaa.GQ
theorem rSame_loop {a b : List Int} (hl : a.length = b.length) (hn : a.length ≤ 1000000) : ∀ (d i k : Nat), a.length - i = d → i ≤ a.length → d + 1 ≤ k → tillerref03_Same.l0 k a b (a.length : Int) (i : Int) = some (decide (a.drop i = b.drop i)) := by
  intro d
  induction d with
  | zero =>
    intro i k hd hi hk
    obtain ⟨k, rfl⟩ := succ_of_lt (show 0 < k by omega)
    simp only [tillerref03_Same.l0]
    rw [if_neg (by omega), List.drop_of_length_le (by omega), List.drop_of_length_le (by omega)]; rfl
  | succ d ih =>
    intro i k hd hi hk
    obtain ⟨k, rfl⟩ := succ_of_lt (show 0 < k by omega)
    have h1 : i < a.length := by omega
    have h2 : i < b.length := by omega
    have := ih (i + 1) k (by omega) (by omega) (by omega)
    rw [Int.natCast_add, Int.natCast_one] at this
    simp only [tillerref03_Same.l0]
    rw [if_pos (by omega), if_pos (by omega), if_pos (by omega), if_pos (by omega), w64 (x := (i : Int) + 1) (by omega) (by omega), drop_rd h1, drop_rd h2, this]
    by_cases e : rd a i = rd b i
    · rw [if_pos e]; simp [e]
    · rw [if_neg e]; simp [e]
theorem rSame_eq {k : Nat} (a b : List Int) (hn : a.length ≤ 1000000) (hk : a.length + 1 ≤ k) : tillerref03_Same.f k a b = some (decide (a = b)) := by
  unfold tillerref03_Same.f
  by_cases h : a.length = b.length
  · have := rSame_loop h hn a.length 0 k (by omega) (by omega) (by omega)
    rw [Int.natCast_zero] at this
    rw [if_pos (by omega), this]; rfl
  · rw [if_neg (by omega)]
    have : a ≠ b := fun e => h (by rw [e])
    simp [this]
theorem rSame4 {k : Nat} {a b : Int} {d : List Int} (hn : d.length ≤ 1000000) (hk : d.length + 1 ≤ k) : tillerref04_Same.f k a b d a b d = some true := by
  unfold tillerref04_Same.f
  rw [if_pos rfl, if_pos rfl, rSame_eq d d hn hk]; simp
theorem awake4 {k : Nat} (hk : 20 ≤ k) : tillerlaw04_awake.f k = some true := by
  have h : tillerlaw04_awake.f 20 = some true := by decide +kernel
  exact at_rounds (g := fun k => tillerlaw04_awake.f k) (tillerlaw04_awake.mono) hk h
end Go.Proofs.Ytefimleoffaggaa.U
