/- What the program's functions of layer 1 answer, as plain numbers. -/
import Derived.Test.YtefimleoffaggaaGQx1
import Derived.Test.YtefimleoffaggaaGQx2
import Derived.Test.YtefimleoffaggaaGQx9
import Derived.Test.YtefimleoffaggaaUMath
set_option linter.unusedVariables false
namespace Go.Proofs.Ytefimleoffaggaa.U
open Go.RowKit Go.Proofs.YtefimleoffaggaaW.PrintWords Go.Proofs.YtefimleoffaggaaW.PrintMore Go.Proofs.Ytefimleoffaggaa.GQ

theorem Sat_eq (x : Int) : fix_Sat.f x = some (sat x) := by
  unfold fix_Sat.f sat mx mn; congr 1; (repeat' split) <;> omega
theorem Round_eq {k : Nat} {x d : Int} (hk : 1 ≤ k) (h1 : -9223372036854775808 ≤ x) (h2 : x ≤ 9223372036854775807) (d1 : 1 ≤ d) (d2 : d ≤ 4611686018427387904) : fix_Round.f k x d = some (rnd x d) := by
  obtain ⟨k, rfl⟩ := succ_of_lt hk
  unfold fix_Round.f rnd
  rw [if_neg (by omega)]
  rcases Int.lt_or_le x 0 with hx | hx
  · rw [if_pos hx]
    obtain ⟨y, rfl⟩ : ∃ y, x = -y := ⟨-x, by omega⟩
    have hy : 0 ≤ y := by omega
    have e1 : Int.tmod (-y) d = -(y % d) := by rw [Int.neg_tmod, Int.tmod_eq_emod_of_nonneg hy]
    have e2 : Int.tdiv (-y) d = -(y / d) := by rw [Int.neg_tdiv, Int.tdiv_eq_ediv_of_nonneg hy]
    have hd := divmod y d (by omega)
    have hs := div_small hy (show 0 < d by omega)
    rw [e1, e2, Int.neg_neg]
    generalize y % d = r at *
    generalize hq : y / d = q at *
    rw [w64 (x := d - -r) (by omega) (by omega), w64 (x := -q) (by omega) (by omega), if_neg (by omega)]
    simp only [fix_Round.j0, Bool.false_eq_true, if_false, rndp, hq]
    by_cases hr : r = 0
    · subst hr
      rw [if_neg (by omega)]
      have : y % d = 0 := by
        have h3 := divmod y d (by omega)
        rw [hq] at h3; omega
      rw [this, if_neg (by omega)]
    · rw [if_pos (by omega)]
      have hd2 : 2 ≤ d := by omega
      have hh := div_half hy hd2
      rw [hq] at hh
      have hm : y % d = r := by
        have h3 := divmod y d (by omega)
        rw [hq] at h3; omega
      rw [hm, w64 (x := - -r) (by omega) (by omega), w64 (x := d + -r) (by omega) (by omega), w64 (x := -q - 1) (by omega) (by omega)]
      by_cases hc : r ≥ d - r
      · rw [if_pos (by omega), if_pos hc]; congr 1; omega
      · rw [if_neg (by omega), if_neg hc]
  · rw [if_neg (show ¬ x < 0 by omega)]
    have e1 : Int.tmod x d = x % d := Int.tmod_eq_emod_of_nonneg hx
    have e2 : Int.tdiv x d = x / d := Int.tdiv_eq_ediv_of_nonneg hx
    have hd := divmod x d (by omega)
    have hs := div_small hx (show 0 < d by omega)
    rw [e1, e2, w64 (x := d - x % d) (by omega) (by omega), w64 (x := x / d) (by omega) (by omega)]
    unfold rndp
    by_cases hc : x % d ≥ d - x % d
    · rw [if_pos hc, if_pos hc]
      have hd2 : 2 ≤ d := by omega
      have hh := div_half hx hd2
      have : x % d > 0 := by omega
      simp only [fix_Round.j0, decide_eq_true this, if_true]
      rw [w64 (by omega) (by omega)]
    · rw [if_neg hc, if_neg hc]
      have hn : ¬ x % d < 0 := by omega
      simp only [fix_Round.j0, Bool.false_eq_true, if_false, if_neg hn]
theorem Add_eq {a b : Int} (h1 : -2147483648 ≤ a) (h2 : a ≤ 2147483647) (h3 : -2147483648 ≤ b) (h4 : b ≤ 2147483647) : fix_Add.f a b = some (sat (a + b)) := by
  unfold fix_Add.f
  rw [w64 (x := a) (by omega) (by omega), w64 (x := b) (by omega) (by omega), w64 (by omega) (by omega), Sat_eq]; rfl
/-- The product of two fixed numbers. -/
def mulv (a b : Int) : Int := sat (rnd (a * b) 65536)
theorem Mul_eq {k : Nat} {a b : Int} (hk : 1 ≤ k) (h1 : -2147483648 ≤ a) (h2 : a ≤ 2147483647) (h3 : -2147483648 ≤ b) (h4 : b ≤ 2147483647) : fix_Mul.f k a b = some (mulv a b) := by
  have := mul32 h1 (by omega) h3 (by omega)
  unfold fix_Mul.f
  rw [w64 (x := a) (by omega) (by omega), w64 (x := b) (by omega) (by omega), w64 (by omega) (by omega), Round_eq hk (by omega) (by omega) (by omega) (by omega)]
  simp only [Option.bind_some, Sat_eq]; rfl
end Go.Proofs.Ytefimleoffaggaa.U
