/- What the document's functions of layer 1 answer, as plain numbers. -/
import Derived.Test.YtefimleoffaggaaGQx4
import Derived.Test.YtefimleoffaggaaGQx11
import Derived.Test.YtefimleoffaggaaUMath
set_option linter.unusedVariables false
namespace Go.Proofs.Ytefimleoffaggaa.U
open Go.RowKit Go.Proofs.YtefimleoffaggaaW.PrintWords Go.Proofs.YtefimleoffaggaaW.PrintMore Go.Proofs.Ytefimleoffaggaa.GQ
theorem rSat_eq (x : Int) : tillerref01_Sat.f x = some (sat x) := by
  unfold tillerref01_Sat.f sat
  split
  · rfl
  · split
    · rfl
    · rw [w32 (by omega) (by omega)]
theorem rRound_pos {k : Nat} {x d : Int} (hk : 1 ≤ k) (h1 : 0 ≤ x) (h2 : x ≤ 9223372036854775807) (d1 : 1 ≤ d) (d2 : d ≤ 4611686018427387904) : tillerref01_Round.f k x d = some (rndp x d) := by
  obtain ⟨k, rfl⟩ := succ_of_lt hk
  have e1 : Int.tmod x d = x % d := Int.tmod_eq_emod_of_nonneg h1
  have e2 : Int.tdiv x d = x / d := Int.tdiv_eq_ediv_of_nonneg h1
  have hd := divmod x d (by omega)
  have hs := div_small h1 (show 0 < d by omega)
  simp only [tillerref01_Round.f]
  rw [if_neg (by omega), if_neg (by omega), e1, e2, w64 (x := d - x % d) (by omega) (by omega), w64 (x := x / d) (by omega) (by omega)]
  unfold rndp
  by_cases hc : x % d ≥ d - x % d
  · rw [if_pos hc, if_pos hc]
    have hh := div_half h1 (show 2 ≤ d by omega)
    rw [w64 (by omega) (by omega)]
  · rw [if_neg hc, if_neg hc]
theorem rRound_eq {k : Nat} {x d : Int} (hk : 2 ≤ k) (h1 : -9223372036854775807 ≤ x) (h2 : x ≤ 9223372036854775807) (d1 : 1 ≤ d) (d2 : d ≤ 4611686018427387904) : tillerref01_Round.f k x d = some (rnd x d) := by
  unfold rnd
  split
  · obtain ⟨k, rfl⟩ := succ_of_lt (show 0 < k by omega)
    simp only [tillerref01_Round.f]
    rw [if_pos (by omega), w64 (x := -x) (by omega) (by omega), rRound_pos (by omega) (by omega) (by omega) d1 d2, Option.bind_some]
    have hn := rndp_nonneg (show 0 ≤ -x by omega) (show 0 < d by omega)
    have hb : rndp (-x) d ≤ 9223372036854775807 := by
      unfold rndp
      have hs := div_small (show 0 ≤ -x by omega) (show 0 < d by omega)
      have hd := divmod (-x) d (by omega)
      split
      · have hh := div_half (show 0 ≤ -x by omega) (show 2 ≤ d by omega)
        omega
      · omega
    rw [w64 (by omega) (by omega)]
  · exact rRound_pos (by omega) (by omega) h2 d1 d2
theorem rMul_eq {k : Nat} {a b : Int} (hk : 2 ≤ k) (h1 : -2147483648 ≤ a) (h2 : a ≤ 2147483647) (h3 : -2147483648 ≤ b) (h4 : b ≤ 2147483647) : tillerref01_Mul.f k a b = some (sat (rnd (a * b) 65536)) := by
  have := mul32 h1 (by omega) h3 (by omega)
  unfold tillerref01_Mul.f
  rw [w64 (x := a) (by omega) (by omega), w64 (x := b) (by omega) (by omega), w64 (by omega) (by omega), rRound_eq hk (by omega) (by omega) (by omega) (by omega)]
  simp only [Option.bind_some, rSat_eq]
end Go.Proofs.Ytefimleoffaggaa.U
