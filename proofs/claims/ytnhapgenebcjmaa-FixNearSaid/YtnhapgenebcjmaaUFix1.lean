/- More of layer 1, as plain numbers: quotients, differences, whole parts; layer 1 is awake. -/
import Derived.Test.YtnhapgenebcjmaaUFix
import Derived.Test.YtnhapgenebcjmaaURef1
import Derived.Test.YtnhapgenebcjmaaGQx1
import Derived.Test.YtnhapgenebcjmaaGQx2
import Derived.Test.YtnhapgenebcjmaaGQx4
set_option linter.unusedVariables false
namespace Go.Proofs.Ytnhapgenebcjmaa.U
open Go.RowKit Go.Proofs.YtnhapgenebcjmaaW.PrintWords Go.Proofs.YtnhapgenebcjmaaW.PrintMore Go.Proofs.Ytnhapgenebcjmaa.GQ
theorem awake1 {k : Nat} (hk : 60 ≤ k) : tillerlaw01_awake.f k = some true := by
  have h : tillerlaw01_awake.f 10 = some true := by decide +kernel
  exact at_rounds (g := fun k => tillerlaw01_awake.f k) (tillerlaw01_awake.mono) (show 10 ≤ k by omega) h
theorem Sub_eq {a b : Int} (h1 : -2147483648 ≤ a) (h2 : a ≤ 2147483647) (h3 : -2147483648 ≤ b) (h4 : b ≤ 2147483647) : fix_Sub.f a b = some (sat (a - b)) := by
  unfold fix_Sub.f
  rw [w64 (x := a) (by omega) (by omega), w64 (x := b) (by omega) (by omega), w64 (by omega) (by omega), Sat_eq]; rfl
theorem Floor_eq {a : Int} (h1 : -2147483648 ≤ a) (h2 : a ≤ 2147483647) : fix_Floor.f a = some (a / 65536) := by
  unfold fix_Floor.f
  rw [w64 (by omega) (by omega)]
theorem Of_eq (n : Int) : fix_Of.f n = some (sat ((if n < -65536 then -65536 else if n > 65536 then 65536 else n) * 65536)) := by
  unfold fix_Of.f
  have : mx (-65536) (mn n 65536) = (if n < -65536 then -65536 else if n > 65536 then 65536 else n) := by
    unfold mx mn
    (repeat' split) <;> omega
  rw [Sat_eq, Option.bind_some, this]
/-- The quotient of two fixed numbers. -/
def divv (a b : Int) : Int := sat (rnd (if b < 0 then -(a * 65536) else a * 65536) (if b < 0 then -b else b))
theorem Div_zero (k : Nat) (a : Int) : fix_Div.f k a 0 = some (0, 5) := by
  unfold fix_Div.f
  rw [if_pos rfl]
theorem Div_eq {k : Nat} {a b : Int} (hk : 1 ≤ k) (h1 : -2147483648 ≤ a) (h2 : a ≤ 2147483647) (h3 : -2147483648 ≤ b) (h4 : b ≤ 2147483647) (hb : b ≠ 0) : fix_Div.f k a b = some (divv a b, 0) := by
  unfold fix_Div.f divv
  rw [if_neg hb, w64 (x := a) (by omega) (by omega), w64 (x := b) (by omega) (by omega), w64 (x := a * 65536) (by omega) (by omega)]
  by_cases hs : b < 0
  · rw [if_pos hs, if_pos hs, if_pos hs, w64 (by omega) (by omega), w64 (by omega) (by omega), Round_eq hk (by omega) (by omega) (by omega) (by omega), Option.bind_some, Sat_eq, Option.bind_some]
  · rw [if_neg hs, if_neg hs, if_neg hs, Round_eq hk (by omega) (by omega) (by omega) (by omega), Option.bind_some, Sat_eq, Option.bind_some]
theorem rDiv_eq {k : Nat} {a b : Int} (hk : 2 ≤ k) (h1 : -2147483648 ≤ a) (h2 : a ≤ 2147483647) (h3 : -2147483648 ≤ b) (h4 : b ≤ 2147483647) (hb : b ≠ 0) : tillerref01_Div.f k a b = some (divv a b) := by
  unfold tillerref01_Div.f divv
  rw [w64 (x := a) (by omega) (by omega), w64 (x := b) (by omega) (by omega), w64 (x := a * 65536) (by omega) (by omega)]
  by_cases hs : b < 0
  · rw [if_pos hs, if_pos hs, if_pos hs, w64 (by omega) (by omega), w64 (by omega) (by omega), rRound_eq hk (by omega) (by omega) (by omega) (by omega), Option.bind_some, rSat_eq, Option.bind_some]
  · rw [if_neg hs, if_neg hs, if_neg hs, rRound_eq hk (by omega) (by omega) (by omega) (by omega), Option.bind_some, rSat_eq, Option.bind_some]
theorem mulv_bound (a b : Int) : -2147483647 ≤ mulv a b ∧ mulv a b ≤ 2147483647 := sat_bound _
theorem divv_bound (a b : Int) : -2147483647 ≤ divv a b ∧ divv a b ≤ 2147483647 := sat_bound _
theorem mulv_neg (a b : Int) : mulv (-a) b = -mulv a b := by
  unfold mulv
  rw [Int.neg_mul, rnd_neg (by omega), sat_neg]
theorem mulv_comm' (a b : Int) : mulv a b = mulv b a := by unfold mulv; rw [Int.mul_comm]
theorem mulv_one' (a : Int) : mulv a 65536 = sat a := by
  unfold mulv
  rw [rnd_mul (by omega)]
theorem divv_neg (a b : Int) (hb : b ≠ 0) : divv (-a) b = -divv a b := by
  unfold divv
  split
  · rw [show -(-a * 65536) = -(-(a * 65536)) by omega, rnd_neg (by omega), sat_neg]
  · rw [show -a * 65536 = -(a * 65536) by omega, rnd_neg (by omega), sat_neg]
end Go.Proofs.Ytnhapgenebcjmaa.U
