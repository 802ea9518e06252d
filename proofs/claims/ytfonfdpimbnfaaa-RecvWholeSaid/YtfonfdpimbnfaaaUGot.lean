/- Layer 20, as plain lists: what a part that came turns. -/
import Derived.Test.YtfonfdpimbnfaaaGQx9
import Derived.Test.YtfonfdpimbnfaaaULeft
import Derived.Test.YtfonfdpimbnfaaaGGot
set_option linter.unusedVariables false
namespace Go.Proofs.Ytfonfdpimbnfaaa.U
open Go.RowKit Go.Proofs.YtfonfdpimbnfaaaW.PrintWords Go.Proofs.YtfonfdpimbnfaaaW.PrintMore Go.Proofs.Ytfonfdpimbnfaaa.GQ Go.Proofs.Ytfonfdpimbnfaaa.GGot
theorem Over_eq {k : Nat} (num : Int) {P : List ByteArray} (came : List Bool) (hP : P.length ≤ 100000) (hk : P.length + 1 ≤ k) : send_Over.f k num P came = some (((lft came P.length).length : Int) == 0) := by
  unfold send_Over.f
  rw [Left_eq num came hP hk, Option.bind_some, ints_len]
/-- What is known, as a row of as many places as there are parts. -/
def norm (came : List Bool) (n : Nat) : List Bool := cpy came (List.replicate n false)
theorem norm_id {came : List Bool} {n : Nat} (h : came.length = n) : norm came n = came := by
  unfold norm cpy
  rw [List.length_replicate, h, Nat.min_self, ← h, List.take_length]
  simp
theorem norm_len (came : List Bool) (n : Nat) : (norm came n).length = n := by
  unfold norm cpy
  simp
  omega
theorem Got_eq {num at_ : Int} {P : List ByteArray} (came : List Bool) (hP : P.length ≤ 100000) (h0 : 0 ≤ at_) (h1 : at_ < (P.length : Int)) : send_Got.f num P came num at_ = some (num, P, (norm came P.length).set at_.toNat true, 0) := by
  unfold send_Got.f
  rw [if_pos rfl, if_neg (by omega), if_neg (by omega), if_pos (by omega), if_pos (by omega), Option.bind_some, if_pos h0, List.length_replicate, Int.toNat_natCast, if_pos h1]
  rfl
theorem Got_old {num n at_ : Int} (P : List ByteArray) (came : List Bool) (h : n ≠ num) : send_Got.f num P came n at_ = some (num, P, came, 14) := by
  unfold send_Got.f
  rw [if_neg h]
theorem Got_none {num at_ : Int} (P : List ByteArray) (came : List Bool) (h : at_ < 0 ∨ at_ ≥ (P.length : Int)) : send_Got.f num P came num at_ = some (num, P, came, 8) := by
  unfold send_Got.f
  rw [if_pos rfl]
  by_cases h1 : at_ < 0
  · rw [if_pos h1]
  · rw [if_neg h1, if_pos (by omega)]
end Go.Proofs.Ytfonfdpimbnfaaa.U
