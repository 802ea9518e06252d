/- What RecvPlays and RecvWhole share, plainly. -/
import Derived.Test.YtfonfdpimbnfaaaGQx16
import Derived.Test.YtfonfdpimbnfaaaURecv
set_option linter.unusedVariables false
namespace Go.Proofs.Ytfonfdpimbnfaaa.U
open Go.RowKit Go.Proofs.YtfonfdpimbnfaaaW.PrintWords Go.Proofs.YtfonfdpimbnfaaaW.PrintLast Go.Proofs.YtfonfdpimbnfaaaW.PrintMore Go.Proofs.Ytfonfdpimbnfaaa.GQ Go.Proofs.Ytfonfdpimbnfaaa.GJoin
theorem count_set {C : List Bool} {j : Nat} (hj : j < C.length) (h : C.getD j false = false) : (C.set j true).countP id = C.countP id + 1 := by
  induction C generalizing j with
  | nil => simp at hj
  | cons b C ih =>
    cases j with
    | zero =>
      simp at h
      subst h
      simp
    | succ j =>
      have := ih (j := j) (by simpa using hj) (by simpa using h)
      simp only [List.set_cons_succ, List.countP_cons]
      omega
/-- Parts, one behind the other. -/
def cat (P : List ByteArray) : ByteArray := ⟨(joined P ⟨#[]⟩).toArray⟩
theorem miss_loop (num : Int) {n : Nat} {P : List ByteArray} {C : List Bool} (hc : C.length = n) (hn : n ≤ 512) : ∀ (d i k : Nat) (x3 : Int), n - i = d → i ≤ n → d + 1 ≤ k → -1000 ≤ x3 - ((C.drop i).countP id : Int) → x3 ≤ 1000 → recv_Missing.l0 k x3 (n : Int) (i : Int) num P C = some (x3 - ((C.drop i).countP id : Int)) := by
  intro d
  induction d with
  | zero =>
    intro i k x3 hd hi hk _ _
    obtain ⟨k, rfl⟩ := succ_of_lt (show 0 < k by omega)
    simp only [recv_Missing.l0]
    rw [if_neg (by omega), List.drop_of_length_le (by omega)]
    simp
  | succ d ih =>
    intro i k x3 hd hi hk hx1 hx2
    obtain ⟨k, rfl⟩ := succ_of_lt (show 0 < k by omega)
    have hcd : C.drop i = C[i]'(by omega) :: C.drop (i + 1) := List.drop_eq_getElem_cons (by omega)
    have hg : rdOf false C (i : Int) = C[i]'(by omega) := by rw [rdB, List.getD_eq_getElem?_getD, List.getElem?_eq_getElem (by omega), Option.getD_some]
    rw [hcd] at hx1 ⊢
    simp only [recv_Missing.l0]
    rw [if_pos (by omega), if_pos (by omega), if_pos (by omega), hg]
    by_cases e : C[i]'(by omega) = true
    · rw [List.countP_cons_of_pos (by simpa using e)] at hx1 ⊢
      have next := ih (i + 1) k (x3 - 1) (by omega) (by omega) (by omega) (by omega) (by omega)
      rw [if_pos e, w64 (x := x3 - 1) (by omega) (by omega), w64 (x := (i : Int) + 1) (by omega) (by omega), ← Int.natCast_one, ← Int.natCast_add, show x3 - ((1 : Nat) : Int) = x3 - 1 from rfl, next]
      congr 1
      omega
    · rw [List.countP_cons_of_neg (by simpa using e)] at hx1 ⊢
      have next := ih (i + 1) k x3 (by omega) (by omega) (by omega) (by omega) (by omega)
      rw [if_neg e, w64 (x := (i : Int) + 1) (by omega) (by omega), ← Int.natCast_one, ← Int.natCast_add, next]
end Go.Proofs.Ytfonfdpimbnfaaa.U
