/- Layer 21, as plain lists: what a part that comes turns, and the whole text. -/
import Derived.Test.YtfonfdpimbnfaaaGQx11
import Derived.Test.YtfonfdpimbnfaaaGQx12
import Derived.Test.YtfonfdpimbnfaaaGQx13
import Derived.Test.YtfonfdpimbnfaaaULeft
set_option linter.unusedVariables false
namespace Go.Proofs.Ytfonfdpimbnfaaa.U
open Go.RowKit Go.Proofs.YtfonfdpimbnfaaaW.PrintWords Go.Proofs.YtfonfdpimbnfaaaW.PrintMore Go.Proofs.Ytfonfdpimbnfaaa.GQ Go.Proofs.Ytfonfdpimbnfaaa.GJoin
theorem CloneS_eq {l : List ByteArray} (h : l.length ≤ 100000) : slices_Clone_string_string.f l = some l := by
  unfold slices_Clone_string_string.f
  rw [Option.bind_some, if_pos (by rw [List.length_nil]; omega), List.nil_append]
theorem CloneB_eq {l : List Bool} (h : l.length ≤ 100000) : slices_Clone_bool_bool.f l = some l := by
  unfold slices_Clone_bool_bool.f
  rw [Option.bind_some, if_pos (by rw [List.length_nil]; omega), List.nil_append]
theorem rBegin_eq (num : Int) {n : Nat} (h1 : 1 ≤ n) (h2 : n ≤ 512) : recv_Begin.f num (n : Int) = some (num, List.replicate n ⟨#[]⟩, List.replicate n false, 0) := by
  unfold recv_Begin.f
  rw [if_neg (by omega), if_neg (by omega), if_pos (by omega), if_pos (by omega), if_pos (by omega), Int.toNat_natCast]
theorem rdB (came : List Bool) (i : Nat) : rdOf false came (i : Int) = came.getD i false := by unfold rdOf; rw [Int.toNat_natCast]
theorem rdS (P : List ByteArray) (i : Nat) : rdOf ByteArray.empty P (i : Int) = P.getD i ByteArray.empty := by unfold rdOf; rw [Int.toNat_natCast]
theorem right_eq {num : Int} {P : List ByteArray} {came : List Bool} (h1 : 1 ≤ P.length) (h2 : came.length = P.length) : recv_right.f num P came = some true := by
  unfold recv_right.f
  rw [if_pos (by omega), h2, beq_self_eq_true]
theorem Take_old {k : Nat} {num n at_ of_ : Int} {P : List ByteArray} {came : List Bool} {x : ByteArray} (h1 : 1 ≤ P.length) (h2 : came.length = P.length) (h : n ≠ num) : recv_Take.f k num P came n at_ of_ x = some (num, P, came, false, 14) := by
  unfold recv_Take.f
  rw [right_eq h1 h2, Option.bind_some, if_pos rfl, if_neg h]
theorem Take_arg {k : Nat} (hk : 1 ≤ k) {num at_ of_ : Int} {P : List ByteArray} {came : List Bool} {x : ByteArray} (h1 : 1 ≤ P.length) (h2 : came.length = P.length) (h : of_ ≠ (P.length : Int) ∨ at_ < 0 ∨ at_ ≥ (P.length : Int)) : recv_Take.f k num P came num at_ of_ x = some (num, P, came, false, 1) := by
  obtain ⟨k, rfl⟩ := succ_of_lt (show 0 < k by omega)
  have e : recv_Take.j0 (k + 1) true num P came num at_ of_ x = some (num, P, came, false, 1) := by simp only [recv_Take.j0, if_true]
  unfold recv_Take.f
  rw [right_eq h1 h2, Option.bind_some, if_pos rfl, if_pos rfl]
  by_cases c1 : of_ = (P.length : Int)
  · rw [if_pos c1]
    by_cases c2 : at_ < 0
    · rw [if_pos c2, e]
    · rw [if_neg c2, decide_eq_true (by omega), e]
  · rw [if_neg c1, e]
theorem Take_in {k : Nat} (num : Int) {P : List ByteArray} {came : List Bool} (x : ByteArray) {j : Nat} (h1 : 1 ≤ P.length) (h2 : came.length = P.length) (hj : j < P.length) : recv_Take.f k num P came num (j : Int) (P.length : Int) x = recv_Take.j0 k false num P came num (j : Int) (P.length : Int) x := by
  unfold recv_Take.f
  rw [right_eq h1 h2, Option.bind_some, if_pos rfl, if_pos rfl, if_pos rfl, if_neg (by omega), decide_eq_false (by omega)]
theorem Take_big {k : Nat} (hk : 1 ≤ k) {num : Int} {P : List ByteArray} {came : List Bool} {x : ByteArray} {j : Nat} (h1 : 1 ≤ P.length) (h2 : came.length = P.length) (hj : j < P.length) (hx : 4096 < x.size) : recv_Take.f k num P came num (j : Int) (P.length : Int) x = some (num, P, came, false, 2) := by
  obtain ⟨k, rfl⟩ := succ_of_lt (show 0 < k by omega)
  rw [Take_in num x h1 h2 hj]
  simp only [recv_Take.j0, Bool.false_eq_true, if_false]
  rw [if_pos (by omega)]
theorem Take_there {k : Nat} (hk : 2 ≤ k) {num : Int} {P : List ByteArray} {came : List Bool} {x : ByteArray} {j : Nat} (h1 : 1 ≤ P.length) (h2 : came.length = P.length) (hj : j < P.length) (hx : x.size ≤ 4096) (hc : came.getD j false = true) :
    recv_Take.f k num P came num (j : Int) (P.length : Int) x = some (num, P, came, false, if (P.getD j ByteArray.empty).toList = x.toList then 0 else 9) := by
  obtain ⟨k, rfl⟩ := succ_of_lt (show 0 < k by omega)
  obtain ⟨k, rfl⟩ := succ_of_lt (show 0 < k by omega)
  rw [Take_in num x h1 h2 hj]
  simp only [recv_Take.j0, recv_Take.j1, Bool.false_eq_true, if_false]
  rw [if_neg (by omega), if_pos (by omega), if_pos (by omega), rdB, if_pos hc, if_pos (by omega), rdS]
  by_cases c : (P.getD j ByteArray.empty).toList = x.toList
  · rw [if_pos c, if_neg (show ¬ ((P.getD j ByteArray.empty).toList != x.toList) = true by rw [c, bne_self_eq_false]; decide), if_pos (by omega), if_pos (by omega), if_pos hc]
  · rw [if_neg c, if_pos (bne_iff_ne.2 c)]
theorem Take_new {k : Nat} (hk : 2 ≤ k) {num : Int} {P : List ByteArray} {came : List Bool} {x : ByteArray} {j : Nat} (h1 : 1 ≤ P.length) (h0 : P.length ≤ 100000) (h2 : came.length = P.length) (hj : j < P.length) (hx : x.size ≤ 4096) (hc : came.getD j false = false) :
    recv_Take.f k num P came num (j : Int) (P.length : Int) x = some (num, P.set j x, came.set j true, true, 0) := by
  obtain ⟨k, rfl⟩ := succ_of_lt (show 0 < k by omega)
  obtain ⟨k, rfl⟩ := succ_of_lt (show 0 < k by omega)
  rw [Take_in num x h1 h2 hj]
  simp only [recv_Take.j0, recv_Take.j1, Bool.false_eq_true, if_false]
  rw [if_neg (by omega), if_pos (by omega), if_pos (by omega), rdB, if_neg (by rw [hc]; decide), if_pos (by omega), if_pos (by omega), if_neg (by rw [hc]; decide), CloneS_eq (by omega), Option.bind_some, CloneB_eq (by omega), Option.bind_some, if_pos (by omega), if_pos (by omega), Int.toNat_natCast]
theorem index_loop (l : List Bool) (hl : l.length ≤ 100000) : ∀ (d i k : Nat), l.length - i = d → i ≤ l.length → d + 1 ≤ k → ∃ t, slices_Index_bool_bool.l0 k l false (l.length : Int) (i : Int) = some t ∧ decide (t ≥ 0) = (l.drop i).any (fun b => !b) := by
  intro d
  induction d with
  | zero =>
    intro i k hd hi hk
    obtain ⟨k, rfl⟩ := succ_of_lt (show 0 < k by omega)
    refine ⟨-1, ?_, ?_⟩
    · simp only [slices_Index_bool_bool.l0]
      rw [if_neg (by omega)]
    · rw [List.drop_eq_nil_of_le (by omega)]; rfl
  | succ d ih =>
    intro i k hd hi hk
    obtain ⟨k, rfl⟩ := succ_of_lt (show 0 < k by omega)
    have hil : i < l.length := by omega
    have e : rdOf false l (i : Int) = l[i] := by rw [rdB, List.getD_eq_getElem?_getD, List.getElem?_eq_getElem hil]; rfl
    simp only [slices_Index_bool_bool.l0]
    rw [if_pos (by omega), if_pos (by omega), if_pos (by omega), e, List.drop_eq_getElem_cons hil, List.any_cons, w64 (x := (i : Int) + 1) (by omega) (by omega)]
    cases hb : l[i] with
    | false =>
      refine ⟨i, ?_, ?_⟩
      · rw [if_pos (by decide)]
      · rw [decide_eq_true (by omega)]; rfl
    | true =>
      rw [if_neg (by decide)]
      obtain ⟨t, h1, h2⟩ := ih (i + 1) k (by omega) (by omega) (by omega)
      rw [Int.natCast_add, Int.natCast_one] at h1
      exact ⟨t, h1, by rw [h2]; simp⟩
theorem Contains_eq {k : Nat} {l : List Bool} (hl : l.length ≤ 100000) (hk : l.length + 1 ≤ k) : slices_Contains_bool_bool.f k l false = some (l.any fun b => !b) := by
  obtain ⟨t, h1, h2⟩ := index_loop l hl l.length 0 k (by omega) (by omega) (by omega)
  unfold slices_Contains_bool_bool.f slices_Index_bool_bool.f
  have h1 : slices_Index_bool_bool.l0 k l false (l.length : Int) 0 = some t := h1
  rw [h1, Option.bind_some, h2, List.drop_zero]
theorem Whole_no {k : Nat} {num : Int} {P : List ByteArray} {came : List Bool} (h1 : 1 ≤ P.length) (h0 : P.length ≤ 100000) (h2 : came.length = P.length) (hk : P.length + 1 ≤ k) (h : (came.any fun b => !b) = true) : recv_Whole.f k num P came = some (⟨#[]⟩, false) := by
  unfold recv_Whole.f
  rw [right_eq h1 h2, Option.bind_some, if_pos rfl, Contains_eq (by omega) (by omega), Option.bind_some, h, if_pos rfl]
theorem Whole_yes {k : Nat} {num : Int} {P : List ByteArray} {came : List Bool} (h1 : 1 ≤ P.length) (h0 : P.length ≤ 100000) (h2 : came.length = P.length) (hk : P.length + 1 ≤ k) (h : (came.any fun b => !b) = false) (hs : (joined P ⟨#[]⟩).length ≤ 140737488355328) : recv_Whole.f k num P came = some (⟨(joined P ⟨#[]⟩).toArray⟩, true) := by
  unfold recv_Whole.f
  rw [right_eq h1 h2, Option.bind_some, if_pos rfl, Contains_eq (by omega) (by omega), Option.bind_some, h, if_neg (by decide)]
  unfold strings_Join.f
  rw [if_pos ⟨by omega, hs⟩, Option.bind_some]
theorem joined_flat (P : List ByteArray) : joined P ⟨#[]⟩ = (P.map (·.data.toList)).flatten := by
  unfold joined
  cases P with
  | nil => rfl
  | cons x r =>
    rw [List.map_cons, Lib.join_cons]
    unfold Lib.joinTail
    simp [Function.comp_def]
theorem joined_parts {t : ByteArray} {m : Nat} : ∀ n : Nat, (n = 0 ∨ (n - 1) * m ≤ t.size) → joined (parts t m n) ⟨#[]⟩ = (t.extract 0 (min (n * m) t.size)).data.toList := by
  intro n
  rw [joined_flat]
  induction n with
  | zero => intro _; simp [parts]
  | succ n ih =>
    intro h
    have h : n * m ≤ t.size := by simpa using h
    have h' : n = 0 ∨ (n - 1) * m ≤ t.size := by
      rcases Nat.eq_zero_or_pos n with h0 | h0
      · exact .inl h0
      · exact .inr (Nat.le_trans (Nat.mul_le_mul_right m (by omega)) h)
    rw [parts_succ, List.map_append, List.flatten_append, ih h', List.map_cons, List.map_nil, List.flatten_cons, List.flatten_nil, List.append_nil]
    have e : t.extract 0 (min (n * m) t.size) ++ pt t m n = t.extract 0 (min ((n + 1) * m) t.size) := by
      unfold pt
      rw [Nat.min_eq_left h, ByteArray.extract_append_extract, Nat.add_mul, Nat.one_mul]
      congr 1 <;> omega
    rw [← e, ByteArray.data_append, Array.toList_append]
end Go.Proofs.Ytfonfdpimbnfaaa.U
