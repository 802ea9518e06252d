/- RecvWhole, plainly: what a part does that is one of the text's own. -/
import Derived.Test.YtfonfdpimbnfaaaGQx2
import Derived.Test.YtfonfdpimbnfaaaGQx3
import Derived.Test.YtfonfdpimbnfaaaGQx9
import Derived.Test.YtfonfdpimbnfaaaGGot
import Derived.Test.YtfonfdpimbnfaaaURecvC
import Derived.Test.YtfonfdpimbnfaaaULeft
import Derived.Test.YtfonfdpimbnfaaaUGot
set_option linter.unusedVariables false
namespace Go.Proofs.Ytfonfdpimbnfaaa.U
open Go.RowKit Go.Proofs.YtfonfdpimbnfaaaW.PrintWords Go.Proofs.YtfonfdpimbnfaaaW.PrintLast Go.Proofs.YtfonfdpimbnfaaaW.PrintMore Go.Proofs.Ytfonfdpimbnfaaa.GQ Go.Proofs.Ytfonfdpimbnfaaa.GJoin Go.Proofs.Ytfonfdpimbnfaaa.GGot
theorem pt_size (t : ByteArray) (m j : Nat) : (pt t m j).size ≤ t.size := by unfold pt; rw [ByteArray.size_extract]; omega
theorem cat_parts {t : ByteArray} {m : Nat} (hm : 1 ≤ m) : cat (parts t m (cnt t.size m)) = t := by
  obtain ⟨f1, f2, f3, f4, f5⟩ := cnt_facts (N := t.size) hm
  unfold cat
  rw [joined_parts _ (by
    rcases Nat.eq_zero_or_pos t.size with h | h
    · right; rw [f4 h]; omega
    · right; exact Nat.le_of_lt (f3 h)), Nat.min_eq_right f2]
  apply ByteArray.ext
  show (t.extract 0 t.size).data.toList.toArray = t.data
  rw [ByteArray.extract_zero_size]
/-- How the sending of a text begins. -/
theorem begin_whole (num a : Int) (t : ByteArray) (hN : t.size ≤ 300) : ∃ (P : List ByteArray) (num0 e : Int), send_Begin.f 10000 num t a = some (num0, P, List.replicate P.length false, e) ∧ (e ≠ 0 → P = [] ∧ num0 = 0) ∧ (e = 0 → num0 = num ∧ 1 ≤ P.length ∧ P.length ≤ 301 ∧ cat P = t ∧ ∀ i : Nat, (P.getD i ByteArray.empty).size ≤ 300) := by
  by_cases h : a < 1 ∨ a > 4096 ∨ (t.size : Int) > 512 * a
  · obtain ⟨e', h4, h5, h6⟩ := Begin_bad (k := 10000) (by omega) num t h
    exact ⟨[], 0, e', h4, fun _ => ⟨rfl, rfl⟩, fun e0 => absurd e0 h5⟩
  · obtain ⟨m, rfl⟩ : ∃ m : Nat, a = (m : Int) := ⟨a.toNat, by omega⟩
    obtain ⟨f1, f2, f3, f4, f5⟩ := cnt_facts (N := t.size) (m := m) (by omega)
    refine ⟨parts t m (cnt t.size m), num, 0, ?_, fun h => absurd rfl h, fun _ => ⟨rfl, by rw [parts_len]; exact f1, by rw [parts_len]; omega, cat_parts (by omega), ?_⟩⟩
    · rw [parts_len]
      exact Begin_eq num (by omega) (by omega) (by omega) (by omega) (by omega)
    · intro i
      by_cases hi : i < cnt t.size m
      · have h1 := parts_rd t m (cnt t.size m) i hi
        rw [rdS] at h1
        rw [h1]
        exact Nat.le_trans (pt_size ..) hN
      · rw [List.getD_eq_getElem?_getD, List.getElem?_eq_none (by rw [parts_len]; omega)]
        exact Nat.zero_le _
/-- How many are left. -/
theorem lft_count {D : List Bool} {n : Nat} (h : D.length = n) : (lft D n).length + D.countP id = n := by
  have h1 : D = (List.range n).map (fun i => D.getD i false) := by
    apply List.ext_getElem
    · simp [h]
    · intro i h2 h3
      simp [List.getD_eq_getElem?_getD, List.getElem?_eq_getElem h2]
  have h2 : D.countP id = (List.range n).countP (fun i => D.getD i false) := by
    conv => lhs; rw [h1]
    rw [List.countP_map]
    rfl
  have h3 : (lft D n).length = (List.range n).countP (fun i => !D.getD i false) := by
    unfold lft
    rw [List.countP_eq_length_filter]
  have h4 := List.length_eq_countP_add_countP (fun i => D.getD i false) (l := List.range n)
  rw [List.length_range] at h4
  have h5 : (List.range n).countP (fun i => !D.getD i false) = (List.range n).countP (fun a => decide ¬D.getD a false = true) := by
    congr 1
    funext i
    cases D.getD i false <;> rfl
  omega
theorem all_count {D : List Bool} : (D.any (fun b => !b) = false) ↔ D.countP id = D.length := by
  rw [List.countP_eq_length]
  constructor
  · intro h a ha
    have := List.any_eq_false.1 h a ha
    simpa using this
  · intro h
    rw [List.any_eq_false]
    intro a ha
    have := h a ha
    simpa using this
/-- The two states of a text that goes: the parts P, who came D, what came Q. -/
structure Rw (n : Nat) (T : ByteArray) (P : List ByteArray) (D : List Bool) (Q : List ByteArray) : Prop where
  p : P.length = n
  d : D.length = n
  q : Q.length = n
  low : 1 ≤ n
  high : n ≤ 301
  cat : cat P = T
  small : T.size ≤ 300
  size : ∀ i : Nat, (P.getD i ByteArray.empty).size ≤ 300
  same : ∀ i : Nat, i < n → D.getD i false = true → Q.getD i ByteArray.empty = P.getD i ByteArray.empty
theorem rw_begin {n : Nat} {T : ByteArray} {P : List ByteArray} (h1 : P.length = n) (h2 : 1 ≤ n) (h3 : n ≤ 301) (h4 : U.cat P = T) (h5 : T.size ≤ 300) (h6 : ∀ i : Nat, (P.getD i ByteArray.empty).size ≤ 300) : Rw n T P (List.replicate n false) (List.replicate n ⟨#[]⟩) :=
  ⟨h1, List.length_replicate .., List.length_replicate .., h2, h3, h4, h5, h6, fun i hi h => by rw [List.getD_eq_getElem?_getD, List.getElem?_replicate, if_pos hi] at h; simp at h⟩
theorem miss_any (num : Int) {n : Nat} {Q : List ByteArray} {D : List Bool} (hq : Q.length = n) (hd : D.length = n) (hn : n ≤ 512) : recv_Missing.f 2000 num Q D = some ((n : Int) - (D.countP id : Int)) := by
  unfold recv_Missing.f
  have h5 : D.countP id ≤ D.length := List.countP_le_length
  have := miss_loop num (P := Q) hd hn n 0 2000 (n : Int) (by omega) (by omega) (by omega) (by rw [List.drop_zero]; omega) (by omega)
  rw [hq]
  rw [List.drop_zero] at this
  exact this
/-- One of the text's own parts comes. -/
theorem take_own {n : Nat} {T : ByteArray} {P : List ByteArray} {D : List Bool} {Q : List ByteArray} (h : Rw n T P D Q) (num : Int) (j : Nat) (hj : j < n) :
    ∃ Q' is, recv_Take.f 2000 num Q D num (j : Int) (n : Int) (P.getD j ByteArray.empty) = some (num, Q', D.set j true, is, 0) ∧ Rw n T P (D.set j true) Q' ∧ ((D.set j true).countP id : Int) = (D.countP id : Int) + (if is = true then 1 else 0) ∧ ∀ i : Nat, D.getD i false = true → (D.set j true).getD i false = true := by
  have h1 : 1 ≤ Q.length := by rw [h.q]; exact h.low
  have h2 : D.length = Q.length := by rw [h.q, h.d]
  have hx : (P.getD j ByteArray.empty).size ≤ 4096 := Nat.le_trans (h.size j) (by omega)
  have hjq : j < Q.length := by rw [h.q]; exact hj
  have keep : ∀ i : Nat, D.getD i false = true → (D.set j true).getD i false = true := by
    intro i hi
    rw [getD_set]
    by_cases e : j = i ∧ j < D.length
    · rw [if_pos e]
    · rw [if_neg e]; exact hi
  by_cases e : D.getD j false = true
  · have hs : D.set j true = D := by
      apply List.ext_getElem
      · simp
      · intro i a b
        by_cases hij : j = i
        · subst hij
          rw [List.getD_eq_getElem?_getD, List.getElem?_eq_getElem b] at e
          simp at e
          simp [e]
        · simp [List.getElem_set, hij]
    have hT := Take_there (k := 2000) (num := num) (by omega) h1 h2 hjq hx e
    rw [h.same j hj e, if_pos rfl, h.q] at hT
    refine ⟨Q, false, by rw [hs]; exact hT, by rw [hs]; exact h, by rw [hs]; simp, keep⟩
  · have e' : D.getD j false = false := by simpa using e
    have hT := Take_new (k := 2000) (num := num) (by omega) h1 (by have := h.high; rw [h.q]; omega) h2 hjq hx e'
    rw [h.q] at hT
    refine ⟨_, true, hT, ⟨h.p, by rw [List.length_set, h.d], by rw [List.length_set, h.q], h.low, h.high, h.cat, h.small, h.size, ?_⟩, ?_, keep⟩
    · intro i hi hdi
      by_cases hij : j = i
      · subst hij
        simp [List.getD_eq_getElem?_getD, hjq]
      · rw [getD_set, if_neg (fun q => hij q.1)] at hdi
        have := h.same i hi hdi
        rw [← this]
        simp [List.getD_eq_getElem?_getD, List.getElem?_set, hij]
    · rw [count_set (by rw [h.d]; exact hj) e', if_pos rfl]
      simp
theorem got_own {n : Nat} {T : ByteArray} {P : List ByteArray} {D : List Bool} {Q : List ByteArray} (h : Rw n T P D Q) (num : Int) (j : Nat) (hj : j < n) : send_Got.f num P D num (j : Int) = some (num, P, D.set j true, 0) := by
  have := Got_eq (num := num) (P := P) (at_ := (j : Int)) D (by rw [h.p]; have := h.high; omega) (by omega) (by rw [h.p]; omega)
  rw [norm_id (by rw [h.p, h.d]), Int.toNat_natCast] at this
  exact this
theorem whole_own {n : Nat} {T : ByteArray} {P : List ByteArray} {D : List Bool} {Q : List ByteArray} (h : Rw n T P D Q) (num : Int) : ∃ a ok, recv_Whole.f 2000 num Q D = some (a, ok) ∧ (ok = true → a = T) ∧ (ok = true ↔ D.countP id = n) := by
  have h1 : 1 ≤ Q.length := by rw [h.q]; exact h.low
  have h0 : Q.length ≤ 301 := by rw [h.q]; exact h.high
  have h2 : D.length = Q.length := by rw [h.q, h.d]
  by_cases e : D.any (fun b => !b) = true
  · refine ⟨_, _, Whole_no h1 (by omega) h2 (by omega) e, by simp, ?_⟩
    constructor
    · intro q; simp at q
    · intro q
      rw [← h.d] at q
      rw [all_count.2 q] at e
      simp at e
  · have e' : D.any (fun b => !b) = false := by simpa using e
    have hc := all_count.1 e'
    rw [h.d] at hc
    have hQ : Q = P := by
      apply List.ext_getElem
      · rw [h.q, h.p]
      · intro i a b
        have hd : D.getD i false = true := by
          have := (List.countP_eq_length.1 (all_count.1 e')) (D[i]'(by rw [h.d, ← h.q]; exact a)) (List.getElem_mem _)
          rw [List.getD_eq_getElem?_getD, List.getElem?_eq_getElem (by rw [h.d, ← h.q]; exact a), Option.getD_some]
          simpa using this
        have := h.same i (by rw [← h.q]; exact a) hd
        rwa [List.getD_eq_getElem?_getD, List.getElem?_eq_getElem a, Option.getD_some, List.getD_eq_getElem?_getD, List.getElem?_eq_getElem b, Option.getD_some] at this
    have hcat : U.cat Q = T := by rw [hQ]; exact h.cat
    have hl : (joined Q ⟨#[]⟩).length ≤ 140737488355328 := by
      have h5 : (U.cat Q).size = (joined Q ⟨#[]⟩).length := by show (joined Q ⟨#[]⟩).toArray.size = _; simp
      rw [hcat] at h5
      have := h.small
      omega
    refine ⟨_, _, Whole_yes h1 (by omega) h2 (by omega) e' hl, fun _ => hcat, ?_⟩
    simp [hc]
end Go.Proofs.Ytfonfdpimbnfaaa.U
