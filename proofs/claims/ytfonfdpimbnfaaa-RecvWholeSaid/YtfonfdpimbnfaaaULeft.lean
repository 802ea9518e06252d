/- Layer 20, as plain lists: what is left, what comes next, and what a part that came turns. -/
import Derived.Test.YtfonfdpimbnfaaaGQx2
import Derived.Test.YtfonfdpimbnfaaaGQx3
import Derived.Test.YtfonfdpimbnfaaaGQx4
import Derived.Test.YtfonfdpimbnfaaaUSend
set_option linter.unusedVariables false
namespace Go.Proofs.Ytfonfdpimbnfaaa.U
open Go.RowKit Go.Proofs.YtfonfdpimbnfaaaW.PrintWords Go.Proofs.YtfonfdpimbnfaaaW.PrintMore Go.Proofs.Ytfonfdpimbnfaaa.GQ
/-- The places that aren't known to have come. -/
def lft (came : List Bool) (n : Nat) : List Nat := (List.range n).filter fun i => !(came.getD i false)
theorem lft_succ (came : List Bool) (n : Nat) : lft came (n + 1) = lft came n ++ (if came.getD n false = true then [] else [n]) := by
  unfold lft
  rw [List.range_succ, List.filter_append]
  cases h : came.getD n false <;> simp only [List.getD_eq_getElem?_getD] at h ⊢ <;> simp [h]
theorem lft_len (came : List Bool) (n : Nat) : (lft came n).length ≤ n := by
  have := List.length_filter_le (fun i => !(came.getD i false)) (List.range n)
  rw [List.length_range] at this
  exact this
theorem lft_mem {came : List Bool} {n j : Nat} (h : j ∈ lft came n) : j < n ∧ came.getD j false = false := by
  unfold lft at h
  rw [List.mem_filter, List.mem_range] at h
  exact ⟨h.1, by simpa using h.2⟩
theorem lft_all (n : Nat) : ∀ (m : Nat), (lft (List.replicate n false) m).length = m := by
  intro m
  induction m with
  | zero => rfl
  | succ m ih =>
    rw [lft_succ, if_neg (by rw [List.getD_eq_getElem?_getD, List.getElem?_replicate]; split <;> simp)]
    simp [ih]
theorem getD_set (came : List Bool) (a j : Nat) : (came.set a true).getD j false = if a = j ∧ a < came.length then true else came.getD j false := by
  rw [List.getD_eq_getElem?_getD, List.getD_eq_getElem?_getD, List.getElem?_set]
  by_cases h : a = j
  · subst h
    by_cases h2 : a < came.length
    · simp [h2]
    · simp [h2]
  · simp [h]
theorem lft_set {came : List Bool} {a : Nat} (ha : a < came.length) (h : came.getD a false = false) : ∀ n, (lft (came.set a true) n).length + (if a < n then 1 else 0) = (lft came n).length := by
  intro n
  induction n with
  | zero => rfl
  | succ n ih =>
    by_cases h1 : a = n
    · subst h1
      rw [lft_succ, lft_succ, List.length_append, List.length_append, getD_set, if_pos (show a = a ∧ a < came.length from ⟨rfl, ha⟩), if_pos rfl, if_neg (show ¬ came.getD a false = true by rw [h]; decide), if_pos (by omega)]
      rw [if_neg (by omega)] at ih
      simp only [List.length_nil, List.length_singleton]
      omega
    · have key : (came.set a true).getD n false = came.getD n false := by rw [getD_set, if_neg (by omega)]
      rw [lft_succ, lft_succ, key, List.length_append, List.length_append]
      by_cases h2 : a < n
      · rw [if_pos h2] at ih
        rw [if_pos (show a < n + 1 by omega)]
        omega
      · rw [if_neg h2] at ih
        rw [if_neg (show ¬ a < n + 1 by omega)]
        omega
def ints (l : List Nat) : List Int := l.map fun (i : Nat) => (i : Int)
theorem ints_len (l : List Nat) : (ints l).length = l.length := by simp [ints]
theorem left_loop (num : Int) (P : List ByteArray) (came : List Bool) (hP : P.length ≤ 100000) : ∀ (d i k : Nat), P.length - i = d → i ≤ P.length → d + 1 ≤ k → send_Left.l0 k (ints (lft came i)) (P.length : Int) (i : Int) num P came = some (ints (lft came P.length)) := by
  intro d
  induction d with
  | zero =>
    intro i k hd hi hk
    obtain ⟨k, rfl⟩ := succ_of_lt (show 0 < k by omega)
    obtain rfl : i = P.length := by omega
    simp only [send_Left.l0]
    rw [if_neg (by omega)]
  | succ d ih =>
    intro i k hd hi hk
    obtain ⟨k, rfl⟩ := succ_of_lt (show 0 < k by omega)
    have hl := lft_len came i
    have next := ih (i + 1) k (by omega) (by omega) (by omega)
    rw [lft_succ, Int.natCast_add, Int.natCast_one] at next
    simp only [send_Left.l0]
    rw [if_pos (by omega), w64 (x := (i : Int) + 1) (by omega) (by omega), ints_len]
    by_cases h1 : (i : Int) ≥ (came.length : Int)
    · rw [if_neg (show ¬ came.getD i false = true by rw [List.getD_eq_getElem?_getD, List.getElem?_eq_none (by omega)]; decide)] at next
      rw [if_pos h1, if_pos (by omega)]
      simpa [ints] using next
    · rw [if_neg h1, if_pos (by omega), if_pos (by omega)]
      have e : rdOf false came (i : Int) = came.getD i false := by unfold rdOf; rw [Int.toNat_natCast]
      rw [e]
      by_cases h2 : came.getD i false = true
      · rw [if_pos h2, List.append_nil] at next
        rw [if_pos h2]
        exact next
      · rw [if_neg h2] at next
        rw [if_neg h2, if_pos (by omega)]
        simpa [ints] using next
theorem Left_eq {k : Nat} (num : Int) {P : List ByteArray} (came : List Bool) (hP : P.length ≤ 100000) (hk : P.length + 1 ≤ k) : send_Left.f k num P came = some (ints (lft came P.length)) := by
  unfold send_Left.f
  exact left_loop num P came hP P.length 0 k (by omega) (by omega) hk
/-- One of the parts that go. -/
def prt (num : Int) (P : List ByteArray) (j : Nat) : S46 := ⟨num, (j : Int), (P.length : Int), rdOf ByteArray.empty P (j : Int)⟩
theorem rd_ints {l : List Nat} {i : Nat} (h : i < l.length) : rd (ints l) (i : Int) = (l[i] : Int) := by
  rw [rd_nat (show i < (ints l).length by rw [ints_len]; exact h)]
  simp [ints]
theorem next_loop (num : Int) (P : List ByteArray) (came : List Bool) (most : Int) (L : List Nat) (hL : ∀ j ∈ L, j < P.length) (hl : L.length ≤ 100000) : ∀ (d i k : Nat), L.length - i = d → i ≤ L.length → i ≤ most.toNat → d + 1 ≤ k → send_Next.l0 k most ((L.take i).map (prt num P)) (ints L) (L.length : Int) (i : Int) num P came = some ((L.take most.toNat).map (prt num P)) := by
  intro d
  induction d with
  | zero =>
    intro i k hd hi hm hk
    obtain ⟨k, rfl⟩ := succ_of_lt (show 0 < k by omega)
    obtain rfl : i = L.length := by omega
    simp only [send_Next.l0]
    rw [if_neg (by omega), List.take_of_length_le (by omega), List.take_of_length_le (by omega)]
  | succ d ih =>
    intro i k hd hi hm hk
    obtain ⟨k, rfl⟩ := succ_of_lt (show 0 < k by omega)
    have hlen : ((L.take i).map (prt num P)).length = i := by rw [List.length_map, List.length_take]; omega
    simp only [send_Next.l0]
    rw [if_pos (by omega), if_pos (by omega), ints_len, if_pos (by omega), hlen]
    by_cases h1 : (i : Int) ≥ most
    · rw [if_pos h1, show most.toNat = i by omega]
    · have hj := hL L[i] (List.getElem_mem (by omega))
      have next := ih (i + 1) k (by omega) (by omega) (by omega) (by omega)
      rw [if_neg h1, rd_ints (show i < L.length by omega), if_pos (by omega), if_pos (by omega), if_pos (by omega), w64 (x := (i : Int) + 1) (by omega) (by omega)]
      rw [List.take_succ_eq_append_getElem (by omega), List.map_append, Int.natCast_add, Int.natCast_one] at next
      exact next
theorem Next_eq {k : Nat} (num : Int) {P : List ByteArray} (came : List Bool) (most : Int) (hP : P.length ≤ 100000) (hk : P.length + 2 ≤ k) : send_Next.f k num P came most = some (((lft came P.length).take most.toNat).map (prt num P)) := by
  have hl := lft_len came P.length
  unfold send_Next.f
  rw [Left_eq num came hP (by omega), Option.bind_some, ints_len]
  exact next_loop num P came most _ (fun j hj => (lft_mem hj).1) (by omega) _ 0 k rfl (by omega) (by omega) (by omega)
theorem Begin_eq {k : Nat} (num : Int) {t : ByteArray} {m : Nat} (hm : 1 ≤ m) (hm2 : m ≤ 4096) (hN : t.size ≤ 4000) (hN2 : t.size ≤ 512 * m) (hk : 5000 ≤ k) : send_Begin.f k num t (m : Int) = some (num, parts t m (cnt t.size m), List.replicate (cnt t.size m) false, 0) := by
  obtain ⟨f1, f2, f3, f4, f5⟩ := cnt_facts (N := t.size) hm
  unfold send_Begin.f
  rw [Cut20_eq hm hm2 hN hN2 hk, Option.bind_some, if_pos rfl, parts_len, if_pos (by omega), if_pos (by omega), Int.toNat_natCast]
theorem Begin_bad {k : Nat} (hk : 1 ≤ k) (num : Int) (t : ByteArray) {a : Int} (h : a < 1 ∨ a > 4096 ∨ (t.size : Int) > 512 * a) : ∃ e, send_Begin.f k num t a = some (0, [], [], e) ∧ e ≠ 0 ∧ send_Cut.f k t a = some ([], e) := by
  by_cases h1 : a < 1
  · refine ⟨1, ?_, by decide, Cut20_bad1 _ _ h1⟩
    unfold send_Begin.f
    rw [Cut20_bad1 _ _ h1, Option.bind_some, if_neg (by decide)]
  · have h2 := Cut20_bad2 hk t (show 1 ≤ a by omega) (by omega)
    refine ⟨2, ?_, by decide, h2⟩
    unfold send_Begin.f
    rw [h2, Option.bind_some, if_neg (by decide)]
end Go.Proofs.Ytfonfdpimbnfaaa.U
