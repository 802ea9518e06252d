/- The document's Left and Same; what is left behind one more part. -/
import Derived.Test.YtfonfdpimbnfaaaGQx8
import Derived.Test.YtfonfdpimbnfaaaGQx9
import Derived.Test.YtfonfdpimbnfaaaUGot
set_option linter.unusedVariables false
namespace Go.Proofs.Ytfonfdpimbnfaaa.U
open Go.RowKit Go.Proofs.YtfonfdpimbnfaaaW.PrintWords Go.Proofs.YtfonfdpimbnfaaaW.PrintLast Go.Proofs.YtfonfdpimbnfaaaW.PrintMore Go.Proofs.Ytfonfdpimbnfaaa.GQ Go.Proofs.Ytfonfdpimbnfaaa.GGot
theorem rLeft_loop (n : Nat) (came : List Bool) (hn : n ≤ 100000) : ∀ (d i k : Nat), n - i = d → i ≤ n → d + 1 ≤ k → tillerref20_Left.l0 k (n : Int) came (ints (lft came i)) (i : Int) = some (ints (lft came n)) := by
  intro d
  induction d with
  | zero =>
    intro i k hd hi hk
    obtain ⟨k, rfl⟩ := succ_of_lt (show 0 < k by omega)
    simp only [tillerref20_Left.l0]
    rw [if_neg (by omega), show i = n by omega]
  | succ d ih =>
    intro i k hd hi hk
    obtain ⟨k, rfl⟩ := succ_of_lt (show 0 < k by omega)
    have next := ih (i + 1) k (by omega) (by omega) (by omega)
    have hl := lft_len came i
    have hs := lft_succ came i
    simp only [tillerref20_Left.l0]
    rw [if_pos (show (i : Int) < (n : Int) by omega), w64 (x := (i : Int) + 1) (by omega) (by omega), ← Int.natCast_one, ← Int.natCast_add]
    have hb : (ints (lft came i)).length < 17592186044416 := by rw [ints_len]; omega
    have ha : came.getD i false = false → ints (lft came (i + 1)) = ints (lft came i) ++ [(i : Int)] := fun h => by rw [hs, if_neg (by rw [h]; decide)]; unfold ints; simp
    have ht : came.getD i false = true → ints (lft came (i + 1)) = ints (lft came i) := fun h => by rw [hs, if_pos h]; simp
    by_cases hc : (i : Int) < (came.length : Int)
    · rw [if_pos hc, if_pos (by omega)]
      have hr : rdOf false came (i : Int) = came.getD i false := by unfold rdOf; rw [Int.toNat_natCast]
      rw [hr]
      by_cases h : came.getD i false = true
      · rw [if_pos h, ← ht h, next]
      · rw [if_neg h, if_pos hb, ← ha (by simpa using h), next]
    · rw [if_neg hc, if_pos hb, ← ha (by rw [List.getD_eq_getElem?_getD, List.getElem?_eq_none (by omega)]; rfl), next]
theorem rLeft_eq {k : Nat} {n : Nat} (came : List Bool) (hn : n ≤ 100000) (hk : n + 1 ≤ k) : tillerref20_Left.f k (n : Int) came = some (ints (lft came n)) := by
  unfold tillerref20_Left.f
  exact rLeft_loop n came hn n 0 k (by omega) (by omega) (by omega)
theorem same10_loop {a b : List Int} (hl : a.length = b.length) (hn : a.length ≤ 1000000) : ∀ (d i k : Nat), a.length - i = d → i ≤ a.length → d + 1 ≤ k → tillerref10_Same.l0 k a b (a.length : Int) (i : Int) = some (decide (a.drop i = b.drop i)) := by
  intro d
  induction d with
  | zero =>
    intro i k hd hi hk
    obtain ⟨k, rfl⟩ := succ_of_lt (show 0 < k by omega)
    simp only [tillerref10_Same.l0]
    rw [if_neg (by omega), List.drop_of_length_le (by omega), List.drop_of_length_le (by omega)]; rfl
  | succ d ih =>
    intro i k hd hi hk
    obtain ⟨k, rfl⟩ := succ_of_lt (show 0 < k by omega)
    have h1 : i < a.length := by omega
    have h2 : i < b.length := by omega
    have := ih (i + 1) k (by omega) (by omega) (by omega)
    rw [Int.natCast_add, Int.natCast_one] at this
    have e1 : a.drop i = rd a (i : Int) :: a.drop (i + 1) := by
      rw [List.drop_eq_getElem_cons h1]; unfold rd; rw [Int.toNat_natCast, List.getD_eq_getElem?_getD, List.getElem?_eq_getElem h1]; rfl
    have e2 : b.drop i = rd b (i : Int) :: b.drop (i + 1) := by
      rw [List.drop_eq_getElem_cons h2]; unfold rd; rw [Int.toNat_natCast, List.getD_eq_getElem?_getD, List.getElem?_eq_getElem h2]; rfl
    simp only [tillerref10_Same.l0]
    rw [if_pos (by omega), if_pos (by omega), if_pos (by omega), if_pos (by omega), w64 (x := (i : Int) + 1) (by omega) (by omega), e1, e2, this]
    by_cases e : rd a i = rd b i
    · rw [if_pos e]; simp [e]
    · rw [if_neg e]; simp [e]
theorem same10 {k : Nat} (a : List Int) (hn : a.length ≤ 1000000) (hk : a.length + 1 ≤ k) : tillerref10_Same.f k a a = some true := by
  unfold tillerref10_Same.f
  have := same10_loop (a := a) (b := a) rfl hn a.length 0 k (by omega) (by omega) (by omega)
  rw [Int.natCast_zero] at this
  rw [if_pos rfl, this]
  simp
theorem norm_get (came : List Bool) (n j : Nat) (hj : j < n) : (norm came n).getD j false = came.getD j false := by
  unfold norm cpy
  rw [List.getD_eq_getElem?_getD, List.getD_eq_getElem?_getD]
  by_cases h : j < min came.length (List.replicate n false).length
  · rw [List.getElem?_append_left (by rw [List.length_take]; omega), List.getElem?_take_of_lt h]
  · rw [List.length_replicate] at h
    rw [List.getElem?_append_right (by rw [List.length_take, List.length_replicate]; omega), List.getElem?_drop, List.length_take, List.length_replicate, List.getElem?_replicate, if_pos (by omega), List.getElem?_eq_none (l := came) (by omega)]
    rfl
/-- Behind one more part just that one is no more left. -/
theorem lft_rest (came : List Bool) (n a : Nat) (ha : a < n) : lft ((norm came n).set a true) n = (lft came n).filter (fun i => !decide (i = a)) := by
  unfold lft
  rw [List.filter_filter]
  apply List.filter_congr
  intro i hi
  have hin : i < n := List.mem_range.1 hi
  rw [getD_set, norm_len, norm_get came n i hin]
  by_cases h : a = i
  · subst h; rw [if_pos ⟨rfl, ha⟩]; simp
  · rw [if_neg (fun q => h q.1)]
    have : ¬ i = a := fun q => h q.symm
    simp [this]
end Go.Proofs.Ytfonfdpimbnfaaa.U
