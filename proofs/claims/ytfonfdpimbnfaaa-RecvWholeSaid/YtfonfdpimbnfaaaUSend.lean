/- Layer 20, as plain lists: a text's parts. -/
import Derived.Test.YtfonfdpimbnfaaaGQx2
import Derived.Test.YtfonfdpimbnfaaaUMath
set_option linter.unusedVariables false
namespace Go.Proofs.Ytfonfdpimbnfaaa.U
open Go.RowKit Go.Proofs.YtfonfdpimbnfaaaW.PrintWords Go.Proofs.YtfonfdpimbnfaaaW.PrintMore Go.Proofs.Ytfonfdpimbnfaaa.GQ
theorem Cut14_eq (t : ByteArray) (n : Nat) : tillerlaw14_Cut.f t (n : Int) = some (if t.size ≤ n then t else t.extract 0 n) := by
  unfold tillerlaw14_Cut.f
  by_cases h : t.size ≤ n
  · rw [if_neg (by omega), if_pos h]
  · rw [if_pos (by omega), if_pos (by omega), if_pos (by omega), if_neg h, Int.toNat_natCast]
theorem Cut14_size (t : ByteArray) (n : Nat) : (if t.size ≤ n then t else t.extract 0 n).size ≤ n := by
  split
  · assumption
  · rw [ByteArray.size_extract]; omega
/-- One part. -/
def pt (t : ByteArray) (m j : Nat) : ByteArray := t.extract (j * m) (min (j * m + m) t.size)
/-- The first parts. -/
def parts (t : ByteArray) (m n : Nat) : List ByteArray := (List.range n).map (pt t m)
/-- How many parts there are. -/
def cnt (N m : Nat) : Nat := if N = 0 then 1 else (N + m - 1) / m
theorem parts_len (t : ByteArray) (m n : Nat) : (parts t m n).length = n := by simp [parts]
theorem parts_succ (t : ByteArray) (m n : Nat) : parts t m (n + 1) = parts t m n ++ [pt t m n] := by simp [parts, List.range_succ]
theorem parts_rd (t : ByteArray) (m n i : Nat) (h : i < n) : rdOf ByteArray.empty (parts t m n) (i : Int) = pt t m i := by
  unfold rdOf parts
  rw [Int.toNat_natCast, List.getD_eq_getElem?_getD, List.getElem?_map, List.getElem?_range h]
  rfl
theorem cnt_facts {N m : Nat} (hm : 1 ≤ m) : 1 ≤ cnt N m ∧ N ≤ cnt N m * m ∧ (0 < N → (cnt N m - 1) * m < N) ∧ (N = 0 → cnt N m = 1) ∧ cnt N m ≤ N + 1 := by
  unfold cnt
  split
  · subst_vars
    simp
  · rename_i h
    have h1 := Nat.div_add_mod (N + m - 1) m
    have h2 := Nat.mod_lt (N + m - 1) (show 0 < m by omega)
    generalize hq : (N + m - 1) / m = q at *
    have h3 : q * m = m * q := Nat.mul_comm _ _
    have h5 : 1 ≤ q := by
      rcases Nat.eq_zero_or_pos q with h0 | h0
      · subst h0
        rw [Nat.mul_zero] at h1
        omega
      · exact h0
    have h4 : (q - 1) * m = m * q - m := by rw [Nat.sub_mul, Nat.one_mul, h3]
    have h6 : m ≤ m * q := Nat.le_mul_of_pos_right m h5
    have h7 : q ≤ N := by
      have : q ≤ m * q := Nat.le_mul_of_pos_left q hm
      rcases Nat.lt_or_ge N q with hlt | hge
      · exfalso
        have : (N + 1) * 1 ≤ q * m := Nat.mul_le_mul hlt hm
        have h8 : m * (N + 1) ≤ m * q := Nat.mul_le_mul_left m hlt
        rw [Nat.mul_add, Nat.mul_one] at h8
        have h9 : N ≤ m * N := Nat.le_mul_of_pos_left N hm
        omega
      · exact hge
    refine ⟨h5, by omega, fun _ => by omega, fun h0 => by omega, by omega⟩
theorem cnt_lt {N m j : Nat} (hm : 1 ≤ m) (h1 : 1 ≤ j) (hj : j < cnt N m) : j * m < N := by
  obtain ⟨f1, f2, f3, f4, _⟩ := cnt_facts (N := N) hm
  have hN : 0 < N := by
    rcases Nat.eq_zero_or_pos N with h | h
    · have := f4 h
      omega
    · exact h
  exact Nat.lt_of_le_of_lt (Nat.mul_le_mul_right m (show j ≤ cnt N m - 1 by omega)) (f3 hN)
theorem cut_loop {t : ByteArray} {m : Nat} (hm : 1 ≤ m) (hm2 : m ≤ 4096) (hN : t.size ≤ 4000) : ∀ (d j k : Nat), cnt t.size m - j = d → 1 ≤ j → j ≤ cnt t.size m → d + 1 ≤ k → send_Cut.l0 k t (m : Int) (parts t m j) ((j * m : Nat) : Int) = some (parts t m (cnt t.size m), 0) := by
  obtain ⟨f1, f2, f3, f4, f5⟩ := cnt_facts (N := t.size) hm
  intro d
  induction d with
  | zero =>
    intro j k hd h1 hj hk
    obtain ⟨k, rfl⟩ := succ_of_lt (show 0 < k by omega)
    obtain rfl : j = cnt t.size m := by omega
    simp only [send_Cut.l0]
    rw [if_neg (by omega)]
  | succ d ih =>
    intro j k hd h1 hj hk
    obtain ⟨k, rfl⟩ := succ_of_lt (show 0 < k by omega)
    have hlt := cnt_lt hm h1 (show j < cnt t.size m by omega)
    have hs : (j + 1) * m = j * m + m := by rw [Nat.add_mul, Nat.one_mul]
    have e1 : ((j * m : Nat) : Int) + (m : Int) = ((j * m + m : Nat) : Int) := by omega
    have e2 : mn ((j * m + m : Nat) : Int) (t.size : Int) = ((min (j * m + m) t.size : Nat) : Int) := by unfold mn; split <;> omega
    simp only [send_Cut.l0]
    rw [if_pos (by omega), if_pos (by omega), e1, w64 (x := ((j * m + m : Nat) : Int)) (by omega) (by omega), e2, if_pos (by omega), if_pos (by omega), parts_len, if_pos (by omega), Int.toNat_natCast, Int.toNat_natCast, ← hs]
    have := ih (j + 1) k (by omega) (by omega) (by omega) (by omega)
    rw [parts_succ] at this
    unfold pt at this
    rw [← hs] at this
    exact this
theorem Cut20_bad1 (k : Nat) (t : ByteArray) {a : Int} (h : a < 1) : send_Cut.f k t a = some ([], 1) := by
  unfold send_Cut.f
  rw [if_pos h]
theorem Cut20_bad2 {k : Nat} (hk : 1 ≤ k) (t : ByteArray) {a : Int} (h1 : 1 ≤ a) (h2 : a > 4096 ∨ (t.size : Int) > 512 * a) : send_Cut.f k t a = some ([], 2) := by
  obtain ⟨k, rfl⟩ := succ_of_lt (show 0 < k by omega)
  unfold send_Cut.f
  rw [if_neg (by omega)]
  by_cases h : a > 4096
  · rw [if_pos h]
    simp only [send_Cut.j0, if_true]
  · rw [if_neg h, w64 (by omega) (by omega), decide_eq_true (show (t.size : Int) > a * 512 by omega)]
    simp only [send_Cut.j0, if_true]
theorem Cut20_eq {k : Nat} {t : ByteArray} {m : Nat} (hm : 1 ≤ m) (hm2 : m ≤ 4096) (hN : t.size ≤ 4000) (hN2 : t.size ≤ 512 * m) (hk : 5000 ≤ k) : send_Cut.f k t (m : Int) = some (parts t m (cnt t.size m), 0) := by
  obtain ⟨f1, f2, f3, f4, f5⟩ := cnt_facts (N := t.size) hm
  obtain ⟨k, rfl⟩ := succ_of_lt (show 0 < k by omega)
  have e2 : mn (m : Int) (t.size : Int) = ((min m t.size : Nat) : Int) := by unfold mn; split <;> omega
  unfold send_Cut.f
  rw [if_neg (by omega), if_neg (by omega), w64 (by omega) (by omega), decide_eq_false (by omega)]
  simp only [send_Cut.j0, Bool.false_eq_true, if_false]
  rw [e2, if_pos (by omega), if_pos (by omega), Int.toNat_natCast]
  have := cut_loop hm hm2 hN (cnt t.size m - 1) 1 k rfl (by omega) f1 (by omega)
  simpa [parts, pt] using this
end Go.Proofs.Ytfonfdpimbnfaaa.U
