/- The document's Cut, the comparing of two lists of texts. -/
import Derived.Test.YtfonfdpimbnfaaaGQx7
import Derived.Test.YtfonfdpimbnfaaaGQx8
import Derived.Test.YtfonfdpimbnfaaaUGot
set_option linter.unusedVariables false
namespace Go.Proofs.Ytfonfdpimbnfaaa.U
open Go.RowKit Go.Proofs.YtfonfdpimbnfaaaW.PrintWords Go.Proofs.YtfonfdpimbnfaaaW.PrintLast Go.Proofs.YtfonfdpimbnfaaaW.PrintMore Go.Proofs.Ytfonfdpimbnfaaa.GQ Go.Proofs.Ytfonfdpimbnfaaa.GGot
theorem toList_nil {t : ByteArray} : (t.toList != ([] : List UInt8)) = decide (0 < t.size) := by
  have h : t.toList.length = t.size := by rw [ByteArray.toList_eq]; simp
  by_cases e : t.toList = []
  · rw [e] at h
    rw [e, decide_eq_false (by simp at h; omega)]
    rfl
  · have : t.toList.length ≠ 0 := fun hh => e (List.eq_nil_of_length_eq_zero hh)
    rw [decide_eq_true (by omega)]
    exact bne_iff_ne.mpr e
theorem rcut_step {t : ByteArray} {m j : Nat} (hm : 1 ≤ m) (h : j * m ≤ t.size) (hj : j < 100000) (k : Nat) : tillerref20_Cut.j2 (k + 1) (t.extract (min (j * m) t.size) t.size) (m : Int) (parts t m j) true = tillerref20_Cut.l0 k (t.extract (min ((j + 1) * m) t.size) t.size) (m : Int) (parts t m (j + 1)) := by
  have hs : (j + 1) * m = j * m + m := by rw [Nat.add_mul, Nat.one_mul]
  have hz : (t.extract (j * m) t.size).size = t.size - j * m := by rw [ByteArray.size_extract]; omega
  simp only [tillerref20_Cut.j2, if_true]
  rw [Nat.min_eq_left h, hz, parts_len, hs]
  by_cases c : m > t.size - j * m
  · have e1 : t.extract (j * m) t.size = pt t m j := by unfold pt; rw [Nat.min_eq_right (by omega)]
    have e2 : (t.extract (j * m) t.size).extract ((t.size - j * m : Nat) : Int).toNat (t.size - j * m) = t.extract (min (j * m + m) t.size) t.size := by
      rw [Int.toNat_natCast, ByteArray.extract_extract]
      congr 1 <;> omega
    rw [if_pos (by omega), if_pos (by omega), if_pos (by omega), if_pos (by omega), e2, e1, parts_succ]
  · have e1 : (t.extract (j * m) t.size).extract 0 (m : Int).toNat = pt t m j := by
      unfold pt
      rw [Int.toNat_natCast, ByteArray.extract_extract]
      congr 1
    have e2 : (t.extract (j * m) t.size).extract (m : Int).toNat (t.size - j * m) = t.extract (min (j * m + m) t.size) t.size := by
      rw [Int.toNat_natCast, ByteArray.extract_extract]
      congr 1 <;> omega
    rw [if_neg (by omega), if_pos (by omega), if_pos (by omega), if_pos (by omega), e1, e2, parts_succ]
theorem rcut_loop {t : ByteArray} {m : Nat} (hm : 1 ≤ m) (hN : t.size ≤ 4000) : ∀ (d j k : Nat), cnt t.size m - j = d → j ≤ cnt t.size m → 2 * d + 2 ≤ k → tillerref20_Cut.l0 k (t.extract (min (j * m) t.size) t.size) (m : Int) (parts t m j) = some (parts t m (cnt t.size m), 0) := by
  obtain ⟨f1, f2, f3, f4, f5⟩ := cnt_facts (N := t.size) hm
  intro d
  induction d with
  | zero =>
    intro j k hd hj hk
    obtain ⟨k, rfl⟩ := succ_of_lt (show 0 < k by omega)
    obtain ⟨k, rfl⟩ := succ_of_lt (show 0 < k by omega)
    obtain rfl : j = cnt t.size m := by omega
    simp only [tillerref20_Cut.l0]
    rw [if_neg (by rw [parts_len]; omega), toList_nil, Nat.min_eq_right f2, decide_eq_false (by rw [ByteArray.size_extract]; omega)]
    simp only [tillerref20_Cut.j2, Bool.false_eq_true, if_false]
  | succ d ih =>
    intro j k hd hj hk
    obtain ⟨k, rfl⟩ := succ_of_lt (show 0 < k by omega)
    obtain ⟨k, rfl⟩ := succ_of_lt (show 0 < k by omega)
    have hle : j * m ≤ t.size := by
      rcases Nat.eq_zero_or_pos j with h | h
      · subst h; omega
      · exact Nat.le_of_lt (cnt_lt hm h (by omega))
    have next := ih (j + 1) k (by omega) (by omega) (by omega)
    rw [← rcut_step hm hle (by omega)] at next
    simp only [tillerref20_Cut.l0]
    rw [parts_len]
    rcases Nat.eq_zero_or_pos j with h | h
    · rw [if_pos (by omega), next]
    · have := cnt_lt hm h (show j < cnt t.size m by omega)
      rw [if_neg (by omega), toList_nil, decide_eq_true (by rw [ByteArray.size_extract]; omega), next]
theorem rCut_eq {k : Nat} {t : ByteArray} {m : Nat} (hm : 1 ≤ m) (hm2 : m ≤ 4096) (hN : t.size ≤ 4000) (hN2 : t.size ≤ 512 * m) (hk : 10000 ≤ k) : tillerref20_Cut.f k t (m : Int) = some (parts t m (cnt t.size m), 0) := by
  obtain ⟨f1, f2, f3, f4, f5⟩ := cnt_facts (N := t.size) hm
  obtain ⟨k, rfl⟩ := succ_of_lt (show 0 < k by omega)
  unfold tillerref20_Cut.f
  rw [if_neg (by omega), if_neg (by omega), w64 (by omega) (by omega), decide_eq_false (by omega)]
  simp only [tillerref20_Cut.j0, Bool.false_eq_true, if_false]
  have := rcut_loop hm hN (cnt t.size m) 0 k (by omega) (by omega) (by omega)
  simpa [parts] using this
theorem rCut_bad {k : Nat} (hk : 1 ≤ k) (t : ByteArray) {a : Int} (h : a < 1 ∨ a > 4096 ∨ (t.size : Int) > 512 * a) : ∃ e, tillerref20_Cut.f k t a = some ([], e) ∧ e ≠ 0 ∧ send_Cut.f k t a = some ([], e) := by
  by_cases h1 : a < 1
  · exact ⟨1, by unfold tillerref20_Cut.f; rw [if_pos h1], by omega, Cut20_bad1 k t h1⟩
  · refine ⟨2, ?_, by omega, Cut20_bad2 hk t (by omega) (by omega)⟩
    obtain ⟨k, rfl⟩ := succ_of_lt (show 0 < k by omega)
    unfold tillerref20_Cut.f
    rw [if_neg h1]
    by_cases h2 : a > 4096
    · rw [if_pos h2]
      simp only [tillerref20_Cut.j0, if_true]
    · rw [if_neg h2, w64 (by omega) (by omega), decide_eq_true (show (t.size : Int) > 512 * a by omega)]
      simp only [tillerref20_Cut.j0, if_true]
theorem texts_loop (P : List ByteArray) (hP : P.length ≤ 100000) : ∀ (d i k : Nat), P.length - i = d → i ≤ P.length → d + 1 ≤ k → tillerlaw20_Texts.l0 k P P (P.length : Int) (i : Int) = some 0 := by
  intro d
  induction d with
  | zero =>
    intro i k hd hi hk
    obtain ⟨k, rfl⟩ := succ_of_lt (show 0 < k by omega)
    simp only [tillerlaw20_Texts.l0]
    rw [if_neg (by omega)]
  | succ d ih =>
    intro i k hd hi hk
    obtain ⟨k, rfl⟩ := succ_of_lt (show 0 < k by omega)
    have next := ih (i + 1) k (by omega) (by omega) (by omega)
    simp only [tillerlaw20_Texts.l0]
    rw [if_pos (by omega), if_pos (by omega), if_pos (by omega), if_pos (by omega), if_pos trivial, w64 (x := (i : Int) + 1) (by omega) (by omega), ← Int.natCast_one, ← Int.natCast_add, next]
theorem Texts_eq {k : Nat} (P : List ByteArray) (hP : P.length ≤ 100000) (hk : P.length + 1 ≤ k) : tillerlaw20_Texts.f k P P = some 0 := by
  unfold tillerlaw20_Texts.f
  rw [if_pos rfl]
  exact texts_loop P hP P.length 0 k (by omega) (by omega) (by omega)
/-- How a text's sending begins, whatever its size and the parts'. -/
theorem begin_any (num a : Int) (t : ByteArray) (hN : t.size ≤ 3000) : ∃ (P : List ByteArray) (num0 e : Int), send_Cut.f 10000 t a = some (P, e) ∧ send_Begin.f 10000 num t a = some (num0, P, List.replicate P.length false, e) ∧ tillerref20_Cut.f 10000 t a = some (P, e) ∧ P.length ≤ 3001 ∧ (e ≠ 0 → P = [] ∧ num0 = 0) ∧ (e = 0 → num0 = num ∧ 1 ≤ P.length) := by
  by_cases h : a < 1 ∨ a > 4096 ∨ (t.size : Int) > 512 * a
  · obtain ⟨e, h1, h2, h3⟩ := rCut_bad (k := 10000) (by omega) t h
    obtain ⟨e', h4, h5, h6⟩ := Begin_bad (k := 10000) (by omega) num t h
    rw [h3] at h6
    simp only [Option.some.injEq, Prod.mk.injEq, true_and] at h6
    subst h6
    exact ⟨[], 0, e, h3, h4, h1, by simp, fun _ => ⟨rfl, rfl⟩, fun e0 => absurd e0 h2⟩
  · obtain ⟨m, rfl⟩ : ∃ m : Nat, a = (m : Int) := ⟨a.toNat, by omega⟩
    obtain ⟨f1, f2, f3, f4, f5⟩ := cnt_facts (N := t.size) (m := m) (by omega)
    refine ⟨parts t m (cnt t.size m), num, 0, Cut20_eq (by omega) (by omega) (by omega) (by omega) (by omega), ?_, rCut_eq (by omega) (by omega) (by omega) (by omega) (by omega), by rw [parts_len]; omega, fun h => absurd rfl h, fun _ => ⟨rfl, by rw [parts_len]; exact f1⟩⟩
    rw [parts_len]
    exact Begin_eq num (by omega) (by omega) (by omega) (by omega) (by omega)
end Go.Proofs.Ytfonfdpimbnfaaa.U
