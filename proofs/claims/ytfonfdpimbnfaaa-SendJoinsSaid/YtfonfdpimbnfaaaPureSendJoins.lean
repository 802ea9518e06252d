/- SendJoins: the pure statement. -/
import Derived.Test.YtfonfdpimbnfaaaGQx6
import Derived.Test.YtfonfdpimbnfaaaUSend
set_option linter.unusedVariables false
namespace Go.Proofs.Ytfonfdpimbnfaaa.Pure
open Go.RowKit Go.Proofs.YtfonfdpimbnfaaaW.PrintWords Go.Proofs.YtfonfdpimbnfaaaW.PrintLast Go.Proofs.YtfonfdpimbnfaaaW.PrintMore Go.Proofs.Ytfonfdpimbnfaaa.GQ Go.Proofs.Ytfonfdpimbnfaaa.U Go.Proofs.Ytfonfdpimbnfaaa.GGot Go.Proofs.Ytfonfdpimbnfaaa.GJoin
theorem pt_join {t : ByteArray} {m i : Nat} (h : i * m ≤ t.size) : t.extract 0 (min (i * m) t.size) ++ pt t m i = t.extract 0 (min ((i + 1) * m) t.size) := by
  unfold pt
  rw [Nat.min_eq_left h, ByteArray.extract_append_extract, Nat.add_mul, Nat.one_mul]
  congr 1 <;> omega
theorem joins_loop {t : ByteArray} {m : Nat} (hm : 1 ≤ m) (hm2 : m ≤ 4096) (hN : t.size ≤ 3000) (hN2 : t.size ≤ 512 * m) : ∀ (d i k : Nat), cnt t.size m - i = d → i ≤ cnt t.size m → d + 100 ≤ k →
    tillerlaw20_SendJoins.l0 k t (m : Int) (parts t m (cnt t.size m)) (t.extract 0 (min (i * m) t.size)) (parts t m (cnt t.size m)) (cnt t.size m : Int) (i : Int) = some true := by
  obtain ⟨f1, f2, f3, f4, f5⟩ := cnt_facts (N := t.size) hm
  intro d
  induction d with
  | zero =>
    intro i k hd hi hk
    obtain ⟨k, rfl⟩ := succ_of_lt (show 0 < k by omega)
    obtain rfl : i = cnt t.size m := by omega
    have hc : cnt t.size m ≤ 512 := by
      rcases Nat.lt_or_ge 512 (cnt t.size m) with h | h
      · have := cnt_lt hm (show 1 ≤ 512 by omega) h
        omega
      · exact h
    simp only [tillerlaw20_SendJoins.l0]
    rw [if_neg (by omega), awake20 (by omega), Option.bind_some, if_pos rfl, Nat.min_eq_right f2, ByteArray.extract_zero_size, if_pos rfl, parts_len, if_pos (by omega), decide_eq_true (by omega)]
  | succ d ih =>
    intro i k hd hi hk
    obtain ⟨k, rfl⟩ := succ_of_lt (show 0 < k by omega)
    have hlt : i * m ≤ t.size := by
      rcases Nat.eq_zero_or_pos i with h | h
      · subst h; omega
      · exact Nat.le_of_lt (cnt_lt hm h (by omega))
    have hs : (i + 1) * m = i * m + m := by rw [Nat.add_mul, Nat.one_mul]
    have hp : (pt t m i).size = min (i * m + m) t.size - i * m := by
      unfold pt
      rw [ByteArray.size_extract]
      omega
    have hx : (t.extract 0 (min (i * m) t.size)).size ≤ t.size := by rw [ByteArray.size_extract]; omega
    have next := ih (i + 1) k (by omega) (by omega) (by omega)
    rw [← pt_join hlt, Int.natCast_add, Int.natCast_one] at next
    have hE : (pt t m i).toList = [] → t.toList = [] := by
      intro he
      have h0 : (pt t m i).size = 0 := by
        rw [ByteArray.toList_eq] at he
        have := congrArg List.length he
        simpa using this
      have hz : t.size = 0 := by
        rcases Nat.eq_zero_or_pos t.size with h | h
        · exact h
        · exfalso
          rcases Nat.eq_zero_or_pos i with h1 | h1
          · subst h1; omega
          · have := cnt_lt hm h1 (show i < cnt t.size m by omega)
            omega
      rw [ByteArray.toList_eq]
      exact List.eq_nil_of_length_eq_zero (by simpa using hz)
    simp only [tillerlaw20_SendJoins.l0]
    rw [if_pos (by omega), if_pos (by omega), parts_len, if_pos (by omega), parts_rd _ _ _ _ (by omega), if_pos (by omega), w64 (x := (i : Int) + 1) (by omega) (by omega), next]
    have g1 : ¬ ((pt t m i).size : Int) > (m : Int) := by omega
    by_cases h1 : (i : Int) + 1 < (cnt t.size m : Int)
    · have := cnt_lt hm (show 1 ≤ i + 1 by omega) (show i + 1 < cnt t.size m by omega)
      rw [if_pos h1, if_pos (by omega), if_neg g1]
      by_cases h2 : (pt t m i).toList = []
      · rw [if_pos h2, if_pos (hE h2)]
      · rw [if_neg h2]
    · rw [if_neg h1, if_neg g1]
      by_cases h2 : (pt t m i).toList = []
      · rw [if_pos h2, if_pos (hE h2)]
      · rw [if_neg h2]
theorem SendJoins : ∀ (a0 : ByteArray) (a1 : Int), a0.size ≤ 140737488351232 → (Lit.int .i64 a1).wf = true → ∃ k, tillerlaw20_SendJoins.f k a0 a1 = some true := by
  intro t0 a h0 ha
  have ha := wf_i64 ha
  refine ⟨10000, ?_⟩
  unfold tillerlaw20_SendJoins.f
  have hc := Cut14_eq t0 3000
  have hs := Cut14_size t0 3000
  rw [show ((3000 : Nat) : Int) = 3000 from rfl] at hc
  rw [hc, Option.bind_some]
  generalize (if t0.size ≤ 3000 then t0 else t0.extract 0 3000) = t at hs
  by_cases h1 : a < 1
  · rw [Cut20_bad1 _ _ h1, Option.bind_some, if_neg (by decide), awake20 (by omega), Option.bind_some, if_pos rfl, if_pos (by decide), if_pos h1]
  by_cases h2 : a > 4096 ∨ (t.size : Int) > 512 * a
  · rw [Cut20_bad2 (by omega) t (by omega) h2, Option.bind_some, if_neg (by decide), awake20 (by omega), Option.bind_some, if_pos rfl, if_pos (by decide), if_neg h1]
    by_cases h3 : a > 4096
    · rw [if_pos h3]
    · rw [if_neg h3, w64 (by omega) (by omega), decide_eq_true (by omega)]
  obtain ⟨m, rfl⟩ := Int.eq_ofNat_of_zero_le (show 0 ≤ a by omega)
  rw [Cut20_eq (by omega) (by omega) (by omega) (by omega) (by omega), Option.bind_some, if_pos rfl, parts_len]
  have := joins_loop (t := t) (m := m) (by omega) (by omega) (by omega) (by omega) (cnt t.size m) 0 10000 (by omega) (by omega) (by have := (cnt_facts (N := t.size) (m := m) (by omega)).2.2.2.2; omega)
  have e : t.extract 0 (min (0 * m) t.size) = (⟨#[]⟩ : ByteArray) := by
    apply ByteArray.ext
    simp
  rw [e] at this
  exact this
end Go.Proofs.Ytfonfdpimbnfaaa.Pure
