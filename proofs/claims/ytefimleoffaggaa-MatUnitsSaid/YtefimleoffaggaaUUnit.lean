/- Units, and the document's product. -/
import Derived.Test.YtefimleoffaggaaGQx23
import Derived.Test.YtefimleoffaggaaGQx24
import Derived.Test.YtefimleoffaggaaUMat
import Derived.Test.YtefimleoffaggaaURef4
set_option linter.unusedVariables false
namespace Go.Proofs.Ytefimleoffaggaa.U
open Go.RowKit Go.Proofs.YtefimleoffaggaaW.PrintWords Go.Proofs.YtefimleoffaggaaW.PrintMore Go.Proofs.Ytefimleoffaggaa.GQ
theorem idx_inj {a b c d n : Nat} (hb : b < n) (hd : d < n) (h : a * n + b = c * n + d) : a = c ∧ b = d := by
  have h1 : (a * n + b) / n = a := by rw [Nat.mul_comm, Nat.mul_add_div (by omega), Nat.div_eq_of_lt hb, Nat.add_zero]
  have h2 : (c * n + d) / n = c := by rw [Nat.mul_comm, Nat.mul_add_div (by omega), Nat.div_eq_of_lt hd, Nat.add_zero]
  have h3 : a = c := by rw [← h1, h, h2]
  subst h3
  exact ⟨rfl, by omega⟩
/-- A unit, as far as row i. -/
def IsUnit (n i : Nat) (d : List Int) : Prop := d.length = n * n ∧ ∀ a b : Nat, a < n → b < n → d.getD (a * n + b) 0 = if a = b ∧ a < i then 65536 else 0
theorem getD_set (d : List Int) (p q : Nat) (v : Int) (hp : p < d.length) : (d.set p v).getD q 0 = if p = q then v else d.getD q 0 := by
  rw [List.getD_eq_getElem?_getD, List.getElem?_set, List.getD_eq_getElem?_getD]
  by_cases h : p = q
  · subst h; simp [hp]
  · rw [if_neg h, if_neg h]
theorem Unit_l0 {n : Nat} (hn : n ≤ 128) (rr cc : Int) : ∀ (m i k : Nat) (d : List Int), n - i = m → i ≤ n → m + 1 ≤ k → IsUnit n i d →
    ∃ u, mat_Unit.l0 k (n : Int) (n : Int) (i : Int) rr cc d = some (rr, cc, u, 0) ∧ IsUnit n n u := by
  intro m
  induction m with
  | zero =>
    intro i k d hm hi hk hd
    obtain ⟨k, rfl⟩ := succ_of_lt (show 0 < k by omega)
    obtain rfl : i = n := by omega
    refine ⟨d, ?_, hd⟩
    simp only [mat_Unit.l0]
    rw [if_neg (by omega)]
  | succ m ih =>
    intro i k d hm hi hk hd
    obtain ⟨k, rfl⟩ := succ_of_lt (show 0 < k by omega)
    have hin : i < n := by omega
    have hx := idx_lt hin hin
    have hm2 := mul128 (show i ≤ 128 by omega) hn
    have hl := hd.1
    simp only [mat_Unit.l0]
    rw [if_pos (by omega), wmul (by omega) hn, ← Int.natCast_add, w64 (x := ((i * n + i : Nat) : Int)) (by omega) (by omega), if_pos (by omega), if_pos (by omega), Int.toNat_natCast, w64 (x := (i : Int) + 1) (by omega) (by omega), ← Int.natCast_one, ← Int.natCast_add]
    refine ih (i + 1) k _ (by omega) (by omega) (by omega) ⟨by rw [List.length_set]; exact hl, fun a b ha hb => ?_⟩
    rw [getD_set _ _ _ _ (by omega), hd.2 a b ha hb]
    by_cases e : i * n + i = a * n + b
    · obtain ⟨rfl, rfl⟩ := idx_inj hin hb e
      rw [if_pos rfl, if_pos ⟨rfl, by omega⟩]
    · rw [if_neg e]
      by_cases e2 : a = b ∧ a < i
      · rw [if_pos e2, if_pos ⟨e2.1, by omega⟩]
      · rw [if_neg e2, if_neg (fun h => e2 ⟨h.1, by
          have : a ≠ i := fun h3 => e (by rw [← h.1, h3])
          omega⟩)]
/-- A unit's error. -/
def unitErr (n : Int) : Int := if n < 1 then 1 else if n > 128 then 2 else 0
theorem Unit_eq {k : Nat} {n : Int} (hk : 200 ≤ k) : ∃ u, mat_Unit.f k n = some (if unitErr n = 0 then (n, n, u, 0) else (0, 0, [], unitErr n)) ∧ (unitErr n = 0 → ∃ m : Nat, n = m ∧ 1 ≤ m ∧ m ≤ 128 ∧ IsUnit m m u) := by
  unfold mat_Unit.f unitErr
  by_cases h1 : n < 1
  · rw [if_pos h1, if_pos h1]; exact ⟨[], rfl, fun h => by cases h⟩
  · rw [if_neg h1, if_neg h1]
    by_cases h2 : n > 128
    · rw [if_pos h2, if_pos h2]; exact ⟨[], rfl, fun h => by cases h⟩
    · rw [if_neg h2, if_neg h2]
      obtain ⟨m, rfl⟩ := Int.eq_ofNat_of_zero_le (show 0 ≤ n by omega)
      have hm := mul128 (show m ≤ 128 by omega) (show m ≤ 128 by omega)
      obtain ⟨u, hu, hu2⟩ := Unit_l0 (n := m) (by omega) (m : Int) (m : Int) m 0 k (List.replicate (m * m) 0) (by omega) (by omega) (by omega) ⟨by simp, fun a b ha hb => by
        rw [if_neg (by omega), List.getD_eq_getElem?_getD, List.getElem?_eq_getElem (by rw [List.length_replicate]; exact idx_lt ha hb)]; simp⟩
      rw [Int.natCast_zero] at hu
      rw [wmul (by omega) (by omega), if_pos (by omega), if_pos (by omega), Int.toNat_natCast, hu]
      exact ⟨u, by simp, fun _ => ⟨m, rfl, by omega, by omega, hu2⟩⟩
theorem rTimes_l1 {a b : List Int} {Ra Ca Cb : Nat} (ha : I32 a) (hb : I32 b) (h1 : Ra ≤ 128) (h2 : Ca ≤ 128) (h3 : Cb ≤ 128) (hla : a.length = Ra * Ca) (hlb : b.length = Ca * Cb) (rr cc : Int) {i : Nat} (hi : i < Ra) : ∀ (m j k : Nat) (acc : List Int), Cb - j = m → j ≤ Cb → m + 5200 ≤ k → acc.length + m ≤ 100000 →
    tillerref04_Times.l1 k (i : Int) (j : Int) (Ra : Int) (Ca : Int) a (Ca : Int) (Cb : Int) b rr cc acc = tillerref04_Times.l0 (k - m - 1) ((i + 1 : Nat) : Int) (Ra : Int) (Ca : Int) a (Ca : Int) (Cb : Int) b rr cc (acc ++ (applyv (turnv b Ca Cb) Cb Ca (rowv a Ca i)).drop j) := by
  intro m
  induction m with
  | zero =>
    intro j k acc hd hj hk hacc
    obtain ⟨k, rfl⟩ := succ_of_lt (show 0 < k by omega)
    simp only [tillerref04_Times.l1]
    rw [if_neg (by omega), List.drop_of_length_le (by rw [applyv_len]; omega), List.append_nil, w64 (x := (i : Int) + 1) (by omega) (by omega)]
    rfl
  | succ m ih =>
    intro j k acc hd hj hk hacc
    obtain ⟨k, rfl⟩ := succ_of_lt (show 0 < k by omega)
    have hjC : j < Cb := by omega
    simp only [tillerref04_Times.l1]
    rw [if_pos (by omega), rRow_eq h1 h2 hla hi _ (by omega), Option.bind_some, rCol_eq h2 h3 hlb hjC (by omega), Option.bind_some, rDot_eq (rowv_i32 ha Ca i) (colv_i32 hb Ca Cb j) (by rw [rowv_len, colv_len]; omega) (by rw [rowv_len]; omega) (by omega), Option.bind_some, if_pos (by omega), w64 (x := (j : Int) + 1) (by omega) (by omega), ← Int.natCast_one, ← Int.natCast_add,
      ih (j + 1) k (acc ++ [dotv (rowv a Ca i) (colv b Ca Cb j)]) (by omega) (by omega) (by omega) (by rw [List.length_append, List.length_singleton]; omega)]
    have e : (applyv (turnv b Ca Cb) Cb Ca (rowv a Ca i)).drop j = dotv (rowv a Ca i) (colv b Ca Cb j) :: (applyv (turnv b Ca Cb) Cb Ca (rowv a Ca i)).drop (j + 1) := by
      rw [List.drop_eq_getElem_cons (by rw [applyv_len]; omega)]
      simp only [applyv, List.getElem_map, List.getElem_range]
      rw [rowv_turn hjC, dotv_comm]
    rw [e, show k + 1 - (m + 1) - 1 = k - m - 1 by omega]
    simp
theorem rTimes_l0 {a b : List Int} {Ra Ca Cb : Nat} (ha : I32 a) (hb : I32 b) (h1 : Ra ≤ 128) (h2 : Ca ≤ 128) (h3 : Cb ≤ 128) (hla : a.length = Ra * Ca) (hlb : b.length = Ca * Cb) (rr cc : Int) : ∀ (m i k : Nat) (acc : List Int), Ra - i = m → i ≤ Ra → 200 * m + 6000 ≤ k → acc.length = i * Cb →
    tillerref04_Times.l0 k (i : Int) (Ra : Int) (Ca : Int) a (Ca : Int) (Cb : Int) b rr cc acc = some (rr, cc, acc ++ ((List.range Ra).drop i).flatMap (fun i => applyv (turnv b Ca Cb) Cb Ca (rowv a Ca i))) := by
  intro m
  induction m with
  | zero =>
    intro i k acc hd hi hk hacc
    obtain ⟨k, rfl⟩ := succ_of_lt (show 0 < k by omega)
    simp only [tillerref04_Times.l0]
    rw [if_neg (by omega), List.drop_of_length_le (by simp; omega)]
    simp
  | succ m ih =>
    intro i k acc hd hi hk hacc
    obtain ⟨k, rfl⟩ := succ_of_lt (show 0 < k by omega)
    have hiR : i < Ra := by omega
    have hm := mul128 (show i ≤ 128 by omega) h3
    have g1 : Ra - (i + 1) = m := by omega
    have g2 : i + 1 ≤ Ra := by omega
    have g3 : 200 * m + 6000 ≤ k - Cb - 1 := by omega
    simp only [tillerref04_Times.l0]
    rw [if_pos (by omega)]
    have := rTimes_l1 ha hb h1 h2 h3 hla hlb rr cc hiR Cb 0 k acc (by omega) (by omega) (by omega) (by omega)
    rw [Int.natCast_zero] at this
    rw [this, ih (i + 1) (k - Cb - 1) (acc ++ (applyv (turnv b Ca Cb) Cb Ca (rowv a Ca i)).drop 0) g1 g2 g3 (by rw [List.length_append, List.drop_zero, applyv_len, hacc, Nat.add_mul, Nat.one_mul])]
    have e : (List.range Ra).drop i = i :: (List.range Ra).drop (i + 1) := by
      rw [List.drop_eq_getElem_cons (by simpa using hiR)]; simp
    rw [e]
    simp
theorem rTimes_eq {k : Nat} {a b : List Int} {Ra Ca Cb : Nat} (ha : I32 a) (hb : I32 b) (h1 : Ra ≤ 128) (h2 : Ca ≤ 128) (h3 : Cb ≤ 128) (hla : a.length = Ra * Ca) (hlb : b.length = Ca * Cb) (hk : 40000 ≤ k) :
    tillerref04_Times.f k (Ra : Int) (Ca : Int) a (Ca : Int) (Cb : Int) b = some ((Ra : Int), (Cb : Int), timesv a Ra Ca b Ca Cb) := by
  unfold tillerref04_Times.f
  have := rTimes_l0 ha hb h1 h2 h3 hla hlb (Ra : Int) (Cb : Int) Ra 0 k [] (by omega) (by omega) (by omega) (by simp)
  rw [Int.natCast_zero] at this
  rw [this]; rfl
end Go.Proofs.Ytefimleoffaggaa.U
