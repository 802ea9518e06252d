/- What the document's functions of layer 4 answer. -/
import Derived.Test.YtefimleoffaggaaGQx14
import Derived.Test.YtefimleoffaggaaGQx18
import Derived.Test.YtefimleoffaggaaGQx24
import Derived.Test.YtefimleoffaggaaURef3
import Derived.Test.YtefimleoffaggaaUMatMath
set_option linter.unusedVariables false
namespace Go.Proofs.Ytefimleoffaggaa.U
open Go.RowKit Go.Proofs.YtefimleoffaggaaW.PrintWords Go.Proofs.YtefimleoffaggaaW.PrintMore Go.Proofs.Ytefimleoffaggaa.GQ
theorem rCheck_eq {k : Nat} {a b : Int} {d : List Int} (hk : 2 ≤ k) : tillerref04_Check.f k a b d = some (chkv a b d) := by
  obtain ⟨k, rfl⟩ := succ_of_lt (show 0 < k by omega)
  obtain ⟨k, rfl⟩ := succ_of_lt (show 0 < k by omega)
  have h1 : ∀ c : Bool, (c = true ↔ a > 128 ∨ b > 128) → 1 ≤ a → 1 ≤ b → tillerref04_Check.j1 (k + 1) c a b d = some (if a > 128 ∨ b > 128 then 2 else if (d.length : Int) = a * b then 0 else 6) := by
    intro c hc ha hb
    simp only [tillerref04_Check.j1]
    by_cases h : c = true
    · rw [if_pos h, if_pos (hc.1 h)]
    · rw [if_neg h, if_neg (fun z => h (hc.2 z))]
      have hz : ¬ (a > 128 ∨ b > 128) := fun z => h (hc.2 z)
      have hm := mul_bound (A := 128) (B := 128) (a := a) (b := b) (by omega) (by omega) (by omega) (by omega) (by omega)
      rw [w64 (x := a * b) (by omega) (by omega)]
      split <;> rfl
  have h0 : ∀ c : Bool, (c = true ↔ a < 1 ∨ b < 1) → tillerref04_Check.j0 (k + 1 + 1) c a b d = some (chkv a b d) := by
    intro c hc
    simp only [tillerref04_Check.j0]
    unfold chkv
    by_cases h : c = true
    · rw [if_pos h, if_pos (hc.1 h)]
    · have hz : ¬ (a < 1 ∨ b < 1) := fun z => h (hc.2 z)
      rw [if_neg h, if_neg hz]
      by_cases h2 : a > 128
      · rw [if_pos h2]; exact h1 _ (by simp [h2]) (by omega) (by omega)
      · rw [if_neg h2]; exact h1 _ (by simp; omega) (by omega) (by omega)
  unfold tillerref04_Check.f
  by_cases h : a < 1
  · rw [if_pos h]; exact h0 _ (by simp [h])
  · rw [if_neg h]; exact h0 _ (by simp; omega)
theorem rRow_l0 {d : List Int} {R C i : Nat} (hR : R ≤ 128) (hC : C ≤ 128) (hl : d.length = R * C) (hi : i < R) (rr : Int) : ∀ (m j k : Nat) (acc : List Int), C - j = m → j ≤ C → m + 1 ≤ k → acc.length + m ≤ 100000 →
    tillerref04_Row.l0 k (i : Int) acc (j : Int) rr (C : Int) d = some (acc ++ (rowv d C i).drop j) := by
  intro m
  induction m with
  | zero =>
    intro j k acc hd hj hk hacc
    obtain ⟨k, rfl⟩ := succ_of_lt (show 0 < k by omega)
    simp only [tillerref04_Row.l0]
    rw [if_neg (by omega), List.drop_of_length_le (by rw [rowv_len]; omega), List.append_nil]
  | succ m ih =>
    intro j k acc hd hj hk hacc
    obtain ⟨k, rfl⟩ := succ_of_lt (show 0 < k by omega)
    have hjC : j < C := by omega
    have hx := idx_lt hi hjC
    have hm := mul128 (show i ≤ 128 by omega) hC
    simp only [tillerref04_Row.l0]
    rw [if_pos (by omega), wmul (by omega) hC, ← Int.natCast_add, w64 (x := ((i * C + j : Nat) : Int)) (by omega) (by omega), if_pos (by omega), if_pos (by omega), if_pos (by omega), w64 (x := (j : Int) + 1) (by omega) (by omega), ← Int.natCast_one, ← Int.natCast_add,
      ih (j + 1) k (acc ++ [rd d ((i * C + j : Nat) : Int)]) (by omega) (by omega) (by omega) (by rw [List.length_append, List.length_singleton]; omega)]
    have e : (rowv d C i).drop j = rd d ((i * C + j : Nat) : Int) :: (rowv d C i).drop (j + 1) := by
      have e0 : rd d ((i * C + j : Nat) : Int) = d.getD (i * C + j) 0 := by unfold rd; rw [Int.toNat_natCast]
      rw [List.drop_eq_getElem_cons (by rw [rowv_len]; omega), e0]
      simp only [rowv, List.getElem_map, List.getElem_range]
    rw [e]; simp
theorem rRow_eq {k : Nat} {d : List Int} {R C i : Nat} (hR : R ≤ 128) (hC : C ≤ 128) (hl : d.length = R * C) (hi : i < R) (rr : Int) (hk : 200 ≤ k) : tillerref04_Row.f k rr (C : Int) d (i : Int) = some (rowv d C i) := by
  have := rRow_l0 hR hC hl hi rr C 0 k [] (by omega) (by omega) (by omega) (by simp; omega)
  rw [Int.natCast_zero] at this
  unfold tillerref04_Row.f
  rw [this]; rfl
theorem rCol_l0 {d : List Int} {R C j : Nat} (hR : R ≤ 128) (hC : C ≤ 128) (hl : d.length = R * C) (hj : j < C) : ∀ (m i k : Nat) (acc : List Int), R - i = m → i ≤ R → m + 1 ≤ k → acc.length + m ≤ 100000 →
    tillerref04_Column.l0 k (j : Int) acc (i : Int) (R : Int) (C : Int) d = some (acc ++ (colv d R C j).drop i) := by
  intro m
  induction m with
  | zero =>
    intro i k acc hd hi hk hacc
    obtain ⟨k, rfl⟩ := succ_of_lt (show 0 < k by omega)
    simp only [tillerref04_Column.l0]
    rw [if_neg (by omega), List.drop_of_length_le (by rw [colv_len]; omega), List.append_nil]
  | succ m ih =>
    intro i k acc hd hi hk hacc
    obtain ⟨k, rfl⟩ := succ_of_lt (show 0 < k by omega)
    have hiR : i < R := by omega
    have hx := idx_lt hiR hj
    have hm := mul128 (show i ≤ 128 by omega) hC
    simp only [tillerref04_Column.l0]
    rw [if_pos (by omega), wmul (by omega) hC, ← Int.natCast_add, w64 (x := ((i * C + j : Nat) : Int)) (by omega) (by omega), if_pos (by omega), if_pos (by omega), if_pos (by omega), w64 (x := (i : Int) + 1) (by omega) (by omega), ← Int.natCast_one, ← Int.natCast_add,
      ih (i + 1) k (acc ++ [rd d ((i * C + j : Nat) : Int)]) (by omega) (by omega) (by omega) (by rw [List.length_append, List.length_singleton]; omega)]
    have e : (colv d R C j).drop i = rd d ((i * C + j : Nat) : Int) :: (colv d R C j).drop (i + 1) := by
      have e0 : rd d ((i * C + j : Nat) : Int) = d.getD (i * C + j) 0 := by unfold rd; rw [Int.toNat_natCast]
      rw [List.drop_eq_getElem_cons (by rw [colv_len]; omega), e0]
      simp only [colv, List.getElem_map, List.getElem_range]
    rw [e]; simp
theorem rCol_eq {k : Nat} {d : List Int} {R C j : Nat} (hR : R ≤ 128) (hC : C ≤ 128) (hl : d.length = R * C) (hj : j < C) (hk : 200 ≤ k) : tillerref04_Column.f k (R : Int) (C : Int) d (j : Int) = some (colv d R C j) := by
  have := rCol_l0 hR hC hl hj R 0 k [] (by omega) (by omega) (by omega) (by simp; omega)
  rw [Int.natCast_zero] at this
  unfold tillerref04_Column.f
  rw [this]; rfl
theorem rApply_l0 {d v : List Int} {R C : Nat} (hd : I32 d) (hv : I32 v) (hR : R ≤ 128) (hC : C ≤ 128) (hl : d.length = R * C) (hvl : v.length = C) : ∀ (m i k : Nat) (acc : List Int), R - i = m → i ≤ R → m + 5001 ≤ k → acc.length = i →
    tillerref04_Apply.l0 k v acc (i : Int) (R : Int) (C : Int) d = some (acc ++ (applyv d R C v).drop i) := by
  intro m
  induction m with
  | zero =>
    intro i k acc hm hi hk hacc
    obtain ⟨k, rfl⟩ := succ_of_lt (show 0 < k by omega)
    simp only [tillerref04_Apply.l0]
    rw [if_neg (by omega), List.drop_of_length_le (by rw [applyv_len]; omega)]
    simp
  | succ m ih =>
    intro i k acc hm hi hk hacc
    obtain ⟨k, rfl⟩ := succ_of_lt (show 0 < k by omega)
    have hiR : i < R := by omega
    simp only [tillerref04_Apply.l0]
    rw [if_pos (by omega), rRow_eq hR hC hl hiR _ (by omega), Option.bind_some, rDot_eq (rowv_i32 hd C i) hv (by rw [rowv_len]; omega) (by rw [rowv_len]; omega) (by omega), Option.bind_some, if_pos (by omega), w64 (x := (i : Int) + 1) (by omega) (by omega), ← Int.natCast_one, ← Int.natCast_add,
      ih (i + 1) k (acc ++ [dotv (rowv d C i) v]) (by omega) (by omega) (by omega) (by rw [List.length_append, List.length_singleton]; omega)]
    have e : (applyv d R C v).drop i = dotv (rowv d C i) v :: (applyv d R C v).drop (i + 1) := by
      rw [List.drop_eq_getElem_cons (by rw [applyv_len]; omega)]
      simp [applyv]
    rw [e]; simp
theorem rApply_eq {k : Nat} {d v : List Int} {R C : Nat} (hd : I32 d) (hv : I32 v) (hR : R ≤ 128) (hC : C ≤ 128) (hl : d.length = R * C) (hvl : v.length = C) (hk : 6000 ≤ k) : tillerref04_Apply.f k (R : Int) (C : Int) d v = some (applyv d R C v) := by
  have := rApply_l0 hd hv hR hC hl hvl R 0 k [] (by omega) (by omega) (by omega) rfl
  rw [Int.natCast_zero] at this
  unfold tillerref04_Apply.f
  rw [this]; rfl
end Go.Proofs.Ytefimleoffaggaa.U
