/- What the functions of layer 4 answer. -/
import Derived.Test.YtefimleoffaggaaGQx13
import Derived.Test.YtefimleoffaggaaGQx15
import Derived.Test.YtefimleoffaggaaGQx16
import Derived.Test.YtefimleoffaggaaGQx17
import Derived.Test.YtefimleoffaggaaGQx20
import Derived.Test.YtefimleoffaggaaUVec
import Derived.Test.YtefimleoffaggaaUMatMath
set_option linter.unusedVariables false
namespace Go.Proofs.Ytefimleoffaggaa.U
open Go.RowKit Go.Proofs.YtefimleoffaggaaW.PrintWords Go.Proofs.YtefimleoffaggaaW.PrintMore Go.Proofs.Ytefimleoffaggaa.GQ
theorem Check_eq {k : Nat} {a b : Int} {d : List Int} (hk : 2 ≤ k) : mat_Check.f k a b d = some (chkv a b d) := by
  obtain ⟨k, rfl⟩ := succ_of_lt (show 0 < k by omega)
  obtain ⟨k, rfl⟩ := succ_of_lt (show 0 < k by omega)
  have h1 : ∀ c : Bool, (c = true ↔ a > 128 ∨ b > 128) → 1 ≤ a → 1 ≤ b → mat_Check.j1 (k + 1) c a b d = some (if a > 128 ∨ b > 128 then 2 else if (d.length : Int) = a * b then 0 else 6) := by
    intro c hc ha hb
    simp only [mat_Check.j1]
    by_cases h : c = true
    · rw [if_pos h, if_pos (hc.1 h)]
    · rw [if_neg h, if_neg (fun z => h (hc.2 z))]
      have hz : ¬ (a > 128 ∨ b > 128) := fun z => h (hc.2 z)
      have hm := mul_bound (A := 128) (B := 128) (a := a) (b := b) (by omega) (by omega) (by omega) (by omega) (by omega)
      rw [w64 (x := a * b) (by omega) (by omega)]
      split <;> rfl
  have h0 : ∀ c : Bool, (c = true ↔ a < 1 ∨ b < 1) → mat_Check.j0 (k + 1 + 1) c a b d = some (chkv a b d) := by
    intro c hc
    simp only [mat_Check.j0]
    unfold chkv
    by_cases h : c = true
    · rw [if_pos h, if_pos (hc.1 h)]
    · have hz : ¬ (a < 1 ∨ b < 1) := fun z => h (hc.2 z)
      rw [if_neg h, if_neg hz]
      by_cases h2 : a > 128
      · rw [if_pos h2]; exact h1 _ (by simp [h2]) (by omega) (by omega)
      · rw [if_neg h2]; exact h1 _ (by simp; omega) (by omega) (by omega)
  unfold mat_Check.f
  by_cases h : a < 1
  · rw [if_pos h]; exact h0 _ (by simp [h])
  · rw [if_neg h]; exact h0 _ (by simp; omega)
theorem cut_eq {d : List Int} {R C i : Nat} (hR : R ≤ 128) (hC : C ≤ 128) (hl : d.length = R * C) (hi : i < R) :
    0 ≤ wrap64 ((i : Int) * (C : Int)) ∧ wrap64 ((i : Int) * (C : Int)) ≤ wrap64 (wrap64 ((i : Int) + 1) * (C : Int)) ∧ wrap64 (wrap64 ((i : Int) + 1) * (C : Int)) ≤ (d.length : Int) ∧
      (d.take (wrap64 (wrap64 ((i : Int) + 1) * (C : Int))).toNat).drop (wrap64 ((i : Int) * (C : Int))).toNat = rowv d C i := by
  have h3 := Nat.mul_le_mul_right C (show i + 1 ≤ R by omega)
  have h4 : (i + 1) * C = i * C + C := by rw [Nat.add_mul, Nat.one_mul]
  have e : ((i : Int) + 1) = ((i + 1 : Nat) : Int) := by omega
  rw [wmul (by omega) hC, w64 (x := (i : Int) + 1) (by omega) (by omega), e, wmul (by omega) hC, Int.toNat_natCast, Int.toNat_natCast, row_cut hl hi]
  exact ⟨by omega, by omega, by omega, rfl⟩
theorem Row_eq {k : Nat} {a b : Int} {d : List Int} {i : Int} (hk : 2 ≤ k) (i1 : -9223372036854775808 ≤ i) (i2 : i ≤ 9223372036854775807) :
    mat_Row.f k a b d i = some (if chkv a b d = 0 then (if i < 0 ∨ i ≥ a then ([], 8) else (rowv d b.toNat i.toNat, 0)) else ([], chkv a b d)) := by
  unfold mat_Row.f
  rw [Check_eq hk, Option.bind_some]
  by_cases h : chkv a b d = 0
  · obtain ⟨R, C, rfl, rfl, h1, h2, h3, h4, hl⟩ := chkv_ok h
    rw [if_pos h, if_pos h]
    by_cases h5 : i < 0
    · rw [if_pos h5, if_pos (by omega)]
    · rw [if_neg h5]
      by_cases h6 : i ≥ (R : Int)
      · rw [if_pos h6, if_pos (by omega)]
      · obtain ⟨n, rfl⟩ := Int.eq_ofNat_of_zero_le (show 0 ≤ i by omega)
        rw [if_neg h6, if_neg (show ¬ ((n : Int) < 0 ∨ (n : Int) ≥ (R : Int)) by omega)]
        have hc := cut_eq h2 h4 hl (show n < R by omega)
        rw [if_pos hc.1, if_pos hc.2.1, if_pos hc.2.2.1, hc.2.2.2, if_pos (by rw [rowv_len]; simp; omega)]
        simp
  · rw [if_neg h, if_neg h]
theorem Turn_l1 {d : List Int} {R C j : Nat} (hR : R ≤ 128) (hC : C ≤ 128) (hl : d.length = R * C) (hj : j < C) (rr cc : Int) : ∀ (m i k : Nat) (acc : List Int), R - i = m → i ≤ R → m + 1 ≤ k → acc.length + m ≤ 100000 →
    mat_Turn.l1 k (j : Int) (C : Int) (j : Int) (R : Int) (i : Int) (R : Int) (C : Int) d rr cc acc = mat_Turn.l0 (k - m - 1) (C : Int) ((j + 1 : Nat) : Int) (R : Int) (C : Int) d rr cc (acc ++ (colv d R C j).drop i) := by
  intro m
  induction m with
  | zero =>
    intro i k acc hd hi hk hacc
    obtain ⟨k, rfl⟩ := succ_of_lt (show 0 < k by omega)
    simp only [mat_Turn.l1]
    rw [if_neg (by omega), List.drop_of_length_le (by rw [colv_len]; omega), List.append_nil, w64 (x := (j : Int) + 1) (by omega) (by omega)]
    rfl
  | succ m ih =>
    intro i k acc hd hi hk hacc
    obtain ⟨k, rfl⟩ := succ_of_lt (show 0 < k by omega)
    have hiR : i < R := by omega
    have hx := idx_lt hiR hj
    have hm := mul128 (show i ≤ 128 by omega) hC
    simp only [mat_Turn.l1]
    rw [if_pos (by omega), wmul (by omega) hC, ← Int.natCast_add, w64 (x := ((i * C + j : Nat) : Int)) (by omega) (by omega), if_pos (by omega), if_pos (by omega), if_pos (by omega), w64 (x := (i : Int) + 1) (by omega) (by omega), ← Int.natCast_one, ← Int.natCast_add,
      ih (i + 1) k _ (by omega) (by omega) (by omega) (by rw [List.length_append, List.length_singleton]; omega)]
    have e : (colv d R C j).drop i = rd d ((i * C + j : Nat) : Int) :: (colv d R C j).drop (i + 1) := by
      have e0 : rd d ((i * C + j : Nat) : Int) = d.getD (i * C + j) 0 := by unfold rd; rw [Int.toNat_natCast]
      rw [List.drop_eq_getElem_cons (by rw [colv_len]; omega), e0]
      simp only [colv, List.getElem_map, List.getElem_range]
    rw [e, show k + 1 - (m + 1) - 1 = k - m - 1 by omega]
    simp
theorem Turn_l0 {d : List Int} {R C : Nat} (hR : R ≤ 128) (hC : C ≤ 128) (hl : d.length = R * C) (rr cc : Int) : ∀ (m j k : Nat) (acc : List Int), C - j = m → j ≤ C → 200 * m + 200 ≤ k → acc.length = j * R →
    mat_Turn.l0 k (C : Int) (j : Int) (R : Int) (C : Int) d rr cc acc = some (rr, cc, acc ++ ((List.range C).drop j).flatMap (fun j => colv d R C j), 0) := by
  intro m
  induction m with
  | zero =>
    intro j k acc hd hj hk hacc
    obtain ⟨k, rfl⟩ := succ_of_lt (show 0 < k by omega)
    simp only [mat_Turn.l0]
    rw [if_neg (by omega), List.drop_of_length_le (by simp; omega)]
    simp
  | succ m ih =>
    intro j k acc hd hj hk hacc
    obtain ⟨k, rfl⟩ := succ_of_lt (show 0 < k by omega)
    have hjC : j < C := by omega
    have hm := mul128 (show j ≤ 128 by omega) hR
    simp only [mat_Turn.l0]
    rw [if_pos (by omega)]
    have g1 : C - (j + 1) = m := by omega
    have g2 : j + 1 ≤ C := by omega
    have g3 : 200 * m + 200 ≤ k - R - 1 := by omega
    have := Turn_l1 hR hC hl hjC rr cc R 0 k acc (by omega) (by omega) (by omega) (by omega)
    rw [Int.natCast_zero] at this
    rw [this, ih (j + 1) (k - R - 1) (acc ++ (colv d R C j).drop 0) g1 g2 g3 (by rw [List.length_append, List.drop_zero, colv_len, hacc, Nat.add_mul, Nat.one_mul])]
    have e : (List.range C).drop j = j :: (List.range C).drop (j + 1) := by
      rw [List.drop_eq_getElem_cons (by simpa using hjC)]; simp
    rw [e]
    simp
theorem Turn_eq {k : Nat} {a b : Int} {d : List Int} (hk : 30000 ≤ k) :
    mat_Turn.f k a b d = some (if chkv a b d = 0 then (b, a, turnv d a.toNat b.toNat, 0) else (0, 0, [], chkv a b d)) := by
  unfold mat_Turn.f
  rw [Check_eq (by omega), Option.bind_some]
  by_cases h : chkv a b d = 0
  · obtain ⟨R, C, rfl, rfl, h1, h2, h3, h4, hl⟩ := chkv_ok h
    rw [if_pos h, if_pos h]
    have := Turn_l0 h2 h4 hl (C : Int) (R : Int) C 0 k [] (by omega) (by omega) (by omega) (by simp)
    rw [Int.natCast_zero] at this
    rw [this]; rfl
  · rw [if_neg h, if_neg h]
theorem Apply_l0 {d v : List Int} {R C : Nat} (hd : I32 d) (hv : I32 v) (hR : R ≤ 128) (hC : C ≤ 128) (hl : d.length = R * C) (hvl : v.length = C) : ∀ (m i k : Nat) (acc : List Int), R - i = m → i ≤ R → m + 5001 ≤ k → acc.length = i →
    mat_Apply.l0 k v acc (R : Int) (i : Int) (R : Int) (C : Int) d = some (acc ++ (applyv d R C v).drop i, 0) := by
  intro m
  induction m with
  | zero =>
    intro i k acc hm hi hk hacc
    obtain ⟨k, rfl⟩ := succ_of_lt (show 0 < k by omega)
    simp only [mat_Apply.l0]
    rw [if_neg (by omega), List.drop_of_length_le (by rw [applyv_len]; omega)]
    simp
  | succ m ih =>
    intro i k acc hm hi hk hacc
    obtain ⟨k, rfl⟩ := succ_of_lt (show 0 < k by omega)
    have hiR : i < R := by omega
    have hc := cut_eq hR hC hl hiR
    simp only [mat_Apply.l0]
    rw [if_pos (by omega), if_pos hc.1, if_pos hc.2.1, if_pos hc.2.2.1, hc.2.2.2, Dot_eq (rowv_i32 hd C i) hv (by omega), Option.bind_some, if_pos (by omega), w64 (x := (i : Int) + 1) (by omega) (by omega), ← Int.natCast_one, ← Int.natCast_add,
      ih (i + 1) k _ (by omega) (by omega) (by omega) (by rw [List.length_append, List.length_singleton]; omega), if_pos (fitv_ok (by rw [rowv_len, hvl]) (by rw [rowv_len]; omega))]
    have e : (applyv d R C v).drop i = dotv (rowv d C i) v :: (applyv d R C v).drop (i + 1) := by
      rw [List.drop_eq_getElem_cons (by rw [applyv_len]; omega)]
      simp [applyv]
    rw [e]; simp
theorem Apply_eq {k : Nat} {a b : Int} {d v : List Int} (hd : I32 d) (hv : I32 v) (hk : 6000 ≤ k) :
    mat_Apply.f k a b d v = some (if chkv a b d = 0 then (if (v.length : Int) = b then (applyv d a.toNat b.toNat v, 0) else ([], 6)) else ([], chkv a b d)) := by
  unfold mat_Apply.f
  rw [Check_eq (by omega), Option.bind_some]
  by_cases h : chkv a b d = 0
  · obtain ⟨R, C, rfl, rfl, h1, h2, h3, h4, hl⟩ := chkv_ok h
    rw [if_pos h, if_pos h]
    by_cases h5 : (v.length : Int) = C
    · rw [if_pos h5, if_pos h5]
      have := Apply_l0 hd hv h2 h4 hl (by omega) R 0 k [] (by omega) (by omega) (by omega) rfl
      rw [Int.natCast_zero] at this
      rw [this]; rfl
    · rw [if_neg h5, if_neg h5]
  · rw [if_neg h, if_neg h]
theorem Times_l0 {a b : List Int} {Ra Ca Rb Cb : Nat} (ha : I32 a) (hb : I32 b) (h1 : Ra ≤ 128) (h2 : 1 ≤ Ca) (h2' : Ca ≤ 128) (h3 : 1 ≤ Cb) (h3' : Cb ≤ 128) (hla : a.length = Ra * Ca) (hlb : b.length = Rb * Cb) (he : Ca = Rb) (rr cc : Int) : ∀ (m i k : Nat) (acc : List Int), Ra - i = m → i ≤ Ra → m + 7001 ≤ k → acc.length = i * Cb →
    mat_Times.l0 k (Ra : Int) (i : Int) (Ra : Int) (Ca : Int) a (Cb : Int) (Rb : Int) (turnv b Rb Cb) rr cc acc = some (rr, cc, acc ++ ((List.range Ra).drop i).flatMap (fun i => applyv (turnv b Rb Cb) Cb Rb (rowv a Ca i)), 0) := by
  subst he
  intro m
  induction m with
  | zero =>
    intro i k acc hm hi hk hacc
    obtain ⟨k, rfl⟩ := succ_of_lt (show 0 < k by omega)
    simp only [mat_Times.l0]
    rw [if_neg (by omega), List.drop_of_length_le (by simp; omega)]
    simp
  | succ m ih =>
    intro i k acc hm hi hk hacc
    obtain ⟨k, rfl⟩ := succ_of_lt (show 0 < k by omega)
    have hiR : i < Ra := by omega
    have hc := cut_eq h1 h2' hla hiR
    have hb2 := mul128 (show i ≤ 128 by omega) h3'
    simp only [mat_Times.l0]
    rw [if_pos (by omega), if_pos hc.1, if_pos hc.2.1, if_pos hc.2.2.1, hc.2.2.2, Apply_eq (turnv_i32 hb Ca Cb) (rowv_i32 ha Ca i) (by omega), Option.bind_some, if_pos (chkv_mk h3 h3' h2 h2' (turnv_len b Ca Cb)), if_pos (show ((rowv a Ca i).length : Int) = (Ca : Int) by rw [rowv_len]), Int.toNat_natCast, Int.toNat_natCast,
      if_pos (by rw [applyv_len]; omega), w64 (x := (i : Int) + 1) (by omega) (by omega), ← Int.natCast_one, ← Int.natCast_add,
      ih (i + 1) k _ (by omega) (by omega) (by omega) (by rw [List.length_append, applyv_len, hacc, Nat.add_mul, Nat.one_mul])]
    have e : (List.range Ra).drop i = i :: (List.range Ra).drop (i + 1) := by
      rw [List.drop_eq_getElem_cons (by simpa using hiR)]; simp
    rw [e]; simp
/-- A product's error. -/
def tchk (a b : Int) (d : List Int) (a' b' : Int) (d' : List Int) : Int := if chkv a b d = 0 then (if chkv a' b' d' = 0 then (if b = a' then 0 else 6) else chkv a' b' d') else chkv a b d
theorem Times_eq {k : Nat} {a b a' b' : Int} {d d' : List Int} (hd : I32 d) (hd' : I32 d') (hk : 31000 ≤ k) :
    mat_Times.f k a b d a' b' d' = some (if tchk a b d a' b' d' = 0 then (a, b', timesv d a.toNat b.toNat d' a'.toNat b'.toNat, 0) else (0, 0, [], tchk a b d a' b' d')) := by
  unfold mat_Times.f tchk
  rw [Check_eq (by omega), Option.bind_some]
  by_cases h : chkv a b d = 0
  · rw [if_pos h, if_pos h, Turn_eq (by omega), Option.bind_some]
    by_cases h' : chkv a' b' d' = 0
    · simp only [if_pos h']
      rw [if_pos trivial]
      by_cases he : b = a'
      · obtain ⟨R, C, rfl, rfl, h1, h2, h3, h4, hl⟩ := chkv_ok h
        obtain ⟨R', C', rfl, rfl, h1', h2', h3', h4', hl'⟩ := chkv_ok h'
        rw [if_pos he, if_pos he]
        have he' : C = R' := by omega
        have := Times_l0 hd hd' h2 h3 h4 h3' h4' hl hl' he' (R : Int) (C' : Int) R 0 k [] (by omega) (by omega) (by omega) (by simp)
        rw [Int.natCast_zero] at this
        simp only [Int.toNat_natCast, if_true]
        rw [this, List.drop_zero, List.nil_append]; rfl
      · rw [if_neg he, if_neg he]; simp
    · simp only [if_neg h']
  · rw [if_neg h, if_neg h, if_neg h]
theorem Few4_eq {a b : Int} {d : List Int} (hd : d.length < 35184372088832) : tillerlaw04_Few.f a b d = some (a, b, d.take 2000) := by
  unfold tillerlaw04_Few.f
  rw [Few_eq (by omega) hd]; rfl
end Go.Proofs.Ytefimleoffaggaa.U
