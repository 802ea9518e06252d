/- MatTimes: the pure statement. -/
import Derived.Test.YtefimleoffaggaaGQx25
import Derived.Test.YtefimleoffaggaaUUnit
import Derived.Test.YtefimleoffaggaaUSame3
set_option linter.unusedVariables false
namespace Go.Proofs.Ytefimleoffaggaa.Pure
open Go.RowKit Go.Proofs.YtefimleoffaggaaW.PrintWords Go.Proofs.YtefimleoffaggaaW.PrintLast Go.Proofs.YtefimleoffaggaaW.PrintMore Go.Proofs.Ytefimleoffaggaa.GQ Go.Proofs.Ytefimleoffaggaa.U
/-- Behind the units: the product itself. -/
def Prodok (x9 a b : Int) (d : List Int) (a' b' : Int) (d' : List Int) (p q : Int) (r : List Int) : Prop :=
  if x9 = 0 then ∃ R C C' : Nat, a = R ∧ b = C ∧ a' = C ∧ b' = C' ∧ R ≤ 128 ∧ C ≤ 128 ∧ C' ≤ 128 ∧ d.length = R * C ∧ d'.length = C * C' ∧ I32 d ∧ I32 d' ∧ p = R ∧ q = C' ∧ r = timesv d R C d' C C' else p = 0 ∧ q = 0 ∧ r = []
theorem j6_false {k : Nat} {n f x9 a b a' b' p q u v i : Int} {d d' r w : List Int} (hk : 50000 ≤ k) (h : Prodok x9 a b d a' b' d' p q r) : tillerlaw04_MatTimes.j6 k n x9 f i false a b d a' b' d' p q r u v w = some true := by
  obtain ⟨k, rfl⟩ := succ_of_lt (show 0 < k by omega)
  simp only [tillerlaw04_MatTimes.j6, Bool.false_eq_true, if_false]
  unfold Prodok at h
  by_cases h9 : x9 = 0
  · rw [if_pos h9] at h
    obtain ⟨R, C, C', rfl, rfl, rfl, rfl, h1, h2, h3, h4, h5, h6, h7, rfl, rfl, rfl⟩ := h
    have hm := mul128 h1 h3
    rw [if_pos h9, rTimes_eq h6 h7 h1 h2 h3 h4 h5 (by omega), Option.bind_some, rSame4 (by rw [timesv_len]; omega) (by rw [timesv_len]; omega)]
    rfl
  · rw [if_neg h9] at h
    obtain ⟨rfl, rfl, rfl⟩ := h
    rw [if_neg h9, rSame4 (by simp) (by simp; omega), Option.bind_some, if_pos rfl]
theorem l1_loop {n : Nat} {x9 a b a' b' p q : Int} {d d' r w : List Int} (n1 : 1 ≤ n) (n2 : n ≤ 128) (hu : IsUnit n n w) {i : Nat} (hi : i < n) : ∀ (m j k : Nat), n - j = m → j ≤ n → m + 100 ≤ k →
    tillerlaw04_MatTimes.l1 k (n : Int) x9 0 (i : Int) (j : Int) a b d a' b' d' p q r (n : Int) (n : Int) w = tillerlaw04_MatTimes.l0 (k - m - 1) (n : Int) x9 0 ((i + 1 : Nat) : Int) a b d a' b' d' p q r (n : Int) (n : Int) w := by
  intro m
  induction m with
  | zero =>
    intro j k hd hj hk
    obtain ⟨k, rfl⟩ := succ_of_lt (show 0 < k by omega)
    simp only [tillerlaw04_MatTimes.l1]
    rw [if_neg (by omega), w64 (x := (i : Int) + 1) (by omega) (by omega)]
    rfl
  | succ m ih =>
    intro j k hd hj hk
    obtain ⟨k, rfl⟩ := succ_of_lt (show 0 < k by omega)
    have hjn : j < n := by omega
    have hx := idx_lt hi hjn
    have hm := mul128 (show i ≤ 128 by omega) n2
    have hl := hu.1
    have hr : rd w ((i * n + j : Nat) : Int) = if i = j ∧ i < n then 65536 else 0 := by
      unfold rd; rw [Int.toNat_natCast]; exact hu.2 i j hi hjn
    have step := ih (j + 1) k (by omega) (by omega) (by omega)
    rw [Int.natCast_add, Int.natCast_one] at step
    simp only [tillerlaw04_MatTimes.l1]
    by_cases e : i = j
    · rw [if_pos ⟨e, hi⟩] at hr
      rw [if_pos (show (j : Int) < (n : Int) by omega), if_pos (show (i : Int) = (j : Int) by omega), rCheck_eq (by omega), Option.bind_some, if_pos (chkv_mk n1 n2 n1 n2 hl), if_pos trivial, if_pos trivial, wmul (by omega) n2, ← Int.natCast_add, w64 (x := ((i * n + j : Nat) : Int)) (by omega) (by omega), if_pos (show (0 : Int) ≤ ((i * n + j : Nat) : Int) by omega), if_pos (show ((i * n + j : Nat) : Int) < (w.length : Int) by omega), hr, w64 (x := (j : Int) + 1) (by omega) (by omega), step,
        show k + 1 - (m + 1) - 1 = k - m - 1 by omega, if_pos rfl]
    · rw [if_neg (fun h => e h.1)] at hr
      rw [if_pos (show (j : Int) < (n : Int) by omega), if_neg (show ¬ (i : Int) = (j : Int) by omega), rCheck_eq (by omega), Option.bind_some, if_pos (chkv_mk n1 n2 n1 n2 hl), if_pos trivial, if_pos trivial, wmul (by omega) n2, ← Int.natCast_add, w64 (x := ((i * n + j : Nat) : Int)) (by omega) (by omega), if_pos (show (0 : Int) ≤ ((i * n + j : Nat) : Int) by omega), if_pos (show ((i * n + j : Nat) : Int) < (w.length : Int) by omega), hr, w64 (x := (j : Int) + 1) (by omega) (by omega), step,
        show k + 1 - (m + 1) - 1 = k - m - 1 by omega, if_pos rfl]
theorem l0_loop {n : Nat} {x9 a b a' b' p q : Int} {d d' r w : List Int} (n1 : 1 ≤ n) (n2 : n ≤ 128) (hu : IsUnit n n w) (h : Prodok x9 a b d a' b' d' p q r) : ∀ (m i k : Nat), n - i = m → i ≤ n → 300 * m + 60000 ≤ k →
    tillerlaw04_MatTimes.l0 k (n : Int) x9 0 (i : Int) a b d a' b' d' p q r (n : Int) (n : Int) w = some true := by
  intro m
  induction m with
  | zero =>
    intro i k hd hi hk
    obtain ⟨k, rfl⟩ := succ_of_lt (show 0 < k by omega)
    simp only [tillerlaw04_MatTimes.l0, if_true]
    rw [decide_eq_false (by omega)]
    exact j6_false (by omega) h
  | succ m ih =>
    intro i k hd hi hk
    obtain ⟨k, rfl⟩ := succ_of_lt (show 0 < k by omega)
    obtain ⟨k, rfl⟩ := succ_of_lt (show 0 < k by omega)
    have g1 : n - (i + 1) = m := by omega
    have g2 : i + 1 ≤ n := by omega
    have g3 : 300 * m + 60000 ≤ k - n - 1 := by omega
    have hin : i < n := by omega
    simp only [tillerlaw04_MatTimes.l0, if_true]
    rw [decide_eq_true (by omega)]
    simp only [tillerlaw04_MatTimes.j6, if_true]
    have := l1_loop (x9 := x9) (a := a) (b := b) (a' := a') (b' := b') (p := p) (q := q) (d := d) (d' := d') (r := r) n1 n2 hu hin n 0 k (by omega) (by omega) (by omega)
    rw [Int.natCast_zero] at this
    rw [this]
    exact ih (i + 1) (k - n - 1) g1 g2 g3
theorem j3_ok {k : Nat} {n x9 f a b a' b' p q s t : Int} {d d' r w : List Int} (hk : 100000 ≤ k) (h : Prodok x9 a b d a' b' d' p q r) (hf : (f = 0 ∧ ∃ m : Nat, n = m ∧ 1 ≤ m ∧ m ≤ 128 ∧ IsUnit m m w ∧ s = m ∧ t = m) ∨ (f ≠ 0 ∧ s = 0 ∧ t = 0 ∧ w = [])) :
    tillerlaw04_MatTimes.j3 k n x9 f false a b d a' b' d' p q r s t w = some true := by
  obtain ⟨k, rfl⟩ := succ_of_lt (show 0 < k by omega)
  obtain ⟨k, rfl⟩ := succ_of_lt (show 0 < k by omega)
  simp only [tillerlaw04_MatTimes.j3, Bool.false_eq_true, if_false]
  rcases hf with ⟨rfl, m, rfl, m1, m2, hu, rfl, rfl⟩ | ⟨hf, rfl, rfl, rfl⟩
  · rw [if_pos rfl]
    simp only [tillerlaw04_MatTimes.j4, Bool.false_eq_true, if_false]
    have := l0_loop m1 m2 hu h m 0 k (by omega) (by omega) (by omega)
    rw [Int.natCast_zero] at this
    exact this
  · rw [if_neg hf, rSame4 (by simp) (by simp), Option.bind_some]
    simp only [tillerlaw04_MatTimes.j4, Bool.not_true, Bool.false_eq_true, if_false]
    obtain ⟨k, rfl⟩ := succ_of_lt (show 0 < k by omega)
    simp only [tillerlaw04_MatTimes.l0, if_neg hf]
    exact j6_false (by omega) h
theorem j2_ok {k : Nat} {n x9 a b a' b' p q : Int} {d d' r : List Int} (hk : 110000 ≤ k) (h : Prodok x9 a b d a' b' d' p q r) : tillerlaw04_MatTimes.j2 k n x9 x9 a b d a' b' d' p q r = some true := by
  obtain ⟨k, rfl⟩ := succ_of_lt (show 0 < k by omega)
  obtain ⟨u, hu, hu2⟩ := Unit_eq (k := k) (n := n) (by omega)
  simp only [tillerlaw04_MatTimes.j2]
  rw [hu, Option.bind_some, awake4 (by omega), Option.bind_some, if_pos rfl, if_pos trivial]
  by_cases e : unitErr n = 0
  · obtain ⟨m, rfl, m1, m2, hm⟩ := hu2 e
    simp only [if_pos e]
    rw [if_neg (by omega), if_neg (by omega), if_pos (by omega), if_pos (by omega)]
    exact j3_ok (by omega) h (.inl ⟨rfl, m, rfl, m1, m2, hm, rfl, rfl⟩)
  · simp only [if_neg e]
    unfold unitErr at e ⊢
    by_cases h1 : n < 1
    · simp only [if_pos h1]
      rw [if_pos trivial, if_neg (by omega), if_neg (by omega)]
      exact j3_ok (by omega) h (.inr ⟨by omega, rfl, rfl, rfl⟩)
    · rw [if_neg h1] at e
      by_cases h2 : n > 128
      · simp only [if_neg h1, if_pos h2]
        rw [if_pos trivial, if_pos (by omega), if_neg (by omega)]
        exact j3_ok (by omega) h (.inr ⟨by omega, rfl, rfl, rfl⟩)
      · rw [if_neg h2] at e; exact absurd rfl e
theorem MatTimes : ∀ (a0_0 : Int) (a0_1 : Int) (l0_2 : List Int) (a1_0 : Int) (a1_1 : Int) (l1_2 : List Int) (a2 : Int), (Lit.int .i64 a0_0).wf = true → (Lit.int .i64 a0_1).wf = true → (l0_2.length * 4 ≤ 140737488351232 ∧ l0_2.length ≤ maxLen ∧ ∀ x0 ∈ l0_2, (Lit.int .i32 x0).wf = true) → (Lit.int .i64 a1_0).wf = true → (Lit.int .i64 a1_1).wf = true → (l1_2.length * 4 ≤ 140737488351232 ∧ l1_2.length ≤ maxLen ∧ ∀ x0 ∈ l1_2, (Lit.int .i32 x0).wf = true) → (Lit.int .i64 a2).wf = true → ∃ k, tillerlaw04_MatTimes.f k a0_0 a0_1 l0_2 a1_0 a1_1 l1_2 a2 = some true := by
  intro a b l0 a' b' l1 n _ _ h0 _ _ h1 _
  have j0 := (I32.wf h0.2.2).take 2000
  have j1 := (I32.wf h1.2.2).take 2000
  refine ⟨200000, ?_⟩
  unfold tillerlaw04_MatTimes.f
  rw [Few4_eq (by omega), Option.bind_some, Few4_eq (by omega), Option.bind_some]
  dsimp only
  generalize l0.take 2000 = d at *
  generalize l1.take 2000 = d' at *
  rw [Times_eq j0 j1 (by omega), Option.bind_some, rCheck_eq (by omega), Option.bind_some, rCheck_eq (by omega)]
  have hP : Prodok (tchk a b d a' b' d') a b d a' b' d' (if tchk a b d a' b' d' = 0 then (a, b', timesv d a.toNat b.toNat d' a'.toNat b'.toNat, (0 : Int)) else (0, 0, [], tchk a b d a' b' d')).1 (if tchk a b d a' b' d' = 0 then (a, b', timesv d a.toNat b.toNat d' a'.toNat b'.toNat, (0 : Int)) else (0, 0, [], tchk a b d a' b' d')).2.1 (if tchk a b d a' b' d' = 0 then (a, b', timesv d a.toNat b.toNat d' a'.toNat b'.toNat, (0 : Int)) else (0, 0, [], tchk a b d a' b' d')).2.2.1 := by
    unfold Prodok
    by_cases h : tchk a b d a' b' d' = 0
    · simp only [if_pos h]
      have hh := h
      unfold tchk at hh
      by_cases c1 : chkv a b d = 0
      · rw [if_pos c1] at hh
        by_cases c2 : chkv a' b' d' = 0
        · rw [if_pos c2] at hh
          by_cases he : b = a'
          · subst he
            obtain ⟨R, C, rfl, rfl, r1, r2, r3, r4, hl⟩ := chkv_ok c1
            obtain ⟨R', C', e1, rfl, s1, s2, s3, s4, hl'⟩ := chkv_ok c2
            obtain rfl : C = R' := by omega
            exact ⟨R, C, C', rfl, rfl, rfl, rfl, r2, r4, s4, hl, hl', j0, j1, rfl, rfl, by simp only [Int.toNat_natCast]⟩
          · rw [if_neg he] at hh; cases hh
        · rw [if_neg c2] at hh; exact absurd hh c2
      · rw [if_neg c1] at hh; exact absurd hh c1
    · simp only [if_neg h]
      exact ⟨trivial, trivial, trivial⟩
  have hv : (if tchk a b d a' b' d' = 0 then (a, b', timesv d a.toNat b.toNat d' a'.toNat b'.toNat, (0 : Int)) else (0, 0, [], tchk a b d a' b' d')).2.2.2 = tchk a b d a' b' d' := by split <;> simp [*]
  rw [hv]
  generalize (if tchk a b d a' b' d' = 0 then (a, b', timesv d a.toNat b.toNat d' a'.toNat b'.toNat, (0 : Int)) else (0, 0, [], tchk a b d a' b' d')) = t at *
  have g0 : ∀ z : Int, (z = 0 → (a' = b → tchk a b d a' b' d' = 0) ∧ (a' ≠ b → tchk a b d a' b' d' = 6)) → (z ≠ 0 → tchk a b d a' b' d' = z) →
      tillerlaw04_MatTimes.j0 200000 n (tchk a b d a' b' d') z a b d a' b' d' t.1 t.2.1 t.2.2.1 = some true := by
    intro z hz1 hz2
    obtain ⟨k, hk⟩ : ∃ k, 200000 = k + 1 + 1 := ⟨199998, rfl⟩
    rw [hk]
    simp only [tillerlaw04_MatTimes.j0]
    by_cases hz : z = 0
    · rw [if_pos hz]
      simp only [tillerlaw04_MatTimes.j1]
      by_cases he : b = a'
      · rw [if_neg (by simp [he])]
        rw [(hz1 hz).1 he.symm] at hP ⊢
        rw [hz]
        exact j2_ok (by omega) hP
      · rw [if_pos (by simp [he])]
        rw [(hz1 hz).2 (fun h => he h.symm)] at hP ⊢
        exact j2_ok (by omega) hP
    · rw [if_neg hz]
      simp only [tillerlaw04_MatTimes.j1, Bool.false_eq_true, if_false]
      rw [hz2 hz] at hP ⊢
      exact j2_ok (by omega) hP
  by_cases c1 : chkv a b d = 0
  · rw [if_pos c1, Option.bind_some]
    refine g0 _ (fun hz => ⟨fun he => ?_, fun he => ?_⟩) (fun hz => ?_)
    · unfold tchk; rw [if_pos c1, if_pos hz, if_pos he.symm]
    · unfold tchk; rw [if_pos c1, if_pos hz, if_neg (fun h => he h.symm)]
    · unfold tchk; rw [if_pos c1, if_neg hz]
  · rw [if_neg c1]
    refine g0 _ (fun hz => absurd hz c1) (fun hz => ?_)
    unfold tchk; rw [if_neg c1]
end Go.Proofs.Ytefimleoffaggaa.Pure
