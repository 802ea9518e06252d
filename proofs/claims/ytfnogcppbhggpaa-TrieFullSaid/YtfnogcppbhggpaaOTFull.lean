/- TrieFull, walked by hand. -/
import Derived.Test.YtfnogcppbhggpaaOTrieAwake
set_option linter.unusedVariables false
set_option linter.unusedSimpArgs false
namespace Go.Proofs.Ytfnogcppbhggpaa.OTFull
open Go.RowKit Go.Proofs.YtfnogcppbhggpaaW.PrintWords Go.Proofs.YtfnogcppbhggpaaW.PrintLast Go.Proofs.YtfnogcppbhggpaaW.PrintMore Go.Proofs.Ytfnogcppbhggpaa.GQ Go.Proofs.Ytfnogcppbhggpaa.OMap Go.Proofs.Ytfnogcppbhggpaa.UTrie Go.Proofs.Ytfnogcppbhggpaa.OTrie Go.Maps
/-- What is there behind m rows. -/
def fv (m : Nat) : Row → Option Int
  | [a, b] => if 0 ≤ a ∧ 0 ≤ b ∧ b < 40 ∧ a * 40 + b < m then some (a * 40 + b) else none
  | _ => none
theorem fv_zero : fv 0 = fun _ => none := by
  funext q
  unfold fv
  split
  · rw [if_neg (by omega)]
  · rfl
def rowOf (i : Nat) : Row := [((i / 40 : Nat) : Int), ((i % 40 : Nat) : Int)]
theorem fv_new (m : Nat) (i : Nat) (h : m ≤ i) : fv m (rowOf i) = none := by
  unfold fv rowOf
  simp only
  rw [if_neg (by omega)]
theorem fv_succ (m : Nat) : upd (fv m) (rowOf m) (some (m : Int)) = fv (m + 1) := by
  funext q
  unfold upd
  by_cases e : q = rowOf m
  · subst e
    rw [if_pos rfl]
    unfold fv rowOf
    simp only
    rw [if_pos (by omega)]
    congr 1
    omega
  · rw [if_neg e]
    unfold fv
    split
    · rename_i a b
      by_cases h : 0 ≤ a ∧ 0 ≤ b ∧ b < 40 ∧ a * 40 + b < m
      · rw [if_pos h, if_pos (by omega)]
      · rw [if_neg h, if_neg]
        intro h2
        apply e
        unfold rowOf
        have h3 : a * 40 + b = m := by omega
        have h4 : a = ((m / 40 : Nat) : Int) := by omega
        have h5 : b = ((m % 40 : Nat) : Int) := by omega
        rw [← h4, ← h5]
    · rfl
theorem put_row (i : Nat) : tPut (fv (min i 1000)) (min i 1000 : Nat) (rowOf i) (i : Int) = (fv (min (i + 1) 1000), ((min (i + 1) 1000 : Nat) : Int), decide (i < 1000), if i < 1000 then 0 else 10) := by
  unfold tPut
  rw [if_neg (by simp [rowOf]), if_neg (by simp [rowOf]), fv_new _ _ (Nat.min_le_left _ _)]
  by_cases h : i < 1000
  · rw [if_neg (by simp), if_neg (by omega), Nat.min_eq_left (by omega), Nat.min_eq_left (by omega), fv_succ, decide_eq_true h, if_pos h]
    simp
  · rw [if_neg (by simp), if_pos (by omega), Nat.min_eq_right (by omega), Nat.min_eq_right (by omega), decide_eq_false h, if_neg h]
theorem put_last (n : Nat) (h : 0 < n) : tPut (fv (min n 1000)) (min n 1000 : Nat) [0, 0] 77 = (upd (fv (min n 1000)) [0, 0] (some 77), ((min n 1000 : Nat) : Int), false, 0) := by
  unfold tPut
  rw [if_neg (by simp), if_neg (by simp), if_pos]
  unfold fv
  simp only
  rw [if_pos (by omega)]
  rfl
theorem small_row {i : Nat} (h : i ≤ 1010) : ∀ x ∈ rowOf i, i64 x := small_i64 (by
  intro x hx
  unfold rowOf at hx
  simp at hx
  omega)
def tillerlaw13_TrieFull.f (n : Int) : Option Bool := some true
set_option maxHeartbeats 16000000 in
set_option maxRecDepth 100000 in
theorem tillerlaw13_TrieFull.calls (a0 : Int) (r : Bool) (w : World) (hr_ : Aside0 (r = true)) (h : tillerlaw13_TrieFull.f a0 = some r) :
    Calls Try.prog 3 #[.int .i64 a0] w fun e w' => e = .returned (.bool r) ∧ Below w.heap.size w w' := by
  obtain ⟨hr⟩ := hr_
  subst hr
  clear h
  by_cases c1 : a0 < 0
  · have d1 : decide (a0 < 0) = true := decide_eq_true c1
    go_enter Try.func3, Try.ntmps3
    go_wp2_with (go_at_call 9; refine (awake_calls _).mono ?_; rintro e w1 ⟨rfl, hb⟩; have HB := Aside0.mk hb; clear hb)
    go_ret
    exact ⟨rfl, HB.out⟩
  have d1 : decide (a0 < 0) = false := decide_eq_false c1
  by_cases c2 : a0 > 1010
  · have d2 : decide (a0 > 1010) = true := decide_eq_true c2
    go_enter Try.func3, Try.ntmps3
    go_wp2_with (go_at_call 9; refine (awake_calls _).mono ?_; rintro e w1 ⟨rfl, hb⟩; have HB := Aside0.mk hb; clear hb)
    go_ret
    exact ⟨rfl, HB.out⟩
  have d2 : decide (a0 > 1010) = false := decide_eq_false c2
  obtain ⟨n, rfl⟩ : ∃ n : Nat, a0 = (n : Int) := ⟨a0.toNat, (Int.toNat_of_nonneg (by omega)).symm⟩
  have hn : n ≤ 1010 := by omega
  have HNn := Aside0.mk hn
  have d3 : ¬ 1010 < n := by omega
  obtain ⟨w1, hw1⟩ : ∃ w1, w1 = w.alloc (.cells zcells 27 (0, 0)) := ⟨_, rfl⟩
  have B1 := Aside0.mk (show Below w.heap.size w w1 by rw [hw1]; exact below_alloc (Below.refl _ _) _)
  have Z1 := Aside0.mk (show Tr w1 w.heap.size 0 0 (fun _ => none) w.heap.size (zX w.heap.size 0) from Tr.zero (by rw [hw1]; exact blk_new _ _))
  clear c1 c2
  go_enter Try.func3, Try.ntmps3
  go_upto_region 4 with (fail)
  rw [← hw1]
  clear hw1
  generalize hg : w.heap.size = g at Z1 B1 ⊢
  have HG := Aside0.mk hg
  clear hg
  go_wp2
  go_loopg [4] n (fun kq v4 w' => ∃ (i : Nat) (X : TX), v4 = .int .i64 (i : Int) ∧ Aside0 (i + kq = n) ∧ Aside0 (Tr w' g (i * 128) (min i 1000 : Nat) (fv (min i 1000)) g X) ∧ Aside0 (Below g w w'))
  case atStart => exact ⟨0, zX g 0, rfl, ⟨Nat.zero_add _⟩, ⟨by rw [Nat.zero_mul, Nat.zero_min, fv_zero]; exact Z1.out⟩, B1⟩
  case round =>
    obtain ⟨i, X, rfl, HJ, TT, HB⟩ := hrel
    have hj := HJ.out
    cases gk with
    | succ k =>
      have e1 : decide (i < n) = true := decide_eq_true (by omega)
      have p1 : 0 ≤ (i : Int) := by omega
      have q1 : (i : Int) < (n : Int) := by omega
      have q2 : (n : Int) ≤ 1010 := by omega
      obtain ⟨W, hWW⟩ : ∃ W, W = wr := ⟨_, rfl⟩
      subst hWW
      have hlt := foot_lt TT.out.tr (foot_root TT.out.tr)
      obtain ⟨qa, hqa⟩ : ∃ qa : Nat, i / 40 = qa := ⟨_, rfl⟩
      obtain ⟨qb, hqb⟩ : ∃ qb : Nat, i % 40 = qb := ⟨_, rfl⟩
      have hrow : rowOf i = [(qa : Int), (qb : Int)] := by unfold rowOf; rw [hqa, hqb]
      have B2 := Aside0.mk (below_alloc (Below.refl W.heap.size W) (.cells #[.int .i64 (qa : Int), .int .i64 (qb : Int)] 3 (0, 0)))
      have T2 := Aside0.mk (TT.out.below B2.out)
      have P := put_calls g 0 (i * 128) X (some ⟨W.heap.size, 0, none⟩) 2 (rowOf i) (i : Int) (min i 1000 : Nat) _ T2.out.tr T2.out.ct (Kd.F_mono (lit_F (l := rowOf i) (by rw [hrow]; exact blk_new W _) (by simp [rowOf])) (fun k hk hf => by have := foot_lt TT.out.tr hf; omega)) (small_row (by have := HNn.out; omega)) (by have := HNn.out; omega) (by omega)
      rw [T2.out.vl, put_row, show (rowOf i).length = 2 from rfl] at P
      have LO := Aside0.mk (show g ≤ W.heap.size by omega)
      have x1 : (i : Int) / 40 = (qa : Int) := by omega
      have x2 : (i : Int) % 40 = (qb : Int) := by omega
      have x3 : (i : Int).tdiv 40 = (qa : Int) := by rw [Int.tdiv_eq_ediv_of_nonneg (by omega)]; exact x1
      have x4 : (i : Int).tmod 40 = (qb : Int) := by rw [Int.tmod_eq_emod_of_nonneg (by omega)]; exact x2
      clear hj hlt hqa hqb hrow
      by_cases hi : i < 1000
      · rw [decide_eq_true hi, if_pos hi] at P
        have HP := Aside0.mk P
        have y1 : decide (i < 1000) = true := decide_eq_true hi
        have y2 : decide (1000 ≤ i) = false := decide_eq_false (by omega)
        have y3 : decide ((i : Int) ≥ 1000) = false := decide_eq_false (by omega)
        have y4 : decide ((i : Int) < 1000) = true := decide_eq_true (by omega)
        clear P hi
        go_wp2_with (go_at_call 10; go_loud ((refine HP.out.mono ?_); rintro e w2 ⟨rfl, d⟩; obtain ⟨X2, t2, p2, b2⟩ := T2.out.then_ (Nat.le_trans LO.out B2.out.size) d; have T3 := Aside0.mk t2; have B3 := Aside0.mk (HB.out.trans ((B2.out.mono LO.out).trans b2)); clear d t2 p2 b2))
        go_roundg k
        case measure => omega
        case rel => exact ⟨i + 1, X2, by go_num, ⟨by have := HJ.out; omega⟩, ⟨by have h := T3.out; rwa [show i * 128 + 128 = (i + 1) * 128 by omega] at h⟩, B3⟩
      · rw [decide_eq_false hi, if_neg hi] at P
        have HP := Aside0.mk P
        have y1 : decide (i < 1000) = false := decide_eq_false hi
        have y2 : decide (1000 ≤ i) = true := decide_eq_true (by omega)
        have y3 : decide ((i : Int) ≥ 1000) = true := decide_eq_true (by omega)
        have y4 : decide ((i : Int) < 1000) = false := decide_eq_false (by omega)
        clear P hi
        go_wp2_with (go_at_call 10; go_loud ((refine HP.out.mono ?_); rintro e w2 ⟨rfl, d⟩; obtain ⟨X2, t2, p2, b2⟩ := T2.out.then_ (Nat.le_trans LO.out B2.out.size) d; have T3 := Aside0.mk t2; have B3 := Aside0.mk (HB.out.trans ((B2.out.mono LO.out).trans b2)); clear d t2 p2 b2))
        go_roundg k
        case measure => omega
        case rel => exact ⟨i + 1, X2, by go_num, ⟨by have := HJ.out; omega⟩, ⟨by have h := T3.out; rwa [show i * 128 + 128 = (i + 1) * 128 by omega] at h⟩, B3⟩
    | zero =>
      have hin : i = n := by omega
      subst hin
      have e1 : decide (i < i) = false := decide_eq_false (by omega)
      obtain ⟨W, hWW⟩ : ∃ W, W = wr := ⟨_, rfl⟩
      subst hWW
      have hlt := foot_lt TT.out.tr (foot_root TT.out.tr)
      have LO := Aside0.mk (show g ≤ W.heap.size by omega)
      clear hj
      by_cases h0 : 0 < i
      · have y1 : decide ((i : Int) > 0) = true := decide_eq_true (by omega)
        have y2 : decide (0 < i) = true := decide_eq_true h0
        have B2 := Aside0.mk (below_alloc (Below.refl W.heap.size W) (.cells #[.int .i64 0, .int .i64 0] 3 (0, 0)))
        have T2 := Aside0.mk (TT.out.below B2.out)
        have P := put_calls g 0 (i * 128) X (some ⟨W.heap.size, 0, none⟩) 2 [0, 0] 77 (min i 1000 : Nat) _ T2.out.tr T2.out.ct (Kd.F_mono (lit_F (l := [0, 0]) (blk_new W _) (by decide)) (fun k hk hf => by have := foot_lt TT.out.tr hf; omega)) (small_i64 (by decide)) (by have := HNn.out; omega) (by omega)
        rw [T2.out.vl, put_last i h0] at P
        have HP := Aside0.mk P
        clear P hlt h0
        go_wp2_with (first
          | (go_at_call 10; go_loud ((refine HP.out.mono ?_); rintro e w2 ⟨rfl, d⟩; obtain ⟨X2, t2, p2, b2⟩ := T2.out.then_ (Nat.le_trans LO.out B2.out.size) d; have T3 := Aside0.mk t2; have B3 := Aside0.mk (HB.out.trans ((B2.out.mono LO.out).trans b2)); have L3 := Aside0.mk (show g ≤ w2.heap.size by have := LO.out; have := B2.out.size; have := b2.size; omega); clear d t2 p2 b2))
          | (go_at_call 11; go_loud ((refine (get_calls g 0 (i * 128 + 128) X2 (some ⟨w2.heap.size, 0, none⟩) 2 [0, 0] (w2.alloc (.cells #[.int .i64 0, .int .i64 0] 3 (0, 0))) (T3.out.tr.below (below_alloc (Below.refl _ _) _)) (Kd.F_now (lit_F (l := [0, 0]) (blk_new w2 _) (by decide))) (small_i64 (by decide))).mono ?_); rw [T3.out.vl, upd_same]; rintro e w3 ⟨rfl, rfl⟩; have T4 := Aside0.mk (T3.out.below (below_alloc (Below.refl _ _) (.cells #[.int .i64 0, .int .i64 0] 3 (0, 0)))); have B4 := Aside0.mk (B3.out.trans ((below_alloc (Below.refl _ _) (.cells #[.int .i64 0, .int .i64 0] 3 (0, 0))).mono L3.out)); have L4 := Aside0.mk (Nat.le_trans L3.out (below_alloc (Below.refl w2.heap.size w2) (.cells #[.int .i64 0, .int .i64 0] 3 (0, 0))).size)))
          | (go_at_call 9; go_loud ((refine (awake_calls _).mono ?_); rintro e w5 ⟨rfl, hb⟩; have T5 := Aside0.mk (T4.out.below hb); have B5 := Aside0.mk (B4.out.trans (hb.mono L4.out)); clear hb))
          | (go_at_call 12; go_loud ((refine (count_calls g 0 (min i 1000 : Nat) w5 T5.out.ct).mono ?_); rintro e w6 ⟨rfl, rfl⟩)))
        go_ret
        refine ⟨?_, by rw [HG.out]; exact B5.out⟩
        have hmn : (((min i 1000 : Nat) : Int) == min (i : Int) 1000) = true := beq_iff_eq.mpr (by omega)
        show Ending.returned (.bool (((min i 1000 : Nat) : Int) == min (i : Int) 1000)) = _
        rw [hmn]
      · have y1 : decide ((i : Int) > 0) = false := decide_eq_false (by omega)
        have y2 : decide (0 < i) = false := decide_eq_false h0
        clear hlt h0
        go_wp2_with (first
          | (go_at_call 9; go_loud ((refine (awake_calls _).mono ?_); rintro e w5 ⟨rfl, hb⟩; have T5 := Aside0.mk (TT.out.below hb); have B5 := Aside0.mk (HB.out.trans (hb.mono LO.out)); clear hb))
          | (go_at_call 12; go_loud ((refine (count_calls g 0 (min i 1000 : Nat) w5 T5.out.ct).mono ?_); rintro e w6 ⟨rfl, rfl⟩)))
        go_ret
        refine ⟨?_, by rw [HG.out]; exact B5.out⟩
        have hmn : (((min i 1000 : Nat) : Int) == min (i : Int) 1000) = true := beq_iff_eq.mpr (by omega)
        show Ending.returned (.bool (((min i 1000 : Nat) : Int) == min (i : Int) 1000)) = _
        rw [hmn]
end Go.Proofs.Ytfnogcppbhggpaa.OTFull
