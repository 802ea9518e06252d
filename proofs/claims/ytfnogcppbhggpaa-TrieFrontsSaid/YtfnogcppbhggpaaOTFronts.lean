/- TrieFronts, walked by hand. -/
import Derived.Test.YtfnogcppbhggpaaOTRows
set_option linter.unusedVariables false
set_option linter.unusedSimpArgs false
namespace Go.Proofs.Ytfnogcppbhggpaa.OTFronts
open Go.RowKit Go.Proofs.YtfnogcppbhggpaaW.PrintWords Go.Proofs.YtfnogcppbhggpaaW.PrintLast Go.Proofs.YtfnogcppbhggpaaW.PrintMore Go.Proofs.Ytfnogcppbhggpaa.GQ Go.Proofs.Ytfnogcppbhggpaa.OMap Go.Proofs.Ytfnogcppbhggpaa.UTrie Go.Proofs.Ytfnogcppbhggpaa.OTrie Go.Maps
open Classical in
/-- The law's answer within the row's bounds. -/
noncomputable def tillerlaw13_TrieFronts.f (l0 : List (List Int)) (l1 : List Int) : Option Bool := if (∀ x ∈ l0, okL x) ∧ okL l1 then some true else none
set_option maxHeartbeats 16000000 in
set_option maxRecDepth 100000 in
theorem tillerlaw13_TrieFronts.calls (A0 : Option Addr) (c0 : Nat) (l0 : List (List Int)) (A1 : Option Addr) (c1 : Nat) (l1 : List Int) (r : Bool) (w : World) (hr0 : Kd.C kL w A0 l0.length l0) (hc0 : l0.length ≤ c0) (hr1 : Kd.C kI w A1 l1.length l1) (hc1 : l1.length ≤ c1) (hr_ : Aside0 (r = true)) (h : tillerlaw13_TrieFronts.f l0 l1 = some r) :
    Calls Try.prog 4 #[.slice A0 l0.length c0, .slice A1 l1.length c1] w fun e w' => e = .returned (.bool r) ∧ Below w.heap.size w w' := by
  obtain ⟨hr⟩ := hr_
  subst hr
  have OK := Aside0.mk (show (∀ x ∈ l0, okL x) ∧ okL l1 by
    unfold tillerlaw13_TrieFronts.f at h
    by_cases e : (∀ x ∈ l0, okL x) ∧ okL l1
    · exact e
    · rw [if_neg e] at h; cases h)
  have R0 := Aside0.mk hr0
  have R1 := Aside0.mk (And.intro hr1 hc1)
  obtain ⟨n, hn⟩ : ∃ n, l0.length = n := ⟨_, rfl⟩
  have HNn := Aside0.mk hn
  obtain ⟨n1, hn1⟩ : ∃ n1, l1.length = n1 := ⟨_, rfl⟩
  have HN1 := Aside0.mk hn1
  obtain ⟨M, hM⟩ : ∃ M : Nat, M = min n 30 := ⟨_, rfl⟩
  have HM := Aside0.mk hM
  rw [hn, hn1]
  clear h hr0 hc0 hr1 hc1 hn hn1 hM
  obtain ⟨w1, hw1⟩ : ∃ w1, w1 = w.alloc (.cells zcells 27 (0, 0)) := ⟨_, rfl⟩
  have B1 := Aside0.mk (show Below w.heap.size w w1 by rw [hw1]; exact below_alloc (Below.refl _ _) _)
  have Z1 := Aside0.mk (show Tr w1 w.heap.size 0 0 (fun _ => none) w.heap.size (zX w.heap.size 0) from Tr.zero (by rw [hw1]; exact blk_new _ _))
  go_enter Try.func4, Try.ntmps4
  go_upto_region 2 with (fail)
  rw [← hw1]
  clear hw1
  generalize hg : w.heap.size = g at Z1 B1 ⊢
  have HG := Aside0.mk hg
  clear hg
  go_wp2
  go_loopg [6] M (fun kq v6 w' => ∃ (i : Nat) (X : TX) (cnt : Int) (val : Row → Option Int), v6 = .int .i64 (i : Int) ∧ Aside0 (i + kq = M) ∧ Aside0 (0 ≤ cnt ∧ cnt ≤ i) ∧ Aside0 (Tr w' g (i * 128) cnt val g X) ∧ Aside0 (Below g w w'))
  case atStart => exact ⟨0, zX g 0, 0, _, rfl, ⟨Nat.zero_add _⟩, ⟨by decide, by decide⟩, Z1, B1⟩
  case round =>
    obtain ⟨i, X, cnt, val, rfl, HJ, HC, TT, HB⟩ := hrel
    have hj := HJ.out
    have hm := HM.out
    have hlt := foot_lt TT.out.tr (foot_root TT.out.tr)
    have LO := Aside0.mk (show g ≤ wr.heap.size by omega)
    have BW := Aside0.mk (show Below w.heap.size w wr by rw [HG.out]; exact HB.out)
    cases gk with
    | succ k =>
      have e1 : decide (i < n) = true := decide_eq_true (by omega)
      have e2 : decide (i < 30) = true := decide_eq_true (by omega)
      have e3 : decide ((i : Int) < 30) = true := decide_eq_true (by omega)
      have p1 : 0 ≤ (i : Int) := by omega
      have q1 : (i : Int) < (n : Int) := by omega
      have q2 : (i : Int) ≤ 30 := by omega
      obtain ⟨ad, A', c', e0, hx0, hl0, hC0⟩ := at_row (Kd.C_below R0.out BW.out) i (by rw [HNn.out]; omega)
      cases e0
      have OR := Aside0.mk (okL_take (OK.out.1 _ (row_mem l0 i (by rw [HNn.out]; omega))) 140)
      have FC := Aside0.mk (few_calls A' c' (row l0 i) 140 (by omega) wr hC0 hl0)
      obtain ⟨t, ht⟩ : ∃ t, (row l0 i).take 140 = t := ⟨_, rfl⟩
      obtain ⟨nr, hnr⟩ : ∃ nr, (row l0 i).length = nr := ⟨_, rfl⟩
      rw [ht] at FC OR
      rw [hnr] at FC hx0
      clear hj hm hl0 hC0 ht hnr hlt
      go_wp2_with (first
        | (go_at_call 13; go_loud ((refine FC.out.mono ?_); rintro e w2 ⟨A2, c2, rfl, hR, hb⟩; have F2 := Aside0.mk (fresh_F TT.out.tr hR); have T2 := Aside0.mk (TT.out.below hb); have B2 := Aside0.mk (HB.out.trans (hb.mono LO.out)); have L2 := Aside0.mk (Nat.le_trans LO.out hb.size); clear hR hb))
        | (go_at_call 10; go_loud ((refine (put_calls g 0 (i * 128) X A2 c2 t (i : Int) cnt w2 T2.out.tr T2.out.ct F2.out OR.out (by have := HJ.out; have := HM.out; omega) (by have := HC.out; have := HJ.out; have := HM.out; omega)).mono ?_); rintro e w3 ⟨rfl, d⟩; obtain ⟨X3, t3, p3, b3⟩ := T2.out.then_ L2.out d; have T3 := Aside0.mk t3; have B3 := Aside0.mk (B2.out.trans b3); clear d t3 p3 b3)))
      go_roundg k
      case measure => omega
      case rel => exact ⟨i + 1, X3, (tPut X.val cnt t (i : Int)).2.1, (tPut X.val cnt t (i : Int)).1, by go_num, ⟨by have := HJ.out; omega⟩, ⟨by have := tPut_cnt X.val cnt t (i : Int) HC.out.1; have := HC.out; omega⟩, ⟨by have h := T3.out; rwa [show i * 128 + 128 = (i + 1) * 128 by omega] at h⟩, B3⟩
    | zero =>
      have b1 : decide (i < n) = false ∨ (decide (i < n) = true ∧ decide ((i : Int) < 30) = false ∧ decide (i < 30) = false) := by
        by_cases h1 : i < n
        · exact .inr ⟨decide_eq_true h1, decide_eq_false (by omega), decide_eq_false (by omega)⟩
        · exact .inl (decide_eq_false h1)
      have FC := Aside0.mk (few_calls A1 c1 l1 20 (by omega) wr (Kd.C_below R1.out.1 BW.out) R1.out.2)
      have OR := Aside0.mk (okL_take OK.out.2 20)
      obtain ⟨t, ht⟩ : ∃ t, l1.take 20 = t := ⟨_, rfl⟩
      have TL := Aside0.mk (show t.length ≤ 20 by rw [← ht]; exact List.length_take_le _ _)
      rw [ht] at FC OR
      rw [HN1.out] at FC
      clear hj hm ht hlt
      rcases b1 with b1 | ⟨b1, b2, b3⟩
      all_goals (
        go_wp2_with (go_at_call 13; go_loud ((refine FC.out.mono ?_); rintro e w2 ⟨A2, c2, rfl, hR, hb⟩; have C2 := Aside0.mk (Kd.R_reads' hR); have T2 := Aside0.mk (TT.out.below hb); have B2 := Aside0.mk (HB.out.trans (hb.mono LO.out)); have L2 := Aside0.mk (Nat.le_trans LO.out hb.size); clear hR hb))
        obtain ⟨nt, hnt⟩ : ∃ nt, t.length = nt := ⟨_, rfl⟩
        have HNT := Aside0.mk hnt
        rw [hnt]
        have hnt2 : (nt : Int) ≤ 20 := by have := TL.out; omega
        have VL := Aside0.mk T2.out.vl
        clear hnt FC
        go_loopg [7, 8, 9] nt (fun kq v7 v8 v9 w' => ∃ (j : Nat), v7 = .int .i64 ((long X.val t j).1 : Int) ∧ v8 = .int .i64 (long X.val t j).2 ∧ v9 = .int .i64 ((j : Int) + 1) ∧ Aside0 (j + kq = nt) ∧ w' = w2)
        case atStart => exact ⟨0, rfl, rfl, rfl, ⟨Nat.zero_add _⟩, rfl⟩
        case round =>
          obtain ⟨j, rfl, rfl, rfl, HJ2, rfl⟩ := hrel
          have hj := HJ2.out
          cases gk with
          | succ k =>
            have d1 : decide ((j : Int) + 1 ≤ (nt : Int)) = true := decide_eq_true (by omega)
            have d2 : decide (j + 1 ≤ nt) = true := decide_eq_true (by omega)
            have d3 : decide (j < nt) = true := decide_eq_true (by omega)
            have p3 : 0 ≤ (j : Int) + 1 := by omega
            have q3 : (j : Int) + 1 ≤ (nt : Int) := by omega
            have hcap : nt ≤ c2 := by rw [← HNT.out]; exact C2.out.2.1
            have q4 : (j : Int) + 1 ≤ (c2 : Int) := by omega
            have GC := get_calls g 0 (i * 128) X A2 c2 (t.take (j + 1)) wr T2.out.tr (Kd.C_take C2.out.2.2 (by rw [HNT.out]; omega)) (okL_take OR.out (j + 1))
            rw [show (t.take (j + 1)).length = j + 1 by rw [List.length_take, HNT.out]; omega] at GC
            have x5 : ((j : Int) + 1).toNat = j + 1 := by omega
            clear hj hcap
            cases hv : X.val (t.take (j + 1)) with
            | none =>
              rw [hv] at GC
              simp only [Option.getD_none, Option.isSome_none] at GC
              have HGC := Aside0.mk GC
              have EL := Aside0.mk (long_none hv)
              clear GC hv
              go_wp2_with (go_at_call 11; go_loud ((refine HGC.out.mono ?_); rintro e w4 ⟨rfl, rfl⟩))
              go_roundg k
              case measure => omega
              case rel => exact ⟨j + 1, by rw [EL.out], by rw [EL.out], by go_num, ⟨by have := HJ2.out; omega⟩, rfl⟩
            | some u =>
              rw [hv] at GC
              simp only [Option.getD_some, Option.isSome_some] at GC
              have HGC := Aside0.mk GC
              have EL := Aside0.mk (long_some hv)
              clear GC hv
              go_wp2_with (go_at_call 11; go_loud ((refine HGC.out.mono ?_); rintro e w4 ⟨rfl, rfl⟩))
              go_roundg k
              case measure => omega
              case rel => exact ⟨j + 1, by rw [EL.out]; go_num, by rw [EL.out], by go_num, ⟨by have := HJ2.out; omega⟩, rfl⟩
          | zero =>
            have hin : j = nt := by omega
            subst hin
            have d1 : decide ((j : Int) + 1 ≤ (j : Int)) = false := decide_eq_false (by omega)
            have d2 : decide (j + 1 ≤ j) = false := decide_eq_false (by omega)
            have LC := Aside0.mk (longest_calls g 0 (i * 128) X A2 c2 t wr T2.out.tr C2.out.2.2 OR.out)
            rw [HNT.out] at LC
            obtain ⟨za, hza⟩ : ∃ za, (long X.val t j).1 = za := ⟨_, rfl⟩
            obtain ⟨zb, hzb⟩ : ∃ zb, (long X.val t j).2 = zb := ⟨_, rfl⟩
            rw [hza, hzb] at LC ⊢
            have f1 : ((za : Int) == (za : Int)) = true := by simp
            have f2 : (zb == zb) = true := by simp
            clear hj hza hzb
            go_wp2_with (first
              | (go_at_call 14; go_loud ((refine LC.out.mono ?_); rintro e w5 ⟨rfl, hb⟩; have B5 := Aside0.mk (B2.out.trans (hb.mono L2.out)); have L5 := Aside0.mk (Nat.le_trans L2.out hb.size); clear hb))
              | (go_at_call 9; go_loud ((refine (awake_calls _).mono ?_); rintro e w6 ⟨rfl, hb⟩; have B6 := Aside0.mk (B5.out.trans (hb.mono L5.out)); clear hb)))
            go_ret
            exact ⟨rfl, by rw [HG.out]; exact B6.out⟩)
end Go.Proofs.Ytfnogcppbhggpaa.OTFronts
