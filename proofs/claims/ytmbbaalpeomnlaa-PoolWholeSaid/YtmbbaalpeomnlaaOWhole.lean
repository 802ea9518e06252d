/- PoolWhole, walked by hand: what always holds of a pool, behind any calls. Printed by wip/tool/owhole.py. -/
import Derived.Test.YtmbbaalpeomnlaaOAct
import Derived.Test.YtmbbaalpeomnlaaOTaken
set_option linter.unusedVariables false
set_option linter.unusedSimpArgs false
namespace Go.Proofs.Ytmbbaalpeomnlaa.OWhole
open Go.RowKit Go.Proofs.YtmbbaalpeomnlaaW.PrintWords Go.Proofs.YtmbbaalpeomnlaaW.PrintLast Go.Proofs.YtmbbaalpeomnlaaW.PrintMore Go.Proofs.Ytmbbaalpeomnlaa.GQ Go.Proofs.Ytmbbaalpeomnlaa.OPool Go.Proofs.Ytmbbaalpeomnlaa.OInv
def tillerlaw12_PoolWhole.f (a0 : Int) (l1 : List S47) : Option Bool := if -9223372036854775808 ≤ a0 ∧ a0 ≤ 9223372036854775807 then some true else none
/-- The counts, as whole numbers that are laid side by side. -/
theorem three {X : PX} (h : Inv X) {n : Nat} (hn : X.pages.length = n) : ∃ F E D : Nat, cfre X.pages = F ∧ X.idle.length = D ∧ (X.pages.length : Int) - (cfre X.pages : Int) - (X.idle.length : Int) = (E : Int) ∧ F + E + D = n ∧ n ≤ 64 := by
  have h1 := h.counts
  have h2 := h.len
  exact ⟨cfre X.pages, n - cfre X.pages - X.idle.length, X.idle.length, rfl, rfl, by omega, by omega, by omega⟩
set_option maxHeartbeats 16000000 in
set_option maxRecDepth 100000 in
theorem tillerlaw12_PoolWhole.calls (a0 : Int) (A1 : Option Addr) (c1 : Nat) (l1 : List S47) (r : Bool) (w : World) (hr1 : Kd.C k47 w A1 l1.length l1) (hc1 : l1.length ≤ c1) (hr_ : Aside0 (r = true)) (h : tillerlaw12_PoolWhole.f a0 l1 = some r) : Calls Try.prog 7 #[.int .i64 a0, .slice A1 l1.length c1] w fun e w' => e = .returned (.bool r) ∧ Below w.heap.size w w' := by
  obtain ⟨r_⟩ := hr_
  subst r_
  clear h
  by_cases hn : a0 < 1 ∨ a0 > 64
  · rcases hn with hn | hn
    · have d1 : decide (a0 < 1) = true := decide_eq_true hn
      clear hr1
      go_enter Try.func7, Try.ntmps7
      go_wp2_with (go_at_call 8; refine (awake_calls _).mono ?_; rintro e w1 ⟨rfl, hb⟩)
      go_ret
      exact ⟨rfl, hb⟩
    · have d1 : decide (a0 < 1) = false := decide_eq_false (by omega)
      have d2 : decide (a0 > 64) = true := decide_eq_true hn
      clear hr1
      go_enter Try.func7, Try.ntmps7
      go_wp2_with (go_at_call 8; refine (awake_calls _).mono ?_; rintro e w1 ⟨rfl, hb⟩)
      go_ret
      exact ⟨rfl, hb⟩
  obtain ⟨n, rfl⟩ : ∃ n : Nat, a0 = (n : Int) := ⟨a0.toNat, (Int.toNat_of_nonneg (by omega)).symm⟩
  have d1 : decide ((n : Int) < 1) = false := decide_eq_false (by omega)
  have d2 : decide ((n : Int) > 64) = false := decide_eq_false (by omega)
  have hn1 : n ≤ 64 := by omega
  have hn0 : 1 ≤ n := by omega
  clear hn
  have HR := Aside0.mk hr1
  have HF := Aside0.mk (show (fresh n).pages.length = n by show (List.replicate n z55).length = n; rw [List.length_replicate])
  have HJ := Aside0.mk (inv_fresh n hn1)
  obtain ⟨M, hM⟩ : ∃ M : Nat, M = min l1.length 80 := ⟨_, rfl⟩
  have HM := Aside0.mk hM
  clear hr1 hM
  go_enter Try.func7, Try.ntmps7
  go_wp2_with (first
    | (go_at_call 9; refine (new_ok n w hn0 (by omega)).mono ?_; rintro e w1 ⟨g, rfl, hP, hb⟩; have P1 := Aside0.mk hP; have B1 := Aside0.mk hb; clear hP hb))
  go_loopg [7] M (fun kq v7 w' => ∃ (i : Nat) (X : PX), v7 = .int .i64 (i : Int) ∧ Aside0 (i + kq = M) ∧ Aside0 (Inv X ∧ X.pages.length = n) ∧ Aside0 (PoolAt w.heap.size (fun k => w.heap.size ≤ k) w' g X) ∧ Aside0 (Below w.heap.size w w'))
  case atStart => exact ⟨0, fresh n, rfl, ⟨Nat.zero_add _⟩, ⟨HJ.out, HF.out⟩, P1, B1⟩
  case round =>
    clear P1 B1 HF HJ
    obtain ⟨i, X, rfl, HI, HX, HP, HB⟩ := hrel
    have hi := HI.out
    have hm := HM.out
    cases gk with
    | succ k =>
      have b1 : decide (i < l1.length) = true := decide_eq_true (by omega)
      have b2 : decide ((i : Int) < 80) = true := decide_eq_true (by omega)
      have b2' : decide (i < 80) = true := decide_eq_true (by omega)
      have hi2 : (i : Int) + 1 ≤ 80 := by omega
      have p102 : 0 ≤ (i : Int) := by omega
      have q102 : (i : Int) < (l1.length : Int) := by omega
      have q103 : i < l1.length := by omega
      obtain ⟨ad102, e102, hx0, hx1, hx2⟩ := at_act HR.out (i : Int) p102 q102
      cases e102
      replace hx0 := (HB.out.cell (World.block_lt_of_cell? w _ hx0)).trans hx0
      replace hx1 := (HB.out.cell (World.block_lt_of_cell? w _ hx1)).trans hx1
      replace hx2 := (HB.out.cell (World.block_lt_of_cell? w _ hx2)).trans hx2
      simp only [Int.toNat_natCast] at hx0 hx1 hx2
      generalize act l1 (i : Int) = a at hx0 hx1 hx2
      have HS := Aside0.mk HB.out.size
      have PB := Aside0.mk (HP.out.beside (.cells #[.int .i64 a.f0, .int .i64 a.f1, .int .i64 a.f2] 47 (0, 0)))
      have FB := Aside0.mk (show ∀ k, (wr.alloc (.cells #[.int .i64 a.f0, .int .i64 a.f1, .int .i64 a.f2] 47 (0, 0))).heap.size ≤ k → w.heap.size ≤ k ∧ k ≠ wr.heap.size from fun k hk => by rw [World.size_alloc] at hk; have := HS.out; exact ⟨by omega, by omega⟩)
      have KB := Aside0.mk (blk_new wr (.cells #[.int .i64 a.f0, .int .i64 a.f1, .int .i64 a.f2] 47 (0, 0)))
      have BB := Aside0.mk (HB.out.alloc HS.out (.cells #[.int .i64 a.f0, .int .i64 a.f1, .int .i64 a.f2] 47 (0, 0)))
      clear hi hm
      by_cases c1 : a.f0 = 1
      · rw [c1] at hx0 PB FB KB BB
        obtain ⟨Y, hY⟩ : ∃ Y, Y = (pTake X).1 := ⟨_, rfl⟩
        have IY : Inv Y ∧ Y.pages.length = n := by rw [hY]; exact ⟨(inv_take HX.out.1), ((len_take X).trans HX.out.2)⟩
        obtain ⟨F, E, D, f1, f2, f3, f4, f5⟩ := three IY.1 IY.2
        have HY := Aside0.mk hY
        have IY := Aside0.mk IY
        have CN := Aside0.mk (And.intro f1 (And.intro f3 f2))
        have s1 : ((F : Int) + (E : Int) + (D : Int) != (n : Int)) = false := bne_eq_false_iff_eq.mpr (by omega)
        have s2 : F + E + D ≤ 64 := by omega
        clear hY f1 f2 f3 f4 f5 c1
        cases hf : findB a.f2 Y.pages
        · have FN := Aside0.mk hf
          clear hf
          go_wp2_with (first
            | (go_at_call 10; refine (take_calls _ _ g X _ PB.out HX.out.1.ask_take).mono ?_; rintro e w3 ⟨rfl, hb, hk, hP⟩; rw [← HY.out] at hP; have P3 := Aside0.mk (hP.mono (fun k hk => hk.1)); have B3 := Aside0.mk (BB.out.trans hb); have K3 := Aside0.mk (blk_kept KB.out hk (fun hh => hh.2 rfl)); have q3 := (blk_cell K3.out 2).trans (show _ = some (.int .i64 a.f2) from rfl); clear hb hk hP)
            | (go_at_call 14; refine (counts_at _ _ g Y _ P3.out).mono ?_; rw [CN.out.2.1, CN.out.1, CN.out.2.2]; rintro e w4 ⟨rfl, ⟨_, _, hP⟩, hb⟩; have P4 := Aside0.mk hP; have B4 := Aside0.mk (below_step B3.out hb); have K4 := Aside0.mk (blk_below K3.out hb); have q4 := (blk_cell K4.out 2).trans (show _ = some (.int .i64 a.f2) from rfl); clear hb hP)
            | (go_at_call 17; refine (find_at _ _ g Y a.f2 _ P4.out).mono ?_; rw [FN.out]; rintro e w5 ⟨rfl, ⟨_, _, hP⟩, hb⟩; have P5 := Aside0.mk hP; have B5 := Aside0.mk (below_step B4.out hb); clear hb hP))
          go_roundg k
          case measure => omega
          case rel => exact ⟨i + 1, Y, by go_num, ⟨by have := HI.out; omega⟩, IY, P5, B5⟩
        · have FN := Aside0.mk hf
          obtain ⟨g1, g2, g3⟩ := find_closed hf
          rw [IY.out.2] at g2
          obtain ⟨t, ht⟩ : ∃ t, findI a.f2 Y.pages = t := ⟨_, rfl⟩
          rw [ht] at g1 g2 g3
          have T1 : decide (t < 0) = false := decide_eq_false (by omega)
          have T2 : decide (t ≥ (n : Int)) = false := decide_eq_false (by omega)
          have FT := Aside0.mk ht
          have FO := Aside0.mk g3
          clear hf ht g1 g2 g3
          go_wp2_with (first
            | (go_at_call 10; refine (take_calls _ _ g X _ PB.out HX.out.1.ask_take).mono ?_; rintro e w3 ⟨rfl, hb, hk, hP⟩; rw [← HY.out] at hP; have P3 := Aside0.mk (hP.mono (fun k hk => hk.1)); have B3 := Aside0.mk (BB.out.trans hb); have K3 := Aside0.mk (blk_kept KB.out hk (fun hh => hh.2 rfl)); have q3 := (blk_cell K3.out 2).trans (show _ = some (.int .i64 a.f2) from rfl); clear hb hk hP)
            | (go_at_call 14; refine (counts_at _ _ g Y _ P3.out).mono ?_; rw [CN.out.2.1, CN.out.1, CN.out.2.2]; rintro e w4 ⟨rfl, ⟨_, _, hP⟩, hb⟩; have P4 := Aside0.mk hP; have B4 := Aside0.mk (below_step B3.out hb); have K4 := Aside0.mk (blk_below K3.out hb); have q4 := (blk_cell K4.out 2).trans (show _ = some (.int .i64 a.f2) from rfl); clear hb hP)
            | (go_at_call 17; refine (find_at _ _ g Y a.f2 _ P4.out).mono ?_; rw [FN.out, FT.out]; rintro e w5 ⟨rfl, ⟨_, _, hP⟩, hb⟩; have P5 := Aside0.mk hP; have B5 := Aside0.mk (below_step B4.out hb); clear hb hP)
            | (go_at_call 18; refine (open_at _ _ g Y _ _ P5.out).mono ?_; rw [FO.out]; rintro e w6 ⟨rfl, rfl⟩))
          go_roundg k
          case measure => omega
          case rel => exact ⟨i + 1, Y, by go_num, ⟨by have := HI.out; omega⟩, IY, P5, B5⟩
      by_cases c2 : a.f0 = 2
      · have e1 : (a.f0 == 1) = false := beq_eq_false_iff_ne.mpr c1
        rw [c2] at hx0 PB FB KB BB
        obtain ⟨Y, hY⟩ : ∃ Y, Y = (pHold X a.f1).1 := ⟨_, rfl⟩
        have IY : Inv Y ∧ Y.pages.length = n := by rw [hY]; exact ⟨(inv_hold HX.out.1 _), ((len_hold X _).trans HX.out.2)⟩
        obtain ⟨F, E, D, f1, f2, f3, f4, f5⟩ := three IY.1 IY.2
        have HY := Aside0.mk hY
        have IY := Aside0.mk IY
        have CN := Aside0.mk (And.intro f1 (And.intro f3 f2))
        have s1 : ((F : Int) + (E : Int) + (D : Int) != (n : Int)) = false := bne_eq_false_iff_eq.mpr (by omega)
        have s2 : F + E + D ≤ 64 := by omega
        clear hY f1 f2 f3 f4 f5 c1 c2
        cases hf : findB a.f2 Y.pages
        · have FN := Aside0.mk hf
          clear hf
          go_wp2_with (first
            | (go_at_call 11; refine (hold_calls _ _ g X _ _ PB.out FB.out (HX.out.1.ask_hold _).1 (HX.out.1.ask_hold _).2).mono ?_; rintro e w3 ⟨rfl, hb, hk, hP⟩; rw [← HY.out] at hP; have P3 := Aside0.mk (hP.mono (fun k hk => hk.1)); have B3 := Aside0.mk (BB.out.trans hb); have K3 := Aside0.mk (blk_kept KB.out hk (fun hh => hh.2 rfl)); have q3 := (blk_cell K3.out 2).trans (show _ = some (.int .i64 a.f2) from rfl); clear hb hk hP)
            | (go_at_call 14; refine (counts_at _ _ g Y _ P3.out).mono ?_; rw [CN.out.2.1, CN.out.1, CN.out.2.2]; rintro e w4 ⟨rfl, ⟨_, _, hP⟩, hb⟩; have P4 := Aside0.mk hP; have B4 := Aside0.mk (below_step B3.out hb); have K4 := Aside0.mk (blk_below K3.out hb); have q4 := (blk_cell K4.out 2).trans (show _ = some (.int .i64 a.f2) from rfl); clear hb hP)
            | (go_at_call 17; refine (find_at _ _ g Y a.f2 _ P4.out).mono ?_; rw [FN.out]; rintro e w5 ⟨rfl, ⟨_, _, hP⟩, hb⟩; have P5 := Aside0.mk hP; have B5 := Aside0.mk (below_step B4.out hb); clear hb hP))
          go_roundg k
          case measure => omega
          case rel => exact ⟨i + 1, Y, by go_num, ⟨by have := HI.out; omega⟩, IY, P5, B5⟩
        · have FN := Aside0.mk hf
          obtain ⟨g1, g2, g3⟩ := find_closed hf
          rw [IY.out.2] at g2
          obtain ⟨t, ht⟩ : ∃ t, findI a.f2 Y.pages = t := ⟨_, rfl⟩
          rw [ht] at g1 g2 g3
          have T1 : decide (t < 0) = false := decide_eq_false (by omega)
          have T2 : decide (t ≥ (n : Int)) = false := decide_eq_false (by omega)
          have FT := Aside0.mk ht
          have FO := Aside0.mk g3
          clear hf ht g1 g2 g3
          go_wp2_with (first
            | (go_at_call 11; refine (hold_calls _ _ g X _ _ PB.out FB.out (HX.out.1.ask_hold _).1 (HX.out.1.ask_hold _).2).mono ?_; rintro e w3 ⟨rfl, hb, hk, hP⟩; rw [← HY.out] at hP; have P3 := Aside0.mk (hP.mono (fun k hk => hk.1)); have B3 := Aside0.mk (BB.out.trans hb); have K3 := Aside0.mk (blk_kept KB.out hk (fun hh => hh.2 rfl)); have q3 := (blk_cell K3.out 2).trans (show _ = some (.int .i64 a.f2) from rfl); clear hb hk hP)
            | (go_at_call 14; refine (counts_at _ _ g Y _ P3.out).mono ?_; rw [CN.out.2.1, CN.out.1, CN.out.2.2]; rintro e w4 ⟨rfl, ⟨_, _, hP⟩, hb⟩; have P4 := Aside0.mk hP; have B4 := Aside0.mk (below_step B3.out hb); have K4 := Aside0.mk (blk_below K3.out hb); have q4 := (blk_cell K4.out 2).trans (show _ = some (.int .i64 a.f2) from rfl); clear hb hP)
            | (go_at_call 17; refine (find_at _ _ g Y a.f2 _ P4.out).mono ?_; rw [FN.out, FT.out]; rintro e w5 ⟨rfl, ⟨_, _, hP⟩, hb⟩; have P5 := Aside0.mk hP; have B5 := Aside0.mk (below_step B4.out hb); clear hb hP)
            | (go_at_call 18; refine (open_at _ _ g Y _ _ P5.out).mono ?_; rw [FO.out]; rintro e w6 ⟨rfl, rfl⟩))
          go_roundg k
          case measure => omega
          case rel => exact ⟨i + 1, Y, by go_num, ⟨by have := HI.out; omega⟩, IY, P5, B5⟩
      by_cases c3 : a.f0 = 3
      · have e1 : (a.f0 == 1) = false := beq_eq_false_iff_ne.mpr c1
        have e2 : (a.f0 == 2) = false := beq_eq_false_iff_ne.mpr c2
        rw [c3] at hx0 PB FB KB BB
        obtain ⟨Y, hY⟩ : ∃ Y, Y = (pSeal X a.f1 a.f2).1 := ⟨_, rfl⟩
        have IY : Inv Y ∧ Y.pages.length = n := by rw [hY]; exact ⟨(inv_seal HX.out.1 _ _), ((len_seal X _ _).trans HX.out.2)⟩
        obtain ⟨F, E, D, f1, f2, f3, f4, f5⟩ := three IY.1 IY.2
        have HY := Aside0.mk hY
        have IY := Aside0.mk IY
        have CN := Aside0.mk (And.intro f1 (And.intro f3 f2))
        have s1 : ((F : Int) + (E : Int) + (D : Int) != (n : Int)) = false := bne_eq_false_iff_eq.mpr (by omega)
        have s2 : F + E + D ≤ 64 := by omega
        clear hY f1 f2 f3 f4 f5 c1 c2 c3
        cases hf : findB a.f2 Y.pages
        · have FN := Aside0.mk hf
          clear hf
          go_wp2_with (first
            | (go_at_call 15; refine (seal_calls _ _ g X _ _ _ PB.out).mono ?_; rintro e w3 ⟨rfl, hb, hk, hP⟩; rw [← HY.out] at hP; have P3 := Aside0.mk (hP.mono (fun k hk => hk.1)); have B3 := Aside0.mk (BB.out.trans hb); have K3 := Aside0.mk (blk_kept KB.out hk (fun hh => hh.2 rfl)); have q3 := (blk_cell K3.out 2).trans (show _ = some (.int .i64 a.f2) from rfl); clear hb hk hP)
            | (go_at_call 14; refine (counts_at _ _ g Y _ P3.out).mono ?_; rw [CN.out.2.1, CN.out.1, CN.out.2.2]; rintro e w4 ⟨rfl, ⟨_, _, hP⟩, hb⟩; have P4 := Aside0.mk hP; have B4 := Aside0.mk (below_step B3.out hb); have K4 := Aside0.mk (blk_below K3.out hb); have q4 := (blk_cell K4.out 2).trans (show _ = some (.int .i64 a.f2) from rfl); clear hb hP)
            | (go_at_call 17; refine (find_at _ _ g Y a.f2 _ P4.out).mono ?_; rw [FN.out]; rintro e w5 ⟨rfl, ⟨_, _, hP⟩, hb⟩; have P5 := Aside0.mk hP; have B5 := Aside0.mk (below_step B4.out hb); clear hb hP))
          go_roundg k
          case measure => omega
          case rel => exact ⟨i + 1, Y, by go_num, ⟨by have := HI.out; omega⟩, IY, P5, B5⟩
        · have FN := Aside0.mk hf
          obtain ⟨g1, g2, g3⟩ := find_closed hf
          rw [IY.out.2] at g2
          obtain ⟨t, ht⟩ : ∃ t, findI a.f2 Y.pages = t := ⟨_, rfl⟩
          rw [ht] at g1 g2 g3
          have T1 : decide (t < 0) = false := decide_eq_false (by omega)
          have T2 : decide (t ≥ (n : Int)) = false := decide_eq_false (by omega)
          have FT := Aside0.mk ht
          have FO := Aside0.mk g3
          clear hf ht g1 g2 g3
          go_wp2_with (first
            | (go_at_call 15; refine (seal_calls _ _ g X _ _ _ PB.out).mono ?_; rintro e w3 ⟨rfl, hb, hk, hP⟩; rw [← HY.out] at hP; have P3 := Aside0.mk (hP.mono (fun k hk => hk.1)); have B3 := Aside0.mk (BB.out.trans hb); have K3 := Aside0.mk (blk_kept KB.out hk (fun hh => hh.2 rfl)); have q3 := (blk_cell K3.out 2).trans (show _ = some (.int .i64 a.f2) from rfl); clear hb hk hP)
            | (go_at_call 14; refine (counts_at _ _ g Y _ P3.out).mono ?_; rw [CN.out.2.1, CN.out.1, CN.out.2.2]; rintro e w4 ⟨rfl, ⟨_, _, hP⟩, hb⟩; have P4 := Aside0.mk hP; have B4 := Aside0.mk (below_step B3.out hb); have K4 := Aside0.mk (blk_below K3.out hb); have q4 := (blk_cell K4.out 2).trans (show _ = some (.int .i64 a.f2) from rfl); clear hb hP)
            | (go_at_call 17; refine (find_at _ _ g Y a.f2 _ P4.out).mono ?_; rw [FN.out, FT.out]; rintro e w5 ⟨rfl, ⟨_, _, hP⟩, hb⟩; have P5 := Aside0.mk hP; have B5 := Aside0.mk (below_step B4.out hb); clear hb hP)
            | (go_at_call 18; refine (open_at _ _ g Y _ _ P5.out).mono ?_; rw [FO.out]; rintro e w6 ⟨rfl, rfl⟩))
          go_roundg k
          case measure => omega
          case rel => exact ⟨i + 1, Y, by go_num, ⟨by have := HI.out; omega⟩, IY, P5, B5⟩
      by_cases c4 : a.f0 = 4
      · have e1 : (a.f0 == 1) = false := beq_eq_false_iff_ne.mpr c1
        have e2 : (a.f0 == 2) = false := beq_eq_false_iff_ne.mpr c2
        have e3 : (a.f0 == 3) = false := beq_eq_false_iff_ne.mpr c3
        rw [c4] at hx0 PB FB KB BB
        obtain ⟨Y, hY⟩ : ∃ Y, Y = (pDrop X a.f1).1 := ⟨_, rfl⟩
        have IY : Inv Y ∧ Y.pages.length = n := by rw [hY]; exact ⟨(inv_drop HX.out.1 _), ((len_drop X _).trans HX.out.2)⟩
        obtain ⟨F, E, D, f1, f2, f3, f4, f5⟩ := three IY.1 IY.2
        have HY := Aside0.mk hY
        have IY := Aside0.mk IY
        have CN := Aside0.mk (And.intro f1 (And.intro f3 f2))
        have s1 : ((F : Int) + (E : Int) + (D : Int) != (n : Int)) = false := bne_eq_false_iff_eq.mpr (by omega)
        have s2 : F + E + D ≤ 64 := by omega
        clear hY f1 f2 f3 f4 f5 c1 c2 c3 c4
        cases hf : findB a.f2 Y.pages
        · have FN := Aside0.mk hf
          clear hf
          go_wp2_with (first
            | (go_at_call 13; refine (drop_calls _ _ g X _ _ PB.out FB.out (HX.out.1.ask_drop _).1 (HX.out.1.ask_drop _).2).mono ?_; rintro e w3 ⟨rfl, hb, hk, hP⟩; rw [← HY.out] at hP; have P3 := Aside0.mk (hP.mono (fun k hk => hk.1)); have B3 := Aside0.mk (BB.out.trans hb); have K3 := Aside0.mk (blk_kept KB.out hk (fun hh => hh.2 rfl)); have q3 := (blk_cell K3.out 2).trans (show _ = some (.int .i64 a.f2) from rfl); clear hb hk hP)
            | (go_at_call 14; refine (counts_at _ _ g Y _ P3.out).mono ?_; rw [CN.out.2.1, CN.out.1, CN.out.2.2]; rintro e w4 ⟨rfl, ⟨_, _, hP⟩, hb⟩; have P4 := Aside0.mk hP; have B4 := Aside0.mk (below_step B3.out hb); have K4 := Aside0.mk (blk_below K3.out hb); have q4 := (blk_cell K4.out 2).trans (show _ = some (.int .i64 a.f2) from rfl); clear hb hP)
            | (go_at_call 17; refine (find_at _ _ g Y a.f2 _ P4.out).mono ?_; rw [FN.out]; rintro e w5 ⟨rfl, ⟨_, _, hP⟩, hb⟩; have P5 := Aside0.mk hP; have B5 := Aside0.mk (below_step B4.out hb); clear hb hP))
          go_roundg k
          case measure => omega
          case rel => exact ⟨i + 1, Y, by go_num, ⟨by have := HI.out; omega⟩, IY, P5, B5⟩
        · have FN := Aside0.mk hf
          obtain ⟨g1, g2, g3⟩ := find_closed hf
          rw [IY.out.2] at g2
          obtain ⟨t, ht⟩ : ∃ t, findI a.f2 Y.pages = t := ⟨_, rfl⟩
          rw [ht] at g1 g2 g3
          have T1 : decide (t < 0) = false := decide_eq_false (by omega)
          have T2 : decide (t ≥ (n : Int)) = false := decide_eq_false (by omega)
          have FT := Aside0.mk ht
          have FO := Aside0.mk g3
          clear hf ht g1 g2 g3
          go_wp2_with (first
            | (go_at_call 13; refine (drop_calls _ _ g X _ _ PB.out FB.out (HX.out.1.ask_drop _).1 (HX.out.1.ask_drop _).2).mono ?_; rintro e w3 ⟨rfl, hb, hk, hP⟩; rw [← HY.out] at hP; have P3 := Aside0.mk (hP.mono (fun k hk => hk.1)); have B3 := Aside0.mk (BB.out.trans hb); have K3 := Aside0.mk (blk_kept KB.out hk (fun hh => hh.2 rfl)); have q3 := (blk_cell K3.out 2).trans (show _ = some (.int .i64 a.f2) from rfl); clear hb hk hP)
            | (go_at_call 14; refine (counts_at _ _ g Y _ P3.out).mono ?_; rw [CN.out.2.1, CN.out.1, CN.out.2.2]; rintro e w4 ⟨rfl, ⟨_, _, hP⟩, hb⟩; have P4 := Aside0.mk hP; have B4 := Aside0.mk (below_step B3.out hb); have K4 := Aside0.mk (blk_below K3.out hb); have q4 := (blk_cell K4.out 2).trans (show _ = some (.int .i64 a.f2) from rfl); clear hb hP)
            | (go_at_call 17; refine (find_at _ _ g Y a.f2 _ P4.out).mono ?_; rw [FN.out, FT.out]; rintro e w5 ⟨rfl, ⟨_, _, hP⟩, hb⟩; have P5 := Aside0.mk hP; have B5 := Aside0.mk (below_step B4.out hb); clear hb hP)
            | (go_at_call 18; refine (open_at _ _ g Y _ _ P5.out).mono ?_; rw [FO.out]; rintro e w6 ⟨rfl, rfl⟩))
          go_roundg k
          case measure => omega
          case rel => exact ⟨i + 1, Y, by go_num, ⟨by have := HI.out; omega⟩, IY, P5, B5⟩
      by_cases c5 : a.f0 = 5
      · have e1 : (a.f0 == 1) = false := beq_eq_false_iff_ne.mpr c1
        have e2 : (a.f0 == 2) = false := beq_eq_false_iff_ne.mpr c2
        have e3 : (a.f0 == 3) = false := beq_eq_false_iff_ne.mpr c3
        have e4 : (a.f0 == 4) = false := beq_eq_false_iff_ne.mpr c4
        rw [c5] at hx0 PB FB KB BB
        obtain ⟨Y, hY⟩ : ∃ Y, Y = (pForget X a.f1).1 := ⟨_, rfl⟩
        have IY : Inv Y ∧ Y.pages.length = n := by rw [hY]; exact ⟨(inv_forget HX.out.1 _), ((len_forget X _).trans HX.out.2)⟩
        obtain ⟨F, E, D, f1, f2, f3, f4, f5⟩ := three IY.1 IY.2
        have HY := Aside0.mk hY
        have IY := Aside0.mk IY
        have CN := Aside0.mk (And.intro f1 (And.intro f3 f2))
        have s1 : ((F : Int) + (E : Int) + (D : Int) != (n : Int)) = false := bne_eq_false_iff_eq.mpr (by omega)
        have s2 : F + E + D ≤ 64 := by omega
        clear hY f1 f2 f3 f4 f5 c1 c2 c3 c4 c5
        cases hf : findB a.f2 Y.pages
        · have FN := Aside0.mk hf
          clear hf
          go_wp2_with (first
            | (go_at_call 16; refine (forget_calls _ _ g X _ _ PB.out FB.out (HX.out.1.ask_forget _)).mono ?_; rintro e w3 ⟨rfl, hb, hk, hP⟩; rw [← HY.out] at hP; have P3 := Aside0.mk (hP.mono (fun k hk => hk.1)); have B3 := Aside0.mk (BB.out.trans hb); have K3 := Aside0.mk (blk_kept KB.out hk (fun hh => hh.2 rfl)); have q3 := (blk_cell K3.out 2).trans (show _ = some (.int .i64 a.f2) from rfl); clear hb hk hP)
            | (go_at_call 14; refine (counts_at _ _ g Y _ P3.out).mono ?_; rw [CN.out.2.1, CN.out.1, CN.out.2.2]; rintro e w4 ⟨rfl, ⟨_, _, hP⟩, hb⟩; have P4 := Aside0.mk hP; have B4 := Aside0.mk (below_step B3.out hb); have K4 := Aside0.mk (blk_below K3.out hb); have q4 := (blk_cell K4.out 2).trans (show _ = some (.int .i64 a.f2) from rfl); clear hb hP)
            | (go_at_call 17; refine (find_at _ _ g Y a.f2 _ P4.out).mono ?_; rw [FN.out]; rintro e w5 ⟨rfl, ⟨_, _, hP⟩, hb⟩; have P5 := Aside0.mk hP; have B5 := Aside0.mk (below_step B4.out hb); clear hb hP))
          go_roundg k
          case measure => omega
          case rel => exact ⟨i + 1, Y, by go_num, ⟨by have := HI.out; omega⟩, IY, P5, B5⟩
        · have FN := Aside0.mk hf
          obtain ⟨g1, g2, g3⟩ := find_closed hf
          rw [IY.out.2] at g2
          obtain ⟨t, ht⟩ : ∃ t, findI a.f2 Y.pages = t := ⟨_, rfl⟩
          rw [ht] at g1 g2 g3
          have T1 : decide (t < 0) = false := decide_eq_false (by omega)
          have T2 : decide (t ≥ (n : Int)) = false := decide_eq_false (by omega)
          have FT := Aside0.mk ht
          have FO := Aside0.mk g3
          clear hf ht g1 g2 g3
          go_wp2_with (first
            | (go_at_call 16; refine (forget_calls _ _ g X _ _ PB.out FB.out (HX.out.1.ask_forget _)).mono ?_; rintro e w3 ⟨rfl, hb, hk, hP⟩; rw [← HY.out] at hP; have P3 := Aside0.mk (hP.mono (fun k hk => hk.1)); have B3 := Aside0.mk (BB.out.trans hb); have K3 := Aside0.mk (blk_kept KB.out hk (fun hh => hh.2 rfl)); have q3 := (blk_cell K3.out 2).trans (show _ = some (.int .i64 a.f2) from rfl); clear hb hk hP)
            | (go_at_call 14; refine (counts_at _ _ g Y _ P3.out).mono ?_; rw [CN.out.2.1, CN.out.1, CN.out.2.2]; rintro e w4 ⟨rfl, ⟨_, _, hP⟩, hb⟩; have P4 := Aside0.mk hP; have B4 := Aside0.mk (below_step B3.out hb); have K4 := Aside0.mk (blk_below K3.out hb); have q4 := (blk_cell K4.out 2).trans (show _ = some (.int .i64 a.f2) from rfl); clear hb hP)
            | (go_at_call 17; refine (find_at _ _ g Y a.f2 _ P4.out).mono ?_; rw [FN.out, FT.out]; rintro e w5 ⟨rfl, ⟨_, _, hP⟩, hb⟩; have P5 := Aside0.mk hP; have B5 := Aside0.mk (below_step B4.out hb); clear hb hP)
            | (go_at_call 18; refine (open_at _ _ g Y _ _ P5.out).mono ?_; rw [FO.out]; rintro e w6 ⟨rfl, rfl⟩))
          go_roundg k
          case measure => omega
          case rel => exact ⟨i + 1, Y, by go_num, ⟨by have := HI.out; omega⟩, IY, P5, B5⟩
      have e1 : (a.f0 == 1) = false := beq_eq_false_iff_ne.mpr c1
      have e2 : (a.f0 == 2) = false := beq_eq_false_iff_ne.mpr c2
      have e3 : (a.f0 == 3) = false := beq_eq_false_iff_ne.mpr c3
      have e4 : (a.f0 == 4) = false := beq_eq_false_iff_ne.mpr c4
      have e5 : (a.f0 == 5) = false := beq_eq_false_iff_ne.mpr c5
      obtain ⟨Y, hY⟩ : ∃ Y, Y = X := ⟨_, rfl⟩
      have IY : Inv Y ∧ Y.pages.length = n := by rw [hY]; exact ⟨HX.out.1, HX.out.2⟩
      obtain ⟨F, E, D, f1, f2, f3, f4, f5⟩ := three IY.1 IY.2
      have HY := Aside0.mk hY
      have IY := Aside0.mk IY
      have CN := Aside0.mk (And.intro f1 (And.intro f3 f2))
      have s1 : ((F : Int) + (E : Int) + (D : Int) != (n : Int)) = false := bne_eq_false_iff_eq.mpr (by omega)
      have s2 : F + E + D ≤ 64 := by omega
      have P3 := Aside0.mk (show PoolAt w.heap.size (fun k => w.heap.size ≤ k) (wr.alloc (.cells #[.int .i64 a.f0, .int .i64 a.f1, .int .i64 a.f2] 47 (0, 0))) g Y from by rw [hY]; exact PB.out.mono (fun k hk => hk.1))
      have B3 := BB
      have K3 := KB
      clear hY f1 f2 f3 f4 f5 c1 c2 c3 c4 c5
      cases hf : findB a.f2 Y.pages
      · have FN := Aside0.mk hf
        clear hf
        go_wp2_with (first
          | (go_at_call 14; refine (counts_at _ _ g Y _ P3.out).mono ?_; rw [CN.out.2.1, CN.out.1, CN.out.2.2]; rintro e w4 ⟨rfl, ⟨_, _, hP⟩, hb⟩; have P4 := Aside0.mk hP; have B4 := Aside0.mk (below_step B3.out hb); have K4 := Aside0.mk (blk_below K3.out hb); have q4 := (blk_cell K4.out 2).trans (show _ = some (.int .i64 a.f2) from rfl); clear hb hP)
          | (go_at_call 17; refine (find_at _ _ g Y a.f2 _ P4.out).mono ?_; rw [FN.out]; rintro e w5 ⟨rfl, ⟨_, _, hP⟩, hb⟩; have P5 := Aside0.mk hP; have B5 := Aside0.mk (below_step B4.out hb); clear hb hP))
        go_roundg k
        case measure => omega
        case rel => exact ⟨i + 1, Y, by go_num, ⟨by have := HI.out; omega⟩, IY, P5, B5⟩
      · have FN := Aside0.mk hf
        obtain ⟨g1, g2, g3⟩ := find_closed hf
        rw [IY.out.2] at g2
        obtain ⟨t, ht⟩ : ∃ t, findI a.f2 Y.pages = t := ⟨_, rfl⟩
        rw [ht] at g1 g2 g3
        have T1 : decide (t < 0) = false := decide_eq_false (by omega)
        have T2 : decide (t ≥ (n : Int)) = false := decide_eq_false (by omega)
        have FT := Aside0.mk ht
        have FO := Aside0.mk g3
        clear hf ht g1 g2 g3
        go_wp2_with (first
          | (go_at_call 14; refine (counts_at _ _ g Y _ P3.out).mono ?_; rw [CN.out.2.1, CN.out.1, CN.out.2.2]; rintro e w4 ⟨rfl, ⟨_, _, hP⟩, hb⟩; have P4 := Aside0.mk hP; have B4 := Aside0.mk (below_step B3.out hb); have K4 := Aside0.mk (blk_below K3.out hb); have q4 := (blk_cell K4.out 2).trans (show _ = some (.int .i64 a.f2) from rfl); clear hb hP)
          | (go_at_call 17; refine (find_at _ _ g Y a.f2 _ P4.out).mono ?_; rw [FN.out, FT.out]; rintro e w5 ⟨rfl, ⟨_, _, hP⟩, hb⟩; have P5 := Aside0.mk hP; have B5 := Aside0.mk (below_step B4.out hb); clear hb hP)
          | (go_at_call 18; refine (open_at _ _ g Y _ _ P5.out).mono ?_; rw [FO.out]; rintro e w6 ⟨rfl, rfl⟩))
        go_roundg k
        case measure => omega
        case rel => exact ⟨i + 1, Y, by go_num, ⟨by have := HI.out; omega⟩, IY, P5, B5⟩
    | zero =>
      have hstop : decide (i < l1.length) = false ∨ (decide (i < l1.length) = true ∧ decide ((i : Int) < 80) = false) := by
        by_cases c : i < l1.length
        · exact .inr ⟨decide_eq_true c, decide_eq_false (by omega)⟩
        · exact .inl (decide_eq_false c)
      obtain ⟨F, E, D, f1, f2, f3, f4, f5⟩ := three HX.out.1 HX.out.2
      have CN := Aside0.mk (And.intro f1 (And.intro f3 f2))
      have s2 : F + E + D ≤ 64 := by omega
      have S4 := Aside0.mk f4
      clear hi hm f1 f2 f3 f4 f5
      rcases hstop with b1 | ⟨b1, b2⟩
      all_goals
        go_wp2_with (go_at_call 14; refine (counts_at _ _ g X _ HP.out).mono ?_; rw [CN.out.2.1, CN.out.1, CN.out.2.2]; rintro e w4 ⟨rfl, ⟨_, _, hP⟩, hb⟩; have P4 := Aside0.mk hP; have B4 := Aside0.mk (below_step HB.out hb); clear hb hP)
        clear HP HB
        go_loopg [17] (F + D) (fun kq v17 w' => ∃ (j : Nat) (Y : PX), v17 = .int .i64 (j : Int) ∧ Aside0 (j + kq = F + D) ∧ Aside0 (Inv Y ∧ Y.pages.length = n) ∧ Aside0 (cfre Y.pages = F - j ∧ Y.idle.length = D - (j - F)) ∧ Aside0 (PoolAt w.heap.size (fun k => w.heap.size ≤ k) w' g Y) ∧ Aside0 (Below w.heap.size w w'))
        case atStart => exact ⟨0, X, rfl, ⟨Nat.zero_add _⟩, HX, ⟨⟨by have := CN.out.1; omega, by have := CN.out.2.2; omega⟩⟩, P4, B4⟩
        case round =>
          clear P4 B4
          obtain ⟨j, Y, rfl, HJ, HY, HC, HP, HB⟩ := hrel
          have hj := HJ.out
          have hc := HC.out
          cases gk with
          | succ k =>
            have hj2 : (j : Int) + 1 ≤ 64 := by omega
            have b3 : decide ((j : Int) < (F : Int) + (D : Int)) = true := decide_eq_true (by omega)
            have b3' : decide (j < F + D) = true := decide_eq_true (by omega)
            by_cases hjF : j < F
            · obtain ⟨t1, t2, t3, t4⟩ := take_free (X := Y) (by omega)
              have b4 : decide ((j : Int) ≥ (F : Int)) = false := decide_eq_false (by omega)
              have b4' : ¬ F ≤ j := by omega
              have HT := Aside0.mk (And.intro t1 (And.intro (show Inv (pTake Y).1 ∧ (pTake Y).1.pages.length = n from ⟨inv_take HY.out.1, t4.trans HY.out.2⟩) (show cfre (pTake Y).1.pages = F - (j + 1) ∧ (pTake Y).1.idle.length = D - (j + 1 - F) from ⟨by omega, by rw [t3]; omega⟩)))
              clear hj hc t1 t2 t3 t4
              go_wp2_with (go_at_call 10; refine (take_calls _ _ g Y _ HP.out HY.out.1.ask_take).mono ?_; rw [HT.out.1]; rintro e w5 ⟨rfl, hb, _, hP⟩; have P5 := Aside0.mk hP; have B5 := Aside0.mk (HB.out.trans hb); clear hb hP)
              go_roundg k
              case measure => omega
              case rel => exact ⟨j + 1, (pTake Y).1, by go_num, ⟨by have := HJ.out; omega⟩, ⟨HT.out.2.1⟩, ⟨HT.out.2.2⟩, P5, B5⟩
            · obtain ⟨y, ys, hys⟩ : ∃ y ys, Y.idle = y :: ys := by
                cases e : Y.idle with
                | nil => rw [e] at hc; simp at hc; omega
                | cons y ys => exact ⟨y, ys, rfl⟩
              obtain ⟨t1, t2, t3, t4⟩ := take_idle HY.out.1 (by omega) hys
              have b4 : decide ((j : Int) ≥ (F : Int)) = true := decide_eq_true (by omega)
              have b4' : F ≤ j := by omega
              have HT := Aside0.mk (And.intro t1 (And.intro (show Inv (pTake Y).1 ∧ (pTake Y).1.pages.length = n from ⟨inv_take HY.out.1, t4.trans HY.out.2⟩) (show cfre (pTake Y).1.pages = F - (j + 1) ∧ (pTake Y).1.idle.length = D - (j + 1 - F) from ⟨by omega, by rw [t3]; rw [hys, List.length_cons] at hc; omega⟩)))
              clear hj hc t1 t2 t3 t4 hys
              go_wp2_with (go_at_call 10; refine (take_calls _ _ g Y _ HP.out HY.out.1.ask_take).mono ?_; rw [HT.out.1]; rintro e w5 ⟨rfl, hb, _, hP⟩; have P5 := Aside0.mk hP; have B5 := Aside0.mk (HB.out.trans hb); clear hb hP)
              go_roundg k
              case measure => omega
              case rel => exact ⟨j + 1, (pTake Y).1, by go_num, ⟨by have := HJ.out; omega⟩, ⟨HT.out.2.1⟩, ⟨HT.out.2.2⟩, P5, B5⟩
          | zero =>
            have b3 : decide ((j : Int) < (F : Int) + (D : Int)) = false := decide_eq_false (by omega)
            have b3' : decide (j < F + D) = false := decide_eq_false (by omega)
            have hz : cfre Y.pages = 0 := by omega
            have hil : Y.idle.length = 0 := by omega
            have HT := Aside0.mk (take_none hz (List.eq_nil_of_length_eq_zero hil))
            have CY := Aside0.mk (And.intro hz (And.intro hil HY.out.2))
            have s5 : ((n : Int) == (E : Int) + (F : Int) + (D : Int)) = true := beq_iff_eq.mpr (by have := S4.out; omega)
            clear hj hc hz hil
            go_wp2_with (first
              | (go_at_call 10; refine (take_calls _ _ g Y _ HP.out HY.out.1.ask_take).mono ?_; rw [HT.out]; rintro e w5 ⟨rfl, hb, _, hP⟩; have P5 := Aside0.mk hP; have B5 := Aside0.mk (HB.out.trans hb); clear hb hP)
              | (go_at_call 14; refine (counts_at _ _ g Y _ P5.out).mono ?_; rw [CY.out.1, CY.out.2.1, CY.out.2.2]; rintro e w6 ⟨rfl, ⟨_, _, hP⟩, hb⟩; have P6 := Aside0.mk hP; have B6 := Aside0.mk (below_step B5.out hb); clear hb hP)
              | (go_at_call 8; refine (awake_calls _).mono ?_; rintro e w7 ⟨rfl, hb⟩; have B7 := Aside0.mk (below_step B6.out hb); clear hb))
            go_ret
            exact ⟨rfl, B7.out⟩
end Go.Proofs.Ytmbbaalpeomnlaa.OWhole
