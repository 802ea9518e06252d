-- written by this session's program gprint.py
import Derived.Test.YtdlhodbokkaghaaGQx0
import Derived.Test.YtdlhodbokkaghaaWMore
import Derived.Test.YtdlhodbokkaghaaWWords
namespace Go.Proofs.Ytdlhodbokkaghaa.GQ
open Go.RowKit Go.Proofs.YtdlhodbokkaghaaW.PrintWords Go.Proofs.YtdlhodbokkaghaaW.PrintLast Go.Proofs.YtdlhodbokkaghaaW.PrintMore
attribute [local go_sem] max2_int min2_int max_two min_two max_three min_three max_four min_four   -- for this text's walks alone
set_option linter.unusedVariables false
set_option linter.unusedSimpArgs false

/-! ### model_Prompt: function 24 -/
def model_Prompt.l0 : Nat → List Int → Int → Int → Int → Int → Int → Int → Int → Option (Int)
 | 0, _, _, _, _, _, _, _, _ => none
 | k + 1, x13, x14, x15, x698000, x698001, x698002, x698003, x698004 => if x15 < x14 then (if 0 ≤ x15 then (if x15 < (x13.length : Int) then (if (rd x13 x15) < 0 then (some 7) else (if (rd x13 x15) ≥ x698000 then (some 7) else (model_Prompt.l0 k x13 x14 (wrap64 (x15 + 1)) x698000 x698001 x698002 x698003 x698004))) else (none)) else (none)) else (some 0)
def model_Prompt.f (k : Nat) (a0_0 : Int) (a0_1 : Int) (a0_2 : Int) (a0_3 : Int) (a0_4 : Int) (l1 : List Int) : Option (Int) := if (l1.length : Int) = 0 then (some 8) else (if (l1.length : Int) > 128 then (some 2) else (model_Prompt.l0 k l1 (l1.length : Int) 0 a0_0 a0_1 a0_2 a0_3 a0_4))
theorem model_Prompt.mono_l : ∀ k, (∀ y0 y1 y2 y3 y4 y5 y6 y7, LeO (model_Prompt.l0 k y0 y1 y2 y3 y4 y5 y6 y7) (model_Prompt.l0 (k + 1) y0 y1 y2 y3 y4 y5 y6 y7))
 | 0 => fun _ _ _ _ _ _ _ _ r h => by simp [model_Prompt.l0] at h
 | k + 1 => by
  have ih0 := model_Prompt.mono_l k
  ·intro y0 y1 y2 y3 y4 y5 y6 y7
   unfold model_Prompt.l0
   repeat' first
   | (with_reducible exact ih0 _ _ _ _ _ _ _ _)
   | (with_reducible exact LeO.refl _)
   | (with_reducible exact LeO.none _)
   | (with_reducible refine LeO.ite ?_ ?_)
   | (with_reducible refine LeO.bind ?_ (fun _ => ?_))
   | exact ih0 _ _ _ _ _ _ _ _
   | exact LeO.none _
   | refine LeO.ite ?_ ?_
   | refine LeO.bind ?_ (fun _ => ?_)
theorem model_Prompt.mono : ∀ a0 a1 a2 a3 a4 a5 k, LeO (model_Prompt.f k a0 a1 a2 a3 a4 a5) (model_Prompt.f (k + 1) a0 a1 a2 a3 a4 a5) := by
 intro a0 a1 a2 a3 a4 a5 k
 have ih0 := model_Prompt.mono_l k
 unfold model_Prompt.f
 repeat' first
   | (with_reducible exact ih0 _ _ _ _ _ _ _ _)
   | (with_reducible exact LeO.refl _)
   | (with_reducible exact LeO.none _)
   | (with_reducible refine LeO.ite ?_ ?_)
   | (with_reducible refine LeO.bind ?_ (fun _ => ?_))
   | exact ih0 _ _ _ _ _ _ _ _
   | exact LeO.none _
   | refine LeO.ite ?_ ?_
   | refine LeO.bind ?_ (fun _ => ?_)
set_option maxHeartbeats 8000000 in
set_option maxRecDepth 100000 in
theorem model_Prompt.calls (k : Nat) (a0_0 : Int) (a0_1 : Int) (a0_2 : Int) (a0_3 : Int) (a0_4 : Int) (A1 : Option Addr) (c1 : Nat) (l1 : List Int) (r : Int) (w : World) (hr1 : Kd.C (Kd.int .i64) w A1 l1.length l1) (hc1 : l1.length ≤ c1) (h : model_Prompt.f k a0_0 a0_1 a0_2 a0_3 a0_4 l1 = some r) :
  Calls Try.prog 24 #[.agg #[.int .i64 a0_0, .int .i64 a0_1, .int .i64 a0_2, .int .i64 a0_3, .int .i64 a0_4], .slice A1 l1.length c1] w fun e w' => e = .returned (.int .i64 r) ∧ Below w.heap.size w w' := by
 have hu23 := Try.underlying23
 have HR1 := Aside0.mk hr1
 have HC1 := Aside0.mk hc1
 clear hr1 hc1
 have HB := Aside0.mk (Below.refl w.heap.size w)
 have H : (if (l1.length : Int) = 0 then (some 8) else (if (l1.length : Int) > 128 then (some 2) else (model_Prompt.l0 k l1 (l1.length : Int) 0 a0_0 a0_1 a0_2 a0_3 a0_4))) = some r := h
 clear h
 by_cases c3 : (l1.length : Int) = 0
 ·rw [if_pos c3] at H
  have c3b0 : ((l1.length : Int) == 0) = true := beq_iff_eq.mpr c3
  have c3b1 : ((l1.length : Int) != 0) = false := bne_eq_false_iff_eq.mpr c3
  clear c3
  obtain rfl := Option.some.inj H
  go_enter Try.func24, Try.ntmps24
  go_wp2_with (first | ((with_reducible refine gate_dst (N := 2) rfl ?_); refine box_event ?hg (N := 2) ?hd (cs := #[.int .i64 a0_0, .int .i64 a0_1, .int .i64 a0_2, .int .i64 a0_3, .int .i64 a0_4]) (t := 23) ?hr ?_; (case hd => rfl); (case hg => rfl); (case hr => first | (go_simp; done) | (go_simp; rfl)); intro gb697 hg w4 hbox hb; have n0_ := Aside0.mk (below_step (by repeat (first | (with_reducible first | exact HB.out | apply bwA | apply bwN | apply bwD) | exact HB.out)) hb); have n1_ := Aside0.mk (hbox); have n2_ := Aside0.mk ((by rw [hg]; exact (below_size (by repeat (first | (with_reducible first | exact HB.out | apply bwA | apply bwN | apply bwD) | exact HB.out))) : w.heap.size ≤ gb697)); have n3_ := Aside0.mk ((by rw [hg]; exact (below_size (by repeat (first | (with_reducible first | exact HB.out | apply bwA | apply bwN | apply bwD) | exact HB.out))) : w.heap.size ≤ gb697)); clear HB; have HB := n0_; have BK697 := n1_; have GW697 := n2_; have GE697 := n3_; clear n0_ n1_ n2_ n3_; clear hb hbox hg))
  go_ret
  exact ⟨by first | rfl | (simp [errW_none, errW_some] <;> rfl) | (simp [*, errW_none, errW_some] <;> rfl), by repeat (first | (with_reducible first | exact HB.out | apply bwA | apply bwN | apply bwD | refine below_set ?_ GE697.out) | exact HB.out)⟩
 ·rw [if_neg c3] at H
  have c3b0 : ((l1.length : Int) == 0) = false := beq_eq_false_iff_ne.mpr c3
  have c3b1 : ((l1.length : Int) != 0) = true := bne_iff_ne.mpr c3
  have c3b2 : ¬ (l1 = []) := fun h_ => c3 (by rw [h_]; rfl)
  by_cases c5 : (l1.length : Int) > 128
  ·rw [if_pos c5] at H
   have c5b0 : decide (128 < (l1.length : Int)) = true := decide_eq_true c5
   have c5b1 : decide (128 < l1.length) = true := decide_eq_true (by omega)
   clear c5
   obtain rfl := Option.some.inj H
   go_enter Try.func24, Try.ntmps24
   go_wp2_with (first | ((with_reducible refine gate_dst (N := 2) rfl ?_); refine box_event ?hg (N := 2) ?hd (cs := #[.int .i64 a0_0, .int .i64 a0_1, .int .i64 a0_2, .int .i64 a0_3, .int .i64 a0_4]) (t := 23) ?hr ?_; (case hd => rfl); (case hg => rfl); (case hr => first | (go_simp; done) | (go_simp; rfl)); intro gb697 hg w6 hbox hb; have n0_ := Aside0.mk (below_step (by repeat (first | (with_reducible first | exact HB.out | apply bwA | apply bwN | apply bwD) | exact HB.out)) hb); have n1_ := Aside0.mk (hbox); have n2_ := Aside0.mk ((by rw [hg]; exact (below_size (by repeat (first | (with_reducible first | exact HB.out | apply bwA | apply bwN | apply bwD) | exact HB.out))) : w.heap.size ≤ gb697)); have n3_ := Aside0.mk ((by rw [hg]; exact (below_size (by repeat (first | (with_reducible first | exact HB.out | apply bwA | apply bwN | apply bwD) | exact HB.out))) : w.heap.size ≤ gb697)); clear HB; have HB := n0_; have BK697 := n1_; have GW697 := n2_; have GE697 := n3_; clear n0_ n1_ n2_ n3_; clear hb hbox hg))
   go_ret
   exact ⟨by first | rfl | (simp [errW_none, errW_some] <;> rfl) | (simp [*, errW_none, errW_some] <;> rfl), by repeat (first | (with_reducible first | exact HB.out | apply bwA | apply bwN | apply bwD | refine below_set ?_ GE697.out) | exact HB.out)⟩
  ·rw [if_neg c5] at H
   have c5b0 : decide (128 < (l1.length : Int)) = false := decide_eq_false c5
   have c5b1 : decide (128 < l1.length) = false := decide_eq_false (by omega)
   clear c5
   have H' := Aside0.mk H
   clear H
   go_enter Try.func24, Try.ntmps24
   go_wp2_with (first | ((with_reducible refine gate_dst (N := 2) rfl ?_); refine box_event ?hg (N := 2) ?hd (cs := #[.int .i64 a0_0, .int .i64 a0_1, .int .i64 a0_2, .int .i64 a0_3, .int .i64 a0_4]) (t := 23) ?hr ?_; (case hd => rfl); (case hg => rfl); (case hr => first | (go_simp; done) | (go_simp; rfl)); intro gb697 hg w7 hbox hb; have n0_ := Aside0.mk (below_step (by repeat (first | (with_reducible first | exact HB.out | apply bwA | apply bwN | apply bwD) | exact HB.out)) hb); have n1_ := Aside0.mk (hbox); have n2_ := Aside0.mk ((by rw [hg]; exact (below_size (by repeat (first | (with_reducible first | exact HB.out | apply bwA | apply bwN | apply bwD) | exact HB.out))) : w.heap.size ≤ gb697)); have n3_ := Aside0.mk ((by rw [hg]; exact (below_size (by repeat (first | (with_reducible first | exact HB.out | apply bwA | apply bwN | apply bwD) | exact HB.out))) : w.heap.size ≤ gb697)); clear HB; have HB := n0_; have BK697 := n1_; have GW697 := n2_; have GE697 := n3_; clear n0_ n1_ n2_ n3_; clear hb hbox hg))
   go_loopg [15] k (fun kq v15 w' => ∃ (x15_1 : Int), v15 = .int .i64 x15_1 ∧ Aside0 (model_Prompt.l0 kq l1 (l1.length : Int) x15_1 a0_0 a0_1 a0_2 a0_3 a0_4 = some r) ∧ Aside0 (kq ≤ k) ∧ Aside0 (w'.heap[gb697]? = some (.cells #[.int .i64 a0_0, .int .i64 a0_1, .int .i64 a0_2, .int .i64 a0_3, .int .i64 a0_4] 23 (0, 0))) ∧ Aside0 (Below w.heap.size w w'))
   case atStart => exact ⟨(0), (by first | rfl | (simp; done) | (simp [*]; done)), H', ⟨Nat.le_refl _⟩, ⟨by (with_reducible repeat (first | apply bkN | apply bkD | apply bkA)); exact BK697.out⟩, ⟨by repeat (first | (with_reducible first | exact HB.out | apply bwA | apply bwN | apply bwD | refine below_set ?_ GE697.out) | exact HB.out)⟩⟩
   case round =>
    clear H'
    try clear c1
    try clear c2
    try clear p2
    try clear c3
    try clear c3b0
    try clear c3b1
    try clear c3b2
    try clear c5
    try clear c5b0
    try clear c5b1
    obtain ⟨x15_1, rfl, HA, HK1, BK697, HB⟩ := hrel
    cases gk with
    | zero => exact absurd HA.out (by simp [model_Prompt.l0])
    | succ k1 =>
     have H := HA.out
     clear HA
     simp only [model_Prompt.l0] at H
     by_cases c8 : x15_1 < (l1.length : Int)
     ·rw [if_pos c8] at H
      have c8b0 : decide (x15_1 < (l1.length : Int)) = true := decide_eq_true c8
      clear c8
      by_cases c9 : 0 ≤ x15_1
      ·rw [if_pos c9] at H
       have c9b0 : decide (0 ≤ x15_1) = true := decide_eq_true c9
       clear c9
       by_cases c10 : x15_1 < (l1.length : Int)
       ·rw [if_pos c10] at H
        have c10b0 : decide (x15_1 < (l1.length : Int)) = true := decide_eq_true c10
        clear c10
        by_cases c11 : (rd l1 x15_1) < 0
        ·rw [if_pos c11] at H
         have c11b0 : decide ((rd l1 x15_1) < 0) = true := decide_eq_true c11
         clear c11
         obtain rfl := Option.some.inj H
         have p698 : 0 ≤ (x15_1 : Int) := ofd_
         have q698 : x15_1 < (l1.length : Int) := ofd_
         obtain ⟨ad698, e698, hx698_0⟩ := Kd.at_int HR1.out x15_1 p698 q698
         cases e698
         replace hx698_0 := (HB.out.cell (World.block_lt_of_cell? w _ hx698_0)).trans hx698_0
         replace p698 := eq_true p698
         replace q698 := eq_true q698
         go_wp2
         go_ret
         exact ⟨by first | rfl | (simp [errW_none, errW_some] <;> rfl) | (simp [*, errW_none, errW_some] <;> rfl), by repeat (first | (with_reducible first | exact HB.out | apply bwA | apply bwN | apply bwD | refine below_set ?_ GE697.out) | exact HB.out)⟩
        ·rw [if_neg c11] at H
         have c11b0 : decide ((rd l1 x15_1) < 0) = false := decide_eq_false c11
         clear c11
         by_cases c12 : (rd l1 x15_1) ≥ a0_0
         ·rw [if_pos c12] at H
          have c12b0 : decide (a0_0 ≤ (rd l1 x15_1)) = true := decide_eq_true c12
          clear c12
          obtain rfl := Option.some.inj H
          have p698 : 0 ≤ (x15_1 : Int) := ofd_
          have q698 : x15_1 < (l1.length : Int) := ofd_
          obtain ⟨ad698, e698, hx698_0⟩ := Kd.at_int HR1.out x15_1 p698 q698
          cases e698
          replace hx698_0 := (HB.out.cell (World.block_lt_of_cell? w _ hx698_0)).trans hx698_0
          replace p698 := eq_true p698
          replace q698 := eq_true q698
          have hcz13_0 : wr.cell? ⟨gb697, 0, none⟩ = some (.int .i64 a0_0) := (blk_cell BK697.out 0).trans rfl
          have hcz13_1 : wr.cell? ⟨gb697, 1, none⟩ = some (.int .i64 a0_1) := (blk_cell BK697.out 1).trans rfl
          have hcz13_2 : wr.cell? ⟨gb697, 2, none⟩ = some (.int .i64 a0_2) := (blk_cell BK697.out 2).trans rfl
          have hcz13_3 : wr.cell? ⟨gb697, 3, none⟩ = some (.int .i64 a0_3) := (blk_cell BK697.out 3).trans rfl
          have hcz13_4 : wr.cell? ⟨gb697, 4, none⟩ = some (.int .i64 a0_4) := (blk_cell BK697.out 4).trans rfl
          have hfz13_0 := blk_frozen BK697.out 0
          have hfz13_1 := blk_frozen BK697.out 1
          have hfz13_2 := blk_frozen BK697.out 2
          have hfz13_3 := blk_frozen BK697.out 3
          have hfz13_4 := blk_frozen BK697.out 4
          go_wp2
          go_ret
          exact ⟨by first | rfl | (simp [errW_none, errW_some] <;> rfl) | (simp [*, errW_none, errW_some] <;> rfl), by repeat (first | (with_reducible first | exact HB.out | apply bwA | apply bwN | apply bwD | refine below_set ?_ GE697.out) | exact HB.out)⟩
         ·rw [if_neg c12] at H
          have c12b0 : decide (a0_0 ≤ (rd l1 x15_1)) = false := decide_eq_false c12
          clear c12
          have H' := Aside0.mk H
          clear H
          have p698 : 0 ≤ (x15_1 : Int) := ofd_
          have q698 : x15_1 < (l1.length : Int) := ofd_
          obtain ⟨ad698, e698, hx698_0⟩ := Kd.at_int HR1.out x15_1 p698 q698
          cases e698
          replace hx698_0 := (HB.out.cell (World.block_lt_of_cell? w _ hx698_0)).trans hx698_0
          replace p698 := eq_true p698
          replace q698 := eq_true q698
          have hcz14_0 : wr.cell? ⟨gb697, 0, none⟩ = some (.int .i64 a0_0) := (blk_cell BK697.out 0).trans rfl
          have hcz14_1 : wr.cell? ⟨gb697, 1, none⟩ = some (.int .i64 a0_1) := (blk_cell BK697.out 1).trans rfl
          have hcz14_2 : wr.cell? ⟨gb697, 2, none⟩ = some (.int .i64 a0_2) := (blk_cell BK697.out 2).trans rfl
          have hcz14_3 : wr.cell? ⟨gb697, 3, none⟩ = some (.int .i64 a0_3) := (blk_cell BK697.out 3).trans rfl
          have hcz14_4 : wr.cell? ⟨gb697, 4, none⟩ = some (.int .i64 a0_4) := (blk_cell BK697.out 4).trans rfl
          have hfz14_0 := blk_frozen BK697.out 0
          have hfz14_1 := blk_frozen BK697.out 1
          have hfz14_2 := blk_frozen BK697.out 2
          have hfz14_3 := blk_frozen BK697.out 3
          have hfz14_4 := blk_frozen BK697.out 4
          go_wp2
          go_roundg k1
          case measure => have := HK1.out; omega
          case rel => exact ⟨(wrap64 (x15_1 + 1)), (by first | rfl | (simp; done) | (simp [*]; done)), H', ⟨by have := HK1.out; omega⟩, ⟨by (with_reducible repeat (first | apply bkN | apply bkD | apply bkA)); exact BK697.out⟩, ⟨by repeat (first | (with_reducible first | exact HB.out | apply bwA | apply bwN | apply bwD | refine below_set ?_ GE697.out) | exact HB.out)⟩⟩
       ·rw [if_neg c10] at H
        exact absurd H (by simp)
      ·rw [if_neg c9] at H
       exact absurd H (by simp)
     ·rw [if_neg c8] at H
      have c8b0 : decide (x15_1 < (l1.length : Int)) = false := decide_eq_false c8
      clear c8
      obtain rfl := Option.some.inj H
      go_wp2
      go_ret
      exact ⟨by first | rfl | (simp [errW_none, errW_some] <;> rfl) | (simp [*, errW_none, errW_some] <;> rfl), by repeat (first | (with_reducible first | exact HB.out | apply bwA | apply bwN | apply bwD | refine below_set ?_ GE697.out) | exact HB.out)⟩

/-! ### tillerref06_Prompt: function 25 -/
def tillerref06_Prompt.l0 : Nat → List Int → Int → Int → Int → Int → Int → Int → Int → Option (Int)
 | 0, _, _, _, _, _, _, _, _ => none
 | k + 1, x13, x14, x15, x700000, x700001, x700002, x700003, x700004 => if x15 < x14 then (if 0 ≤ x15 then (if x15 < (x13.length : Int) then (if (rd x13 x15) < 0 then (some 7) else (if (rd x13 x15) ≥ x700000 then (some 7) else (tillerref06_Prompt.l0 k x13 x14 (wrap64 (x15 + 1)) x700000 x700001 x700002 x700003 x700004))) else (none)) else (none)) else (some 0)
def tillerref06_Prompt.f (k : Nat) (a0_0 : Int) (a0_1 : Int) (a0_2 : Int) (a0_3 : Int) (a0_4 : Int) (l1 : List Int) : Option (Int) := if (l1.length : Int) < 1 then (some 8) else (if (l1.length : Int) > 128 then (some 2) else (tillerref06_Prompt.l0 k l1 (l1.length : Int) 0 a0_0 a0_1 a0_2 a0_3 a0_4))
theorem tillerref06_Prompt.mono_l : ∀ k, (∀ y0 y1 y2 y3 y4 y5 y6 y7, LeO (tillerref06_Prompt.l0 k y0 y1 y2 y3 y4 y5 y6 y7) (tillerref06_Prompt.l0 (k + 1) y0 y1 y2 y3 y4 y5 y6 y7))
 | 0 => fun _ _ _ _ _ _ _ _ r h => by simp [tillerref06_Prompt.l0] at h
 | k + 1 => by
  have ih0 := tillerref06_Prompt.mono_l k
  ·intro y0 y1 y2 y3 y4 y5 y6 y7
   unfold tillerref06_Prompt.l0
   repeat' first
   | (with_reducible exact ih0 _ _ _ _ _ _ _ _)
   | (with_reducible exact LeO.refl _)
   | (with_reducible exact LeO.none _)
   | (with_reducible refine LeO.ite ?_ ?_)
   | (with_reducible refine LeO.bind ?_ (fun _ => ?_))
   | exact ih0 _ _ _ _ _ _ _ _
   | exact LeO.none _
   | refine LeO.ite ?_ ?_
   | refine LeO.bind ?_ (fun _ => ?_)
theorem tillerref06_Prompt.mono : ∀ a0 a1 a2 a3 a4 a5 k, LeO (tillerref06_Prompt.f k a0 a1 a2 a3 a4 a5) (tillerref06_Prompt.f (k + 1) a0 a1 a2 a3 a4 a5) := by
 intro a0 a1 a2 a3 a4 a5 k
 have ih0 := tillerref06_Prompt.mono_l k
 unfold tillerref06_Prompt.f
 repeat' first
   | (with_reducible exact ih0 _ _ _ _ _ _ _ _)
   | (with_reducible exact LeO.refl _)
   | (with_reducible exact LeO.none _)
   | (with_reducible refine LeO.ite ?_ ?_)
   | (with_reducible refine LeO.bind ?_ (fun _ => ?_))
   | exact ih0 _ _ _ _ _ _ _ _
   | exact LeO.none _
   | refine LeO.ite ?_ ?_
   | refine LeO.bind ?_ (fun _ => ?_)
set_option maxHeartbeats 8000000 in
set_option maxRecDepth 100000 in
theorem tillerref06_Prompt.calls (k : Nat) (a0_0 : Int) (a0_1 : Int) (a0_2 : Int) (a0_3 : Int) (a0_4 : Int) (A1 : Option Addr) (c1 : Nat) (l1 : List Int) (r : Int) (w : World) (hr1 : Kd.C (Kd.int .i64) w A1 l1.length l1) (hc1 : l1.length ≤ c1) (h : tillerref06_Prompt.f k a0_0 a0_1 a0_2 a0_3 a0_4 l1 = some r) :
  Calls Try.prog 25 #[.agg #[.int .i64 a0_0, .int .i64 a0_1, .int .i64 a0_2, .int .i64 a0_3, .int .i64 a0_4], .slice A1 l1.length c1] w fun e w' => e = .returned (.int .i64 r) ∧ Below w.heap.size w w' := by
 have hu23 := Try.underlying23
 have HR1 := Aside0.mk hr1
 have HC1 := Aside0.mk hc1
 clear hr1 hc1
 have HB := Aside0.mk (Below.refl w.heap.size w)
 have H : (if (l1.length : Int) < 1 then (some 8) else (if (l1.length : Int) > 128 then (some 2) else (tillerref06_Prompt.l0 k l1 (l1.length : Int) 0 a0_0 a0_1 a0_2 a0_3 a0_4))) = some r := h
 clear h
 by_cases c3 : (l1.length : Int) < 1
 ·rw [if_pos c3] at H
  have c3b0 : decide ((l1.length : Int) < 1) = true := decide_eq_true c3
  have c3b1 : decide (l1.length < 1) = true := decide_eq_true (by omega)
  clear c3
  obtain rfl := Option.some.inj H
  go_enter Try.func25, Try.ntmps25
  go_wp2_with (first | ((with_reducible refine gate_dst (N := 2) rfl ?_); refine box_event ?hg (N := 2) ?hd (cs := #[.int .i64 a0_0, .int .i64 a0_1, .int .i64 a0_2, .int .i64 a0_3, .int .i64 a0_4]) (t := 23) ?hr ?_; (case hd => rfl); (case hg => rfl); (case hr => first | (go_simp; done) | (go_simp; rfl)); intro gb699 hg w4 hbox hb; have n0_ := Aside0.mk (below_step (by repeat (first | (with_reducible first | exact HB.out | apply bwA | apply bwN | apply bwD) | exact HB.out)) hb); have n1_ := Aside0.mk (hbox); have n2_ := Aside0.mk ((by rw [hg]; exact (below_size (by repeat (first | (with_reducible first | exact HB.out | apply bwA | apply bwN | apply bwD) | exact HB.out))) : w.heap.size ≤ gb699)); have n3_ := Aside0.mk ((by rw [hg]; exact (below_size (by repeat (first | (with_reducible first | exact HB.out | apply bwA | apply bwN | apply bwD) | exact HB.out))) : w.heap.size ≤ gb699)); clear HB; have HB := n0_; have BK699 := n1_; have GW699 := n2_; have GE699 := n3_; clear n0_ n1_ n2_ n3_; clear hb hbox hg))
  go_ret
  exact ⟨by first | rfl | (simp [errW_none, errW_some] <;> rfl) | (simp [*, errW_none, errW_some] <;> rfl), by repeat (first | (with_reducible first | exact HB.out | apply bwA | apply bwN | apply bwD | refine below_set ?_ GE699.out) | exact HB.out)⟩
 ·rw [if_neg c3] at H
  have c3b0 : decide ((l1.length : Int) < 1) = false := decide_eq_false c3
  have c3b1 : decide (l1.length < 1) = false := decide_eq_false (by omega)
  clear c3
  by_cases c5 : (l1.length : Int) > 128
  ·rw [if_pos c5] at H
   have c5b0 : decide (128 < (l1.length : Int)) = true := decide_eq_true c5
   have c5b1 : decide (128 < l1.length) = true := decide_eq_true (by omega)
   clear c5
   obtain rfl := Option.some.inj H
   go_enter Try.func25, Try.ntmps25
   go_wp2_with (first | ((with_reducible refine gate_dst (N := 2) rfl ?_); refine box_event ?hg (N := 2) ?hd (cs := #[.int .i64 a0_0, .int .i64 a0_1, .int .i64 a0_2, .int .i64 a0_3, .int .i64 a0_4]) (t := 23) ?hr ?_; (case hd => rfl); (case hg => rfl); (case hr => first | (go_simp; done) | (go_simp; rfl)); intro gb699 hg w6 hbox hb; have n0_ := Aside0.mk (below_step (by repeat (first | (with_reducible first | exact HB.out | apply bwA | apply bwN | apply bwD) | exact HB.out)) hb); have n1_ := Aside0.mk (hbox); have n2_ := Aside0.mk ((by rw [hg]; exact (below_size (by repeat (first | (with_reducible first | exact HB.out | apply bwA | apply bwN | apply bwD) | exact HB.out))) : w.heap.size ≤ gb699)); have n3_ := Aside0.mk ((by rw [hg]; exact (below_size (by repeat (first | (with_reducible first | exact HB.out | apply bwA | apply bwN | apply bwD) | exact HB.out))) : w.heap.size ≤ gb699)); clear HB; have HB := n0_; have BK699 := n1_; have GW699 := n2_; have GE699 := n3_; clear n0_ n1_ n2_ n3_; clear hb hbox hg))
   go_ret
   exact ⟨by first | rfl | (simp [errW_none, errW_some] <;> rfl) | (simp [*, errW_none, errW_some] <;> rfl), by repeat (first | (with_reducible first | exact HB.out | apply bwA | apply bwN | apply bwD | refine below_set ?_ GE699.out) | exact HB.out)⟩
  ·rw [if_neg c5] at H
   have c5b0 : decide (128 < (l1.length : Int)) = false := decide_eq_false c5
   have c5b1 : decide (128 < l1.length) = false := decide_eq_false (by omega)
   clear c5
   have H' := Aside0.mk H
   clear H
   go_enter Try.func25, Try.ntmps25
   go_wp2_with (first | ((with_reducible refine gate_dst (N := 2) rfl ?_); refine box_event ?hg (N := 2) ?hd (cs := #[.int .i64 a0_0, .int .i64 a0_1, .int .i64 a0_2, .int .i64 a0_3, .int .i64 a0_4]) (t := 23) ?hr ?_; (case hd => rfl); (case hg => rfl); (case hr => first | (go_simp; done) | (go_simp; rfl)); intro gb699 hg w7 hbox hb; have n0_ := Aside0.mk (below_step (by repeat (first | (with_reducible first | exact HB.out | apply bwA | apply bwN | apply bwD) | exact HB.out)) hb); have n1_ := Aside0.mk (hbox); have n2_ := Aside0.mk ((by rw [hg]; exact (below_size (by repeat (first | (with_reducible first | exact HB.out | apply bwA | apply bwN | apply bwD) | exact HB.out))) : w.heap.size ≤ gb699)); have n3_ := Aside0.mk ((by rw [hg]; exact (below_size (by repeat (first | (with_reducible first | exact HB.out | apply bwA | apply bwN | apply bwD) | exact HB.out))) : w.heap.size ≤ gb699)); clear HB; have HB := n0_; have BK699 := n1_; have GW699 := n2_; have GE699 := n3_; clear n0_ n1_ n2_ n3_; clear hb hbox hg))
   go_loopg [15] k (fun kq v15 w' => ∃ (x15_1 : Int), v15 = .int .i64 x15_1 ∧ Aside0 (tillerref06_Prompt.l0 kq l1 (l1.length : Int) x15_1 a0_0 a0_1 a0_2 a0_3 a0_4 = some r) ∧ Aside0 (kq ≤ k) ∧ Aside0 (w'.heap[gb699]? = some (.cells #[.int .i64 a0_0, .int .i64 a0_1, .int .i64 a0_2, .int .i64 a0_3, .int .i64 a0_4] 23 (0, 0))) ∧ Aside0 (Below w.heap.size w w'))
   case atStart => exact ⟨(0), (by first | rfl | (simp; done) | (simp [*]; done)), H', ⟨Nat.le_refl _⟩, ⟨by (with_reducible repeat (first | apply bkN | apply bkD | apply bkA)); exact BK699.out⟩, ⟨by repeat (first | (with_reducible first | exact HB.out | apply bwA | apply bwN | apply bwD | refine below_set ?_ GE699.out) | exact HB.out)⟩⟩
   case round =>
    clear H'
    try clear c1
    try clear c2
    try clear p2
    try clear c3
    try clear c3b0
    try clear c3b1
    try clear c5
    try clear c5b0
    try clear c5b1
    obtain ⟨x15_1, rfl, HA, HK1, BK699, HB⟩ := hrel
    cases gk with
    | zero => exact absurd HA.out (by simp [tillerref06_Prompt.l0])
    | succ k1 =>
     have H := HA.out
     clear HA
     simp only [tillerref06_Prompt.l0] at H
     by_cases c8 : x15_1 < (l1.length : Int)
     ·rw [if_pos c8] at H
      have c8b0 : decide (x15_1 < (l1.length : Int)) = true := decide_eq_true c8
      clear c8
      by_cases c9 : 0 ≤ x15_1
      ·rw [if_pos c9] at H
       have c9b0 : decide (0 ≤ x15_1) = true := decide_eq_true c9
       clear c9
       by_cases c10 : x15_1 < (l1.length : Int)
       ·rw [if_pos c10] at H
        have c10b0 : decide (x15_1 < (l1.length : Int)) = true := decide_eq_true c10
        clear c10
        by_cases c11 : (rd l1 x15_1) < 0
        ·rw [if_pos c11] at H
         have c11b0 : decide ((rd l1 x15_1) < 0) = true := decide_eq_true c11
         clear c11
         obtain rfl := Option.some.inj H
         have p700 : 0 ≤ (x15_1 : Int) := ofd_
         have q700 : x15_1 < (l1.length : Int) := ofd_
         obtain ⟨ad700, e700, hx700_0⟩ := Kd.at_int HR1.out x15_1 p700 q700
         cases e700
         replace hx700_0 := (HB.out.cell (World.block_lt_of_cell? w _ hx700_0)).trans hx700_0
         replace p700 := eq_true p700
         replace q700 := eq_true q700
         go_wp2
         go_ret
         exact ⟨by first | rfl | (simp [errW_none, errW_some] <;> rfl) | (simp [*, errW_none, errW_some] <;> rfl), by repeat (first | (with_reducible first | exact HB.out | apply bwA | apply bwN | apply bwD | refine below_set ?_ GE699.out) | exact HB.out)⟩
        ·rw [if_neg c11] at H
         have c11b0 : decide ((rd l1 x15_1) < 0) = false := decide_eq_false c11
         clear c11
         by_cases c12 : (rd l1 x15_1) ≥ a0_0
         ·rw [if_pos c12] at H
          have c12b0 : decide (a0_0 ≤ (rd l1 x15_1)) = true := decide_eq_true c12
          clear c12
          obtain rfl := Option.some.inj H
          have p700 : 0 ≤ (x15_1 : Int) := ofd_
          have q700 : x15_1 < (l1.length : Int) := ofd_
          obtain ⟨ad700, e700, hx700_0⟩ := Kd.at_int HR1.out x15_1 p700 q700
          cases e700
          replace hx700_0 := (HB.out.cell (World.block_lt_of_cell? w _ hx700_0)).trans hx700_0
          replace p700 := eq_true p700
          replace q700 := eq_true q700
          have hcz13_0 : wr.cell? ⟨gb699, 0, none⟩ = some (.int .i64 a0_0) := (blk_cell BK699.out 0).trans rfl
          have hcz13_1 : wr.cell? ⟨gb699, 1, none⟩ = some (.int .i64 a0_1) := (blk_cell BK699.out 1).trans rfl
          have hcz13_2 : wr.cell? ⟨gb699, 2, none⟩ = some (.int .i64 a0_2) := (blk_cell BK699.out 2).trans rfl
          have hcz13_3 : wr.cell? ⟨gb699, 3, none⟩ = some (.int .i64 a0_3) := (blk_cell BK699.out 3).trans rfl
          have hcz13_4 : wr.cell? ⟨gb699, 4, none⟩ = some (.int .i64 a0_4) := (blk_cell BK699.out 4).trans rfl
          have hfz13_0 := blk_frozen BK699.out 0
          have hfz13_1 := blk_frozen BK699.out 1
          have hfz13_2 := blk_frozen BK699.out 2
          have hfz13_3 := blk_frozen BK699.out 3
          have hfz13_4 := blk_frozen BK699.out 4
          go_wp2
          go_ret
          exact ⟨by first | rfl | (simp [errW_none, errW_some] <;> rfl) | (simp [*, errW_none, errW_some] <;> rfl), by repeat (first | (with_reducible first | exact HB.out | apply bwA | apply bwN | apply bwD | refine below_set ?_ GE699.out) | exact HB.out)⟩
         ·rw [if_neg c12] at H
          have c12b0 : decide (a0_0 ≤ (rd l1 x15_1)) = false := decide_eq_false c12
          clear c12
          have H' := Aside0.mk H
          clear H
          have p700 : 0 ≤ (x15_1 : Int) := ofd_
          have q700 : x15_1 < (l1.length : Int) := ofd_
          obtain ⟨ad700, e700, hx700_0⟩ := Kd.at_int HR1.out x15_1 p700 q700
          cases e700
          replace hx700_0 := (HB.out.cell (World.block_lt_of_cell? w _ hx700_0)).trans hx700_0
          replace p700 := eq_true p700
          replace q700 := eq_true q700
          have hcz14_0 : wr.cell? ⟨gb699, 0, none⟩ = some (.int .i64 a0_0) := (blk_cell BK699.out 0).trans rfl
          have hcz14_1 : wr.cell? ⟨gb699, 1, none⟩ = some (.int .i64 a0_1) := (blk_cell BK699.out 1).trans rfl
          have hcz14_2 : wr.cell? ⟨gb699, 2, none⟩ = some (.int .i64 a0_2) := (blk_cell BK699.out 2).trans rfl
          have hcz14_3 : wr.cell? ⟨gb699, 3, none⟩ = some (.int .i64 a0_3) := (blk_cell BK699.out 3).trans rfl
          have hcz14_4 : wr.cell? ⟨gb699, 4, none⟩ = some (.int .i64 a0_4) := (blk_cell BK699.out 4).trans rfl
          have hfz14_0 := blk_frozen BK699.out 0
          have hfz14_1 := blk_frozen BK699.out 1
          have hfz14_2 := blk_frozen BK699.out 2
          have hfz14_3 := blk_frozen BK699.out 3
          have hfz14_4 := blk_frozen BK699.out 4
          go_wp2
          go_roundg k1
          case measure => have := HK1.out; omega
          case rel => exact ⟨(wrap64 (x15_1 + 1)), (by first | rfl | (simp; done) | (simp [*]; done)), H', ⟨by have := HK1.out; omega⟩, ⟨by (with_reducible repeat (first | apply bkN | apply bkD | apply bkA)); exact BK699.out⟩, ⟨by repeat (first | (with_reducible first | exact HB.out | apply bwA | apply bwN | apply bwD | refine below_set ?_ GE699.out) | exact HB.out)⟩⟩
       ·rw [if_neg c10] at H
        exact absurd H (by simp)
      ·rw [if_neg c9] at H
       exact absurd H (by simp)
     ·rw [if_neg c8] at H
      have c8b0 : decide (x15_1 < (l1.length : Int)) = false := decide_eq_false c8
      clear c8
      obtain rfl := Option.some.inj H
      go_wp2
      go_ret
      exact ⟨by first | rfl | (simp [errW_none, errW_some] <;> rfl) | (simp [*, errW_none, errW_some] <;> rfl), by repeat (first | (with_reducible first | exact HB.out | apply bwA | apply bwN | apply bwD | refine below_set ?_ GE699.out) | exact HB.out)⟩

end Go.Proofs.Ytdlhodbokkaghaa.GQ
