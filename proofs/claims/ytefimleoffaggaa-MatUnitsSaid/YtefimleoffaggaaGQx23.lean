-- written by this session's program gprint.py
import Derived.Test.YtefimleoffaggaaGQx0
import Derived.Test.YtefimleoffaggaaWApart
import Derived.Test.YtefimleoffaggaaWLast
import Derived.Test.YtefimleoffaggaaWMore
import Derived.Test.YtefimleoffaggaaWN
import Derived.Test.YtefimleoffaggaaWWords
namespace Go.Proofs.Ytefimleoffaggaa.GQ
open Go.RowKit Go.Proofs.YtefimleoffaggaaW.PrintWords Go.Proofs.YtefimleoffaggaaW.PrintLast Go.Proofs.YtefimleoffaggaaW.PrintMore
attribute [local go_sem] max2_int min2_int max_two min_two max_three min_three max_four min_four   -- for this text's walks alone
set_option linter.unusedVariables false
set_option linter.unusedSimpArgs false

/-! ### mat_Unit: function 41 -/
def mat_Unit.l0 : Nat → Int → Int → Int → Int → Int → List Int → Option (Int × Int × List Int × Int)
 | 0, _, _, _, _, _, _ => none
 | k + 1, x0, x19, x20, x544000, x544001, x544002 => if x20 < x19 then (if 0 ≤ (wrap64 ((wrap64 (x20 * x0)) + x20)) then (if (wrap64 ((wrap64 (x20 * x0)) + x20)) < (x544002.length : Int) then (mat_Unit.l0 k x0 x19 (wrap64 (x20 + 1)) x544000 x544001 (x544002.set ((wrap64 ((wrap64 (x20 * x0)) + x20)) : Int).toNat 65536)) else (none)) else (none)) else (some (x544000, x544001, x544002, 0))
def mat_Unit.f (k : Nat) (a0 : Int) : Option (Int × Int × List Int × Int) := if a0 < 1 then (some (0, 0, ([] : List Int), 1)) else (if a0 > 128 then (some (0, 0, ([] : List Int), 2)) else (if 0 ≤ (wrap64 (a0 * a0)) then (if (wrap64 (a0 * a0) : Int).toNat ≤ 70368744177664 then (mat_Unit.l0 k a0 a0 0 a0 a0 (List.replicate (wrap64 (a0 * a0) : Int).toNat 0)) else (none)) else (none)))
theorem mat_Unit.mono_l : ∀ k, (∀ y0 y1 y2 y3 y4 y5, LeO (mat_Unit.l0 k y0 y1 y2 y3 y4 y5) (mat_Unit.l0 (k + 1) y0 y1 y2 y3 y4 y5))
 | 0 => fun _ _ _ _ _ _ r h => by simp [mat_Unit.l0] at h
 | k + 1 => by
  have ih0 := mat_Unit.mono_l k
  ·intro y0 y1 y2 y3 y4 y5
   unfold mat_Unit.l0
   repeat' first
   | (with_reducible exact ih0 _ _ _ _ _ _)
   | (with_reducible exact LeO.refl _)
   | (with_reducible exact LeO.none _)
   | (with_reducible refine LeO.ite ?_ ?_)
   | (with_reducible refine LeO.bind ?_ (fun _ => ?_))
   | exact ih0 _ _ _ _ _ _
   | exact LeO.none _
   | refine LeO.ite ?_ ?_
   | refine LeO.bind ?_ (fun _ => ?_)
theorem mat_Unit.mono : ∀ a0 k, LeO (mat_Unit.f k a0) (mat_Unit.f (k + 1) a0) := by
 intro a0 k
 have ih0 := mat_Unit.mono_l k
 unfold mat_Unit.f
 repeat' first
   | (with_reducible exact ih0 _ _ _ _ _ _)
   | (with_reducible exact LeO.refl _)
   | (with_reducible exact LeO.none _)
   | (with_reducible refine LeO.ite ?_ ?_)
   | (with_reducible refine LeO.bind ?_ (fun _ => ?_))
   | exact ih0 _ _ _ _ _ _
   | exact LeO.none _
   | refine LeO.ite ?_ ?_
   | refine LeO.bind ?_ (fun _ => ?_)
set_option maxHeartbeats 8000000 in
set_option maxRecDepth 100000 in
theorem mat_Unit.calls (k : Nat) (a0 : Int) (r1 : Int) (r2 : Int) (r3 : List Int) (r4 : Int) (w : World) (h : mat_Unit.f k a0 = some (r1, r2, r3, r4)) :
  Calls Try.prog 41 #[.int .i64 a0] w fun e w' => ∃ v2_ : Value, e = .returned (.tuple #[.agg #[.int .i64 r1, .int .i64 r2, v2_], .int .i64 r4]) ∧ Kd.R (Kd.int .i32) 24 w' w.heap.size (fun _ => True) v2_ r3 ∧ Below w.heap.size w w' := by
 have hu46 := Try.underlying46
 have HB := Aside0.mk (Below.refl w.heap.size w)
 have H : (if a0 < 1 then (some (0, 0, ([] : List Int), 1)) else (if a0 > 128 then (some (0, 0, ([] : List Int), 2)) else (if 0 ≤ (wrap64 (a0 * a0)) then (if (wrap64 (a0 * a0) : Int).toNat ≤ 70368744177664 then (mat_Unit.l0 k a0 a0 0 a0 a0 (List.replicate (wrap64 (a0 * a0) : Int).toNat 0)) else (none)) else (none)))) = some (r1, r2, r3, r4) := h
 clear h
 by_cases c2 : a0 < 1
 ·rw [if_pos c2] at H
  have c2b0 : decide (a0 < 1) = true := decide_eq_true c2
  clear c2
  simp only [Option.some.injEq, Prod.mk.injEq] at H
  obtain ⟨rfl, rfl, rfl, rfl⟩ := H
  go_enter Try.func41, Try.ntmps41
  go_wp2_with (first | ((with_reducible refine gate_dst (N := 2) rfl ?_); refine box_event ?hg (N := 2) ?hd (cs := #[.int .i64 0, .int .i64 0, .slice none 0 0]) (t := 46) ?hr ?_; (case hd => rfl); (case hg => rfl); (case hr => first | (go_simp; done) | (go_simp; rfl)); intro gb539 hg w3 hbox hb; have n0_ := Aside0.mk (below_step (by repeat (first | (with_reducible first | exact HB.out | apply bwA | apply bwN | apply bwD) | exact HB.out)) hb); have n1_ := Aside0.mk (hbox); have n2_ := Aside0.mk ((by rw [hg]; exact (below_size (by repeat (first | (with_reducible first | exact HB.out | apply bwA | apply bwN | apply bwD) | exact HB.out))) : w.heap.size ≤ gb539)); have n3_ := Aside0.mk ((by rw [hg]; exact (below_size (by repeat (first | (with_reducible first | exact HB.out | apply bwA | apply bwN | apply bwD) | exact HB.out))) : w.heap.size ≤ gb539)); clear HB; have HB := n0_; have BK539 := n1_; have GW539 := n2_; have GE539 := n3_; clear n0_ n1_ n2_ n3_; clear hb hbox hg; have hcz4_0 : w3.cell? ⟨gb539, 0, none⟩ = some (.int .i64 0) := (blk_cell BK539.out 0).trans rfl; have hcz4_1 : w3.cell? ⟨gb539, 1, none⟩ = some (.int .i64 0) := (blk_cell BK539.out 1).trans rfl; have hcz4_2 : w3.cell? ⟨gb539, 2, none⟩ = some (.slice none 0 0) := (blk_cell BK539.out 2).trans rfl; have hfz4_0 := blk_frozen BK539.out 0; have hfz4_1 := blk_frozen BK539.out 1; have hfz4_2 := blk_frozen BK539.out 2))
  refine bodyPost_ret (results_ct rfl _ _ gb539 46 #[.int .i64 0, .int .i64 0, .slice none 0 0] (0, 0) _ rfl (by (with_reducible repeat (first | apply bkN | apply bkD | apply bkA)); refine blk_put (cs := #[.int .i64 0, .int .i64 0, .slice none 0 0]) ?_ 2 _ rfl; (with_reducible repeat (first | apply bkN | apply bkD | apply bkA)); refine blk_put (cs := #[.int .i64 0, .int .i64 0, .slice none 0 0]) ?_ 1 _ rfl; (with_reducible repeat (first | apply bkN | apply bkD | apply bkA)); refine blk_put (cs := #[.int .i64 0, .int .i64 0, .slice none 0 0]) ?_ 0 _ rfl; (with_reducible repeat (first | apply bkN | apply bkD | apply bkA)); exact BK539.out) Try.underlying46 rfl (by kernel_rfl)) rfl ?_
  exact ⟨_, by first | rfl | (simp [errW_none, errW_some] <;> rfl) | (simp [*, errW_none, errW_some] <;> rfl), by first | exact Kd.R_nil _ _ _ _ _ | exact Kd.N_nil _ _ _ _ _ | exact Kd.V_nil _ _ _ _ _ | exact Kd.Q_nil _ _ _ _ _ | exact Kd.S_nil _ _ _ _ _, by repeat (first | (with_reducible first | exact HB.out | apply bwA | apply bwN | apply bwD | refine below_set ?_ GE539.out) | exact HB.out)⟩
 ·rw [if_neg c2] at H
  have c2b0 : decide (a0 < 1) = false := decide_eq_false c2
  clear c2
  by_cases c5 : a0 > 128
  ·rw [if_pos c5] at H
   have c5b0 : decide (128 < a0) = true := decide_eq_true c5
   clear c5
   simp only [Option.some.injEq, Prod.mk.injEq] at H
   obtain ⟨rfl, rfl, rfl, rfl⟩ := H
   go_enter Try.func41, Try.ntmps41
   go_wp2_with (first | ((with_reducible refine gate_dst (N := 2) rfl ?_); refine box_event ?hg (N := 2) ?hd (cs := #[.int .i64 0, .int .i64 0, .slice none 0 0]) (t := 46) ?hr ?_; (case hd => rfl); (case hg => rfl); (case hr => first | (go_simp; done) | (go_simp; rfl)); intro gb539 hg w6 hbox hb; have n0_ := Aside0.mk (below_step (by repeat (first | (with_reducible first | exact HB.out | apply bwA | apply bwN | apply bwD) | exact HB.out)) hb); have n1_ := Aside0.mk (hbox); have n2_ := Aside0.mk ((by rw [hg]; exact (below_size (by repeat (first | (with_reducible first | exact HB.out | apply bwA | apply bwN | apply bwD) | exact HB.out))) : w.heap.size ≤ gb539)); have n3_ := Aside0.mk ((by rw [hg]; exact (below_size (by repeat (first | (with_reducible first | exact HB.out | apply bwA | apply bwN | apply bwD) | exact HB.out))) : w.heap.size ≤ gb539)); clear HB; have HB := n0_; have BK539 := n1_; have GW539 := n2_; have GE539 := n3_; clear n0_ n1_ n2_ n3_; clear hb hbox hg; have hcz7_0 : w6.cell? ⟨gb539, 0, none⟩ = some (.int .i64 0) := (blk_cell BK539.out 0).trans rfl; have hcz7_1 : w6.cell? ⟨gb539, 1, none⟩ = some (.int .i64 0) := (blk_cell BK539.out 1).trans rfl; have hcz7_2 : w6.cell? ⟨gb539, 2, none⟩ = some (.slice none 0 0) := (blk_cell BK539.out 2).trans rfl; have hfz7_0 := blk_frozen BK539.out 0; have hfz7_1 := blk_frozen BK539.out 1; have hfz7_2 := blk_frozen BK539.out 2))
   refine bodyPost_ret (results_ct rfl _ _ gb539 46 #[.int .i64 0, .int .i64 0, .slice none 0 0] (0, 0) _ rfl (by (with_reducible repeat (first | apply bkN | apply bkD | apply bkA)); refine blk_put (cs := #[.int .i64 0, .int .i64 0, .slice none 0 0]) ?_ 2 _ rfl; (with_reducible repeat (first | apply bkN | apply bkD | apply bkA)); refine blk_put (cs := #[.int .i64 0, .int .i64 0, .slice none 0 0]) ?_ 1 _ rfl; (with_reducible repeat (first | apply bkN | apply bkD | apply bkA)); refine blk_put (cs := #[.int .i64 0, .int .i64 0, .slice none 0 0]) ?_ 0 _ rfl; (with_reducible repeat (first | apply bkN | apply bkD | apply bkA)); exact BK539.out) Try.underlying46 rfl (by kernel_rfl)) rfl ?_
   exact ⟨_, by first | rfl | (simp [errW_none, errW_some] <;> rfl) | (simp [*, errW_none, errW_some] <;> rfl), by first | exact Kd.R_nil _ _ _ _ _ | exact Kd.N_nil _ _ _ _ _ | exact Kd.V_nil _ _ _ _ _ | exact Kd.Q_nil _ _ _ _ _ | exact Kd.S_nil _ _ _ _ _, by repeat (first | (with_reducible first | exact HB.out | apply bwA | apply bwN | apply bwD | refine below_set ?_ GE539.out) | exact HB.out)⟩
  ·rw [if_neg c5] at H
   have c5b0 : decide (128 < a0) = false := decide_eq_false c5
   clear c5
   obtain ⟨ji8, hji8⟩ : ∃ j_ : Int, (wrap64 (a0 * a0)) = j_ := ⟨_, rfl⟩
   replace H : (if 0 ≤ (ji8) then (if (ji8 : Int).toNat ≤ 70368744177664 then (mat_Unit.l0 k a0 a0 0 a0 a0 (List.replicate (ji8 : Int).toNat 0)) else (none)) else (none)) = some (r1, r2, r3, r4) := by first | (rw [hji8] at H; exact H) | (simp only [hji8] at H ⊢; exact H)
   have hji8w : (IntKind.i64.wrap (a0 * a0)) = ji8 := (i64_w _).trans hji8
   by_cases c9 : 0 ≤ (ji8)
   ·rw [if_pos c9] at H
    have c9b0 := eq_true c9
    have c9b1 : decide (0 ≤ (ji8)) = true := decide_eq_true c9
    clear c9
    by_cases c10 : (ji8 : Int).toNat ≤ 70368744177664
    ·rw [if_pos c10] at H
     have c10b0 := eq_true c10
     have c10b1 : decide ((ji8 : Int).toNat ≤ 70368744177664) = true := decide_eq_true c10
     clear c10
     obtain ⟨y540, hy540⟩ : ∃ y_ : List Int, y_ = (List.replicate (ji8 : Int).toNat 0) := ⟨_, rfl⟩
     replace H : (mat_Unit.l0 k a0 a0 0 a0 a0 y540) = some (r1, r2, r3, r4) := by first | (rw [hy540]; with_reducible exact H) | (have H2_ := (Option.bind_some _ _).symm.trans H; rw [hy540]; with_reducible exact H2_) | (have H2_ := (Option.bind_some _ _).symm.trans H; with_reducible exact H2_) | with_reducible exact H | (rw [hy540]; exact H) | exact H
     have Ny540 := Aside0.mk hy540
     clear hy540
     have H' := Aside0.mk H
     clear H
     go_enter Try.func41, Try.ntmps41
     go_wp2_with (first | ((with_reducible refine gate_dst (N := 2) rfl ?_); refine box_event ?hg (N := 2) ?hd (cs := #[.int .i64 0, .int .i64 0, .slice none 0 0]) (t := 46) ?hr ?_; (case hd => rfl); (case hg => rfl); (case hr => first | (go_simp; done) | (go_simp; rfl)); intro gb539 hg w11 hbox hb; have n0_ := Aside0.mk (below_step (by repeat (first | (with_reducible first | exact HB.out | apply bwA | apply bwN | apply bwD) | exact HB.out)) hb); have n1_ := Aside0.mk (hbox); have n2_ := Aside0.mk ((by rw [hg]; exact (below_size (by repeat (first | (with_reducible first | exact HB.out | apply bwA | apply bwN | apply bwD) | exact HB.out))) : w.heap.size ≤ gb539)); have n3_ := Aside0.mk ((by rw [hg]; exact (below_size (by repeat (first | (with_reducible first | exact HB.out | apply bwA | apply bwN | apply bwD) | exact HB.out))) : w.heap.size ≤ gb539)); clear HB; have HB := n0_; have BK539 := n1_; have GW539 := n2_; have GE539 := n3_; clear n0_ n1_ n2_ n3_; clear hb hbox hg) | ((with_reducible refine gate_dst (N := 17) rfl ?_); refine Kd.R_make (Kd.int .i32) _ 24 rfl (N := 17) rfl 22 _ _ rfl ji8 rfl rfl Try.underlying22 (.int .i32 0) 4 info24 rfl (by decide) (by omega) 0 (ok := fun _ => True) (okp := fun _ => True) rfl (fun _ hk => hk) trivial ofd_ (Nat.le_trans (Nat.mul_le_mul_right _ (ofd_ : ji8.toNat ≤ 70368744177664)) (by omega)) (Below.refl _ _) (Nat.le_refl _) ?_; intro v541 w12 ho13 hb hg_ hnew_; clear hg_ hnew_; (first | rw [← Ny540.out] at ho13 | (simp only [Int.reduceToNat] at ho13; rw [← Ny540.out] at ho13)); have n0_ := Aside0.mk (Kd.R_lower ho13 (below_size (by repeat (first | (with_reducible first | exact HB.out | apply bwA | apply bwN | apply bwD | refine below_set ?_ GE539.out) | exact HB.out)))); have n1_ := Aside0.mk (blk_below (g := gb539) (o := .cells #[.int .i64 0, .int .i64 0, .slice none 0 0] 46 (0, 0)) (by (with_reducible repeat (first | apply bkN | apply bkD | apply bkA)); exact BK539.out) hb); have n2_ := Aside0.mk (below_step (by repeat (first | (with_reducible first | exact HB.out | apply bwA | apply bwN | apply bwD | refine below_set ?_ GE539.out) | exact HB.out)) hb); clear BK539; clear HB; have HO542 := n0_; have BK539 := n1_; have HB := n2_; clear n0_ n1_ n2_; clear hb ho13; obtain ⟨Ao14, co14, eo14⟩ := Kd.R_slice HO542.out; subst eo14) | ((with_reducible refine gate_dst (N := 4) rfl ?_); refine box_event ?hg (N := 4) ?hd (cs := #[.int .i64 0, .int .i64 0, .slice none 0 0]) (t := 46) ?hr ?_; (case hd => rfl); (case hg => rfl); (case hr => first | (go_simp; done) | (go_simp; rfl)); intro gb543 hg w15 hbox hb; have n0_ := Aside0.mk (Kd.R_below (by (with_reducible repeat (first | apply rwA | apply rwN | apply rwD)); exact HO542.out) hb); have n1_ := Aside0.mk (blk_below (g := gb539) (o := .cells #[.int .i64 0, .int .i64 0, .slice none 0 0] 46 (0, 0)) (by (with_reducible repeat (first | apply bkN | apply bkD | apply bkA)); exact BK539.out) hb); have n2_ := Aside0.mk (below_step (by repeat (first | (with_reducible first | exact HB.out | apply bwA | apply bwN | apply bwD | refine below_set ?_ GE539.out) | exact HB.out)) hb); have n3_ := Aside0.mk (hbox); have n4_ := Aside0.mk ((by rw [hg]; exact (below_size (by repeat (first | (with_reducible first | exact HB.out | apply bwA | apply bwN | apply bwD | refine below_set ?_ GE539.out) | exact HB.out))) : w.heap.size ≤ gb543)); have n5_ := Aside0.mk ((by rw [hg]; exact (below_size (by repeat (first | (with_reducible first | exact HB.out | apply bwA | apply bwN | apply bwD | refine below_set ?_ GE539.out) | exact HB.out))) : w.heap.size ≤ gb543)); have n6_ := Aside0.mk ((by rw [hg]; exact Nat.ne_of_lt (blk_lt (g := gb539) (o := .cells #[.int .i64 0, .int .i64 0, .slice none 0 0] 46 (0, 0)) (by (with_reducible repeat (first | apply bkN | apply bkD | apply bkA)); exact BK539.out)) : gb539 ≠ gb543)); have n7_ := Aside0.mk ((by rw [hg]; exact Nat.ne_of_gt (blk_lt (g := gb539) (o := .cells #[.int .i64 0, .int .i64 0, .slice none 0 0] 46 (0, 0)) (by (with_reducible repeat (first | apply bkN | apply bkD | apply bkA)); exact BK539.out)) : gb543 ≠ gb539)); clear HO542; clear BK539; clear HB; have HO542 := n0_; have BK539 := n1_; have HB := n2_; have BK543 := n3_; have GW543 := n4_; have GE543 := n5_; have NB539_543 := n6_; have NB543_539 := n7_; clear n0_ n1_ n2_ n3_ n4_ n5_ n6_ n7_; clear hb hbox hg; have hnb16 := NB543_539.out; have hnc16 := NB539_543.out; have hcz17_0 : w15.cell? ⟨gb543, 0, none⟩ = some (.int .i64 0) := (blk_cell BK543.out 0).trans rfl; have hcz17_1 : w15.cell? ⟨gb543, 1, none⟩ = some (.int .i64 0) := (blk_cell BK543.out 1).trans rfl; have hcz17_2 : w15.cell? ⟨gb543, 2, none⟩ = some (.slice none 0 0) := (blk_cell BK543.out 2).trans rfl; have hfz17_0 := blk_frozen BK543.out 0; have hfz17_1 := blk_frozen BK543.out 1; have hfz17_2 := blk_frozen BK543.out 2))
     go_loopg [20] k (fun kq v20 w' => ∃ (x20_1 : Int) (x544002_1 : List Int) (u544002 : Value), v20 = .int .i64 x20_1 ∧ Aside0 (mat_Unit.l0 kq a0 a0 x20_1 a0 a0 x544002_1 = some (r1, r2, r3, r4)) ∧ Aside0 (kq ≤ k) ∧ Aside0 (Kd.R (Kd.int .i32) 24 w' w.heap.size (fun _ => True) u544002 x544002_1) ∧ Aside0 (w'.heap[gb539]? = some (.cells #[.int .i64 0, .int .i64 0, (.slice none 0 0)] 46 (0, 0))) ∧ Aside0 (w'.heap[gb543]? = some (.cells #[.int .i64 a0, .int .i64 a0, u544002] 46 (0, 0))) ∧ Aside0 (Below w.heap.size w w'))
     case atStart => exact ⟨(0), (y540), (.slice Ao14 y540.length co14), (by first | rfl | (simp; done) | (simp [*]; done)), H', ⟨Nat.le_refl _⟩, ⟨by (with_reducible repeat (first | apply rwA | apply rwN | apply rwD)); exact Kd.R_mono (Kd.R_far (p := ⟨gb543, 2, none⟩) (Kd.R_far (p := ⟨gb543, 1, none⟩) (Kd.R_far (p := ⟨gb543, 0, none⟩) (Kd.R_types HO542.out BK543.out (by decide)) (fun _ hk => hk.2) (.int .i64 a0)) (fun _ hk => hk.2) (.int .i64 a0)) (fun _ hk => hk.2) (.slice Ao14 y540.length co14)) (fun _ hk => trivial)⟩, ⟨by (with_reducible repeat (first | apply bkN | apply bkD | apply bkA)); refine blk_far ?_ NB539_543.out _; (with_reducible repeat (first | apply bkN | apply bkD | apply bkA)); refine blk_far ?_ NB539_543.out _; (with_reducible repeat (first | apply bkN | apply bkD | apply bkA)); refine blk_far ?_ NB539_543.out _; (with_reducible repeat (first | apply bkN | apply bkD | apply bkA)); exact BK539.out⟩, ⟨by (with_reducible repeat (first | apply bkN | apply bkD | apply bkA)); refine blk_put (cs := #[.int .i64 a0, .int .i64 a0, .slice none 0 0]) ?_ 2 _ rfl; (with_reducible repeat (first | apply bkN | apply bkD | apply bkA)); refine blk_put (cs := #[.int .i64 a0, .int .i64 0, .slice none 0 0]) ?_ 1 _ rfl; (with_reducible repeat (first | apply bkN | apply bkD | apply bkA)); refine blk_put (cs := #[.int .i64 0, .int .i64 0, .slice none 0 0]) ?_ 0 _ rfl; (with_reducible repeat (first | apply bkN | apply bkD | apply bkA)); exact BK543.out⟩, ⟨by repeat (first | (with_reducible first | exact HB.out | apply bwA | apply bwN | apply bwD | refine below_set ?_ GE539.out | refine below_set ?_ GE543.out) | exact HB.out)⟩⟩
     case round =>
      clear H'
      try clear c1
      try clear c2
      try clear c2b0
      try clear p2
      try clear c4
      try clear c5
      try clear c5b0
      try clear p6
      try clear c9
      try clear c9b0
      try clear c9b1
      try clear c10
      try clear c10b0
      try clear c10b1
      try clear c16
      try clear hcz17_0
      try clear hcz17_1
      try clear hcz17_2
      try clear hcz4_0
      try clear hcz4_1
      try clear hcz4_2
      try clear hcz7_0
      try clear hcz7_1
      try clear hcz7_2
      try clear hfz17_0
      try clear hfz17_1
      try clear hfz17_2
      try clear hfz4_0
      try clear hfz4_1
      try clear hfz4_2
      try clear hfz7_0
      try clear hfz7_1
      try clear hfz7_2
      obtain ⟨x20_1, x544002_1, u544002, rfl, HA, HK1, HO_544002, BK539, BK543, HB⟩ := hrel
      cases gk with
      | zero => exact absurd HA.out (by simp [mat_Unit.l0])
      | succ k1 =>
       have H := HA.out
       clear HA
       simp only [mat_Unit.l0] at H
       by_cases c18 : x20_1 < a0
       ·rw [if_pos c18] at H
        have c18b0 : decide (x20_1 < a0) = true := decide_eq_true c18
        clear c18
        obtain ⟨ji19, hji19⟩ : ∃ j_ : Int, (wrap64 ((wrap64 (x20_1 * a0)) + x20_1)) = j_ := ⟨_, rfl⟩
        replace H : (if 0 ≤ (ji19) then (if (ji19) < (x544002_1.length : Int) then (mat_Unit.l0 k1 a0 a0 (wrap64 (x20_1 + 1)) a0 a0 (x544002_1.set ((ji19) : Int).toNat 65536)) else (none)) else (none)) = some (r1, r2, r3, r4) := by first | (rw [hji19] at H; exact H) | (simp only [hji19] at H ⊢; exact H)
        have hji19w : (IntKind.i64.wrap ((wrap64 (x20_1 * a0)) + x20_1)) = ji19 := (i64_w _).trans hji19
        by_cases c20 : 0 ≤ (ji19)
        ·rw [if_pos c20] at H
         have c20b0 : decide (0 ≤ (ji19)) = true := decide_eq_true c20
         clear c20
         by_cases c21 : (ji19) < (x544002_1.length : Int)
         ·rw [if_pos c21] at H
          have c21b0 : decide ((ji19) < (x544002_1.length : Int)) = true := decide_eq_true c21
          clear c21
          obtain ⟨y544, hy544⟩ : ∃ y_ : List Int, y_ = (x544002_1.set ((ji19) : Int).toNat 65536) := ⟨_, rfl⟩
          replace H : (mat_Unit.l0 k1 a0 a0 (wrap64 (x20_1 + 1)) a0 a0 y544) = some (r1, r2, r3, r4) := by first | (rw [hy544]; with_reducible exact H) | (have H2_ := (Option.bind_some _ _).symm.trans H; rw [hy544]; with_reducible exact H2_) | (have H2_ := (Option.bind_some _ _).symm.trans H; with_reducible exact H2_) | with_reducible exact H | (rw [hy544]; exact H) | exact H
          have Ny544 := Aside0.mk hy544
          clear hy544
          have H' := Aside0.mk H
          clear H
          have hnb23 := NB543_539.out
          have hnc23 := NB539_543.out
          have hcz24_0 : wr.cell? ⟨gb543, 0, none⟩ = some (.int .i64 a0) := (blk_cell BK543.out 0).trans rfl
          have hcz24_1 : wr.cell? ⟨gb543, 1, none⟩ = some (.int .i64 a0) := (blk_cell BK543.out 1).trans rfl
          have hcz24_2 : wr.cell? ⟨gb543, 2, none⟩ = some (u544002) := (blk_cell BK543.out 2).trans rfl
          have hfz24_0 := blk_frozen BK543.out 0
          have hfz24_1 := blk_frozen BK543.out 1
          have hfz24_2 := blk_frozen BK543.out 2
          have p22 : 0 ≤ ((ji19) : Int) := ofd_
          have q22 : ((ji19) : Int) < ((x544002_1.length : Int) : Int) := ofd_
          obtain ⟨go22, co22, eo22, gb22, gl22, cl22, HG22⟩ := Kd.R_form HO_544002.out (by omega)
          (first | cases eo22 | (injection eo22 with ea_ en_ ec_; (first | subst ea_ | (injection ea_ with ea_; subst ea_)); subst ec_; clear en_))
          have GB22 := Aside0.mk gb22
          have GG22 := Aside0.mk HG22
          clear gb22 gl22 HG22
          obtain ⟨hx22_0, hf22_0⟩ := Kd.R_celln 0 HO_544002.out ((ji19) : Int) p22 q22
          replace p22 := eq_true p22
          replace q22 := eq_true q22
          have HP25 := Kd.R_putg HO_544002.out ((ji19) : Int) 65536
          go_wp2_with (first | ((with_reducible refine gate_store (t := 24) (p := 30) rfl ?_); refine store_event (t := 24) (p := 30) (v := ?vo_w26) (w1 := (wr.setCell ⟨go22, ((ji19) : Int).toNat, none⟩ (.int .i32 65536))) ?hg ?ho ?hn ?hr ?_; (case ho => rfl); (case hg => rfl); (case hn => rfl); (case hr => first | (go_simp; done) | (go_simp; rfl)); intro w26 hw; have hg : wr.grownBy w26 (some go22) := (by rw [hw]; exact HP25.2); have hp_ : Kd.R (Kd.int .i32) 24 w26 w.heap.size (fun _ => True) (.slice (some ⟨go22, 0, none⟩) x544002_1.length co22) y544 := (by rw [hw, Ny544.out]; exact HP25.1); clear HP25; have n0_ := Aside0.mk (hp_); have n1_ := Aside0.mk (blk_grown (g := gb539) (o := .cells #[.int .i64 0, .int .i64 0, .slice none 0 0] 46 (0, 0)) (by (with_reducible repeat (first | apply bkN | apply bkD | apply bkA)); exact BK539.out) hg (Kd.R_ne HO_544002.out BK539.out (by decide))); have n2_ := Aside0.mk (blk_grown (g := gb543) (o := .cells #[.int .i64 a0, .int .i64 a0, .slice (some ⟨go22, 0, none⟩) x544002_1.length co22] 46 (0, 0)) (by (with_reducible repeat (first | apply bkN | apply bkD | apply bkA)); exact BK543.out) hg (Kd.R_ne HO_544002.out BK543.out (by decide))); have n3_ := Aside0.mk ((by rw [hw]; exact below_set (HB.out) GB22.out : Below w.heap.size w w26)); clear HO_544002; clear BK539; clear BK543; clear HB; have HO_544002 := n0_; have BK539 := n1_; have BK543 := n2_; have HB := n3_; clear n0_ n1_ n2_ n3_; clear hg hw hp_))
          go_roundg k1
          case measure => have := HK1.out; omega
          case rel => exact ⟨(wrap64 (x20_1 + 1)), (y544), (.slice (some ⟨go22, 0, none⟩) x544002_1.length co22), (by first | rfl | (simp; done) | (simp [*]; done)), H', ⟨by have := HK1.out; omega⟩, ⟨by (with_reducible repeat (first | apply rwA | apply rwN | apply rwD)); exact HO_544002.out⟩, ⟨by (with_reducible repeat (first | apply bkN | apply bkD | apply bkA)); exact BK539.out⟩, ⟨by (with_reducible repeat (first | apply bkN | apply bkD | apply bkA)); exact BK543.out⟩, ⟨by repeat (first | (with_reducible first | exact HB.out | apply bwA | apply bwN | apply bwD | refine below_set ?_ GE539.out | refine below_set ?_ GE543.out) | exact HB.out)⟩⟩
         ·rw [if_neg c21] at H
          exact absurd H (by simp)
        ·rw [if_neg c20] at H
         exact absurd H (by simp)
       ·rw [if_neg c18] at H
        have c18b0 : decide (x20_1 < a0) = false := decide_eq_false c18
        clear c18
        simp only [Option.some.injEq, Prod.mk.injEq] at H
        obtain ⟨rfl, rfl, rfl, rfl⟩ := H
        have hnb27 := NB543_539.out
        have hnc27 := NB539_543.out
        have hcz28_0 : wr.cell? ⟨gb543, 0, none⟩ = some (.int .i64 a0) := (blk_cell BK543.out 0).trans rfl
        have hcz28_1 : wr.cell? ⟨gb543, 1, none⟩ = some (.int .i64 a0) := (blk_cell BK543.out 1).trans rfl
        have hcz28_2 : wr.cell? ⟨gb543, 2, none⟩ = some (u544002) := (blk_cell BK543.out 2).trans rfl
        have hfz28_0 := blk_frozen BK543.out 0
        have hfz28_1 := blk_frozen BK543.out 1
        have hfz28_2 := blk_frozen BK543.out 2
        have hcz29_0 : wr.cell? ⟨gb539, 0, none⟩ = some (.int .i64 0) := (blk_cell BK539.out 0).trans rfl
        have hcz29_1 : wr.cell? ⟨gb539, 1, none⟩ = some (.int .i64 0) := (blk_cell BK539.out 1).trans rfl
        have hcz29_2 : wr.cell? ⟨gb539, 2, none⟩ = some (.slice none 0 0) := (blk_cell BK539.out 2).trans rfl
        have hfz29_0 := blk_frozen BK539.out 0
        have hfz29_1 := blk_frozen BK539.out 1
        have hfz29_2 := blk_frozen BK539.out 2
        obtain ⟨Ao30, co30, eo30⟩ := Kd.R_slice HO_544002.out
        subst eo30
        go_wp2
        refine bodyPost_ret (results_ct rfl _ _ gb539 46 #[.int .i64 a0, .int .i64 a0, .slice Ao30 x544002_1.length co30] (0, 0) _ rfl (by (with_reducible repeat (first | apply bkN | apply bkD | apply bkA)); refine blk_put (cs := #[.int .i64 a0, .int .i64 a0, .slice none 0 0]) ?_ 2 _ rfl; (with_reducible repeat (first | apply bkN | apply bkD | apply bkA)); refine blk_put (cs := #[.int .i64 a0, .int .i64 0, .slice none 0 0]) ?_ 1 _ rfl; (with_reducible repeat (first | apply bkN | apply bkD | apply bkA)); refine blk_put (cs := #[.int .i64 0, .int .i64 0, .slice none 0 0]) ?_ 0 _ rfl; (with_reducible repeat (first | apply bkN | apply bkD | apply bkA)); exact BK539.out) Try.underlying46 rfl (by kernel_rfl)) rfl ?_
        exact ⟨_, by first | rfl | (simp [errW_none, errW_some] <;> rfl) | (simp only [← hji8]; first | rfl | (simp [errW_none, errW_some] <;> rfl)) | (simp [*, errW_none, errW_some] <;> rfl), by (with_reducible repeat (first | apply rwA | apply rwN | apply rwD)); exact Kd.R_mono (Kd.R_far (p := ⟨gb539, 2, none⟩) (Kd.R_far (p := ⟨gb539, 1, none⟩) (Kd.R_far (p := ⟨gb539, 0, none⟩) (Kd.R_types HO_544002.out BK539.out (by decide)) (fun _ hk => hk.2) (.int .i64 a0)) (fun _ hk => hk.2) (.int .i64 a0)) (fun _ hk => hk.2) (.slice Ao30 x544002_1.length co30)) (fun _ hk => trivial), by repeat (first | (with_reducible first | exact HB.out | apply bwA | apply bwN | apply bwD | refine below_set ?_ GE539.out | refine below_set ?_ GE543.out) | exact HB.out)⟩
    ·rw [if_neg c10] at H
     exact absurd H (by simp)
   ·rw [if_neg c9] at H
    exact absurd H (by simp)

end Go.Proofs.Ytefimleoffaggaa.GQ
