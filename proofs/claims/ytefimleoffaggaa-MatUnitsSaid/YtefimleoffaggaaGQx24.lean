-- written by this session's program gprint.py
import Derived.Test.YtefimleoffaggaaGQx0
import Derived.Test.YtefimleoffaggaaGQx5
import Derived.Test.YtefimleoffaggaaGQx18
import Derived.Test.YtefimleoffaggaaWApart
import Derived.Test.YtefimleoffaggaaWLast
import Derived.Test.YtefimleoffaggaaWMore
import Derived.Test.YtefimleoffaggaaWN
import Derived.Test.YtefimleoffaggaaWTab
import Derived.Test.YtefimleoffaggaaWWords
namespace Go.Proofs.Ytefimleoffaggaa.GQ
open Go.RowKit Go.Proofs.YtefimleoffaggaaW.PrintWords Go.Proofs.YtefimleoffaggaaW.PrintLast Go.Proofs.YtefimleoffaggaaW.PrintMore
attribute [local go_sem] max2_int min2_int max_two min_two max_three min_three max_four min_four   -- for this text's walks alone
set_option linter.unusedVariables false
set_option linter.unusedSimpArgs false
abbrev T51117_0 : Array Bool := #[false, false, false, false, false, false, false, false, false, false, false, false, false]
abbrev T51117_1 : Array Bool := #[true, false, false, false, false, false, false, false, false, false, false, false, false]
abbrev T51117_2 : Array Bool := #[true, false, false, true, false, false, false, false, false, false, false, false, false]
abbrev T51117_3 : Array Bool := #[true, false, false, true, false, false, true, false, false, false, false, false, false]
abbrev T51117_4 : Array Bool := #[true, true, false, true, false, false, true, false, false, false, false, false, false]
abbrev T51117_5 : Array Bool := #[true, true, true, true, false, false, true, false, false, false, false, false, false]
abbrev T51117_6 : Array Bool := #[true, true, true, true, false, true, true, false, false, false, false, false, false]
abbrev T51117_7 : Array Bool := #[true, true, true, true, true, true, true, false, false, false, false, false, false]
abbrev T51117_8 : Array Bool := #[true, true, true, true, true, true, true, true, false, false, false, false, false]
abbrev T51117_9 : Array Bool := #[true, true, true, true, true, true, true, true, true, false, false, false, false]
abbrev T51117_10 : Array Bool := #[true, true, true, true, true, true, true, true, true, true, false, false, false]
abbrev T51117_11 : Array Bool := #[true, true, true, true, true, true, true, true, true, true, true, false, false]
abbrev T51117_12 : Array Bool := #[true, true, true, true, true, true, true, true, true, true, true, true, false]
abbrev T51117_13 : Array Bool := #[true, true, true, true, true, true, true, true, true, true, true, true, true]

/-! ### tillerref04_Times: function 42 -/
mutual
def tillerref04_Times.l0 : Nat → Int → Int → Int → List Int → Int → Int → List Int → Int → Int → List Int → Option (Int × Int × List Int)
 | 0, _, _, _, _, _, _, _, _, _, _ => none
 | k + 1, x6, x546000, x546001, x546002, x547000, x547001, x547002, x549000, x549001, x549002 => if x6 < x546000 then (tillerref04_Times.l1 k x6 0 x546000 x546001 x546002 x547000 x547001 x547002 x549000 x549001 x549002) else (some (x549000, x549001, x549002))
def tillerref04_Times.l1 : Nat → Int → Int → Int → Int → List Int → Int → Int → List Int → Int → Int → List Int → Option (Int × Int × List Int)
 | 0, _, _, _, _, _, _, _, _, _, _, _ => none
 | k + 1, x6, x7, x546000, x546001, x546002, x547000, x547001, x547002, x549000, x549001, x549002 => if x7 < x547001 then ((tillerref04_Row.f k x546000 x546001 x546002 x6).bind fun t549 => ((tillerref04_Column.f k x547000 x547001 x547002 x7).bind fun t552 => ((tillerref03_Dot.f k t549 t552).bind fun t555 => (if x549002.length < 35184372088832 then (tillerref04_Times.l1 k x6 (wrap64 (x7 + 1)) x546000 x546001 x546002 x547000 x547001 x547002 x549000 x549001 (x549002 ++ [t555])) else (none))))) else (tillerref04_Times.l0 k (wrap64 (x6 + 1)) x546000 x546001 x546002 x547000 x547001 x547002 x549000 x549001 x549002)
end
def tillerref04_Times.f (k : Nat) (a0_0 : Int) (a0_1 : Int) (l0_2 : List Int) (a1_0 : Int) (a1_1 : Int) (l1_2 : List Int) : Option (Int × Int × List Int) := tillerref04_Times.l0 k 0 a0_0 a0_1 l0_2 a1_0 a1_1 l1_2 a0_0 a1_1 ([] : List Int)
theorem tillerref04_Times.mono_l : ∀ k, (∀ y0 y1 y2 y3 y4 y5 y6 y7 y8 y9, LeO (tillerref04_Times.l0 k y0 y1 y2 y3 y4 y5 y6 y7 y8 y9) (tillerref04_Times.l0 (k + 1) y0 y1 y2 y3 y4 y5 y6 y7 y8 y9)) ∧ (∀ y0 y1 y2 y3 y4 y5 y6 y7 y8 y9 y10, LeO (tillerref04_Times.l1 k y0 y1 y2 y3 y4 y5 y6 y7 y8 y9 y10) (tillerref04_Times.l1 (k + 1) y0 y1 y2 y3 y4 y5 y6 y7 y8 y9 y10))
 | 0 => ⟨fun _ _ _ _ _ _ _ _ _ _ r h => by simp [tillerref04_Times.l0] at h, fun _ _ _ _ _ _ _ _ _ _ _ r h => by simp [tillerref04_Times.l1] at h⟩
 | k + 1 => by
  obtain ⟨ih0, ih1⟩ := tillerref04_Times.mono_l k
  refine ⟨?_, ?_⟩
  ·intro y0 y1 y2 y3 y4 y5 y6 y7 y8 y9
   unfold tillerref04_Times.l0
   repeat' first
   | (with_reducible exact ih0 _ _ _ _ _ _ _ _ _ _)
   | (with_reducible exact ih1 _ _ _ _ _ _ _ _ _ _ _)
   | (with_reducible exact tillerref03_Dot.mono _ _ _)
   | (with_reducible exact tillerref04_Column.mono _ _ _ _ _)
   | (with_reducible exact tillerref04_Row.mono _ _ _ _ _)
   | (with_reducible exact LeO.refl _)
   | (with_reducible exact LeO.none _)
   | (with_reducible refine LeO.ite ?_ ?_)
   | (with_reducible refine LeO.bind ?_ (fun _ => ?_))
   | exact ih0 _ _ _ _ _ _ _ _ _ _
   | exact ih1 _ _ _ _ _ _ _ _ _ _ _
   | exact tillerref03_Dot.mono _ _ _
   | exact tillerref04_Column.mono _ _ _ _ _
   | exact tillerref04_Row.mono _ _ _ _ _
   | exact LeO.none _
   | refine LeO.ite ?_ ?_
   | refine LeO.bind ?_ (fun _ => ?_)
  ·intro y0 y1 y2 y3 y4 y5 y6 y7 y8 y9 y10
   unfold tillerref04_Times.l1
   repeat' first
   | (with_reducible exact ih0 _ _ _ _ _ _ _ _ _ _)
   | (with_reducible exact ih1 _ _ _ _ _ _ _ _ _ _ _)
   | (with_reducible exact tillerref03_Dot.mono _ _ _)
   | (with_reducible exact tillerref04_Column.mono _ _ _ _ _)
   | (with_reducible exact tillerref04_Row.mono _ _ _ _ _)
   | (with_reducible exact LeO.refl _)
   | (with_reducible exact LeO.none _)
   | (with_reducible refine LeO.ite ?_ ?_)
   | (with_reducible refine LeO.bind ?_ (fun _ => ?_))
   | exact ih0 _ _ _ _ _ _ _ _ _ _
   | exact ih1 _ _ _ _ _ _ _ _ _ _ _
   | exact tillerref03_Dot.mono _ _ _
   | exact tillerref04_Column.mono _ _ _ _ _
   | exact tillerref04_Row.mono _ _ _ _ _
   | exact LeO.none _
   | refine LeO.ite ?_ ?_
   | refine LeO.bind ?_ (fun _ => ?_)
theorem tillerref04_Times.mono : ∀ a0 a1 a2 a3 a4 a5 k, LeO (tillerref04_Times.f k a0 a1 a2 a3 a4 a5) (tillerref04_Times.f (k + 1) a0 a1 a2 a3 a4 a5) := by
 intro a0 a1 a2 a3 a4 a5 k
 obtain ⟨ih0, ih1⟩ := tillerref04_Times.mono_l k
 unfold tillerref04_Times.f
 repeat' first
   | (with_reducible exact ih0 _ _ _ _ _ _ _ _ _ _)
   | (with_reducible exact ih1 _ _ _ _ _ _ _ _ _ _ _)
   | (with_reducible exact tillerref03_Dot.mono _ _ _)
   | (with_reducible exact tillerref04_Column.mono _ _ _ _ _)
   | (with_reducible exact tillerref04_Row.mono _ _ _ _ _)
   | (with_reducible exact LeO.refl _)
   | (with_reducible exact LeO.none _)
   | (with_reducible refine LeO.ite ?_ ?_)
   | (with_reducible refine LeO.bind ?_ (fun _ => ?_))
   | exact ih0 _ _ _ _ _ _ _ _ _ _
   | exact ih1 _ _ _ _ _ _ _ _ _ _ _
   | exact tillerref03_Dot.mono _ _ _
   | exact tillerref04_Column.mono _ _ _ _ _
   | exact tillerref04_Row.mono _ _ _ _ _
   | exact LeO.none _
   | refine LeO.ite ?_ ?_
   | refine LeO.bind ?_ (fun _ => ?_)
def tillerref04_Times.T8 : Bool × List (List Nat × List Nat) := (true, [([], []), ([0], [0]), ([], []), ([], []), ([2, 3], [2, 3]), ([], []), ([], []), ([5, 6, 4], [5, 6]), ([4, 7, 7], [4, 7]), ([8], [8]), ([1, 9, 8], [1, 9]), ([0, 1, 2, 3, 4, 5, 6, 7, 8, 9, 10], []), ([11, 10, 10, 0, 1, 2, 3, 4, 5, 6, 7, 8, 9, 10], [10, 11])])
def tillerref04_Times.B8 : List Nat := [0, 1, 0, 0, 12, 0, 0, 124, 252, 508, 1023, 2047, 4095]
theorem tillerref04_Times.tab8 : rtab .any (opsOf Try.f42 8) = tillerref04_Times.T8 := by kernel_rfl
theorem tillerref04_Times.bits8 : waitsOk tillerref04_Times.T8.2 tillerref04_Times.B8 = true := by kernel_rfl
set_option maxHeartbeats 8000000 in
set_option maxRecDepth 100000 in
theorem tillerref04_Times.calls (k : Nat) (a0_0 : Int) (a0_1 : Int) (A0_2 : Option Addr) (c0_2 : Nat) (l0_2 : List Int) (a1_0 : Int) (a1_1 : Int) (A1_2 : Option Addr) (c1_2 : Nat) (l1_2 : List Int) (r1 : Int) (r2 : Int) (r3 : List Int) (w : World) (hr0_2 : Kd.C (Kd.int .i32) w A0_2 l0_2.length l0_2) (hc0_2 : l0_2.length ≤ c0_2) (hr1_2 : Kd.C (Kd.int .i32) w A1_2 l1_2.length l1_2) (hc1_2 : l1_2.length ≤ c1_2) (h : tillerref04_Times.f k a0_0 a0_1 l0_2 a1_0 a1_1 l1_2 = some (r1, r2, r3)) :
  Calls Try.prog 42 #[.agg #[.int .i64 a0_0, .int .i64 a0_1, .slice A0_2 l0_2.length c0_2], .agg #[.int .i64 a1_0, .int .i64 a1_1, .slice A1_2 l1_2.length c1_2]] w fun e w' => ∃ v2_ : Value, e = .returned (.agg #[.int .i64 r1, .int .i64 r2, v2_]) ∧ Kd.R (Kd.int .i32) 24 w' w.heap.size (fun _ => True) v2_ r3 ∧ Below w.heap.size w w' := by
 have hu46 := Try.underlying46
 have HR0_2 := Aside0.mk hr0_2
 have HC0_2 := Aside0.mk hc0_2
 clear hr0_2 hc0_2
 have HR1_2 := Aside0.mk hr1_2
 have HC1_2 := Aside0.mk hc1_2
 clear hr1_2 hc1_2
 have HB := Aside0.mk (Below.refl w.heap.size w)
 have H : (tillerref04_Times.l0 k 0 a0_0 a0_1 l0_2 a1_0 a1_1 l1_2 a0_0 a1_1 ([] : List Int)) = some (r1, r2, r3) := h
 clear h
 have H' := Aside0.mk H
 clear H
 go_enter Try.func42, Try.ntmps42
 go_wp2_with (first | ((with_reducible refine gate_dst (N := 2) rfl ?_); refine box_event ?hg (N := 2) ?hd (cs := #[.int .i64 a0_0, .int .i64 a0_1, .slice A0_2 l0_2.length c0_2]) (t := 46) ?hr ?_; (case hd => rfl); (case hg => rfl); (case hr => first | (go_simp; done) | (go_simp; rfl)); intro gb545 hg w3 hbox hb; have n0_ := Aside0.mk (below_step (by repeat (first | (with_reducible first | exact HB.out | apply bwA | apply bwN | apply bwD) | exact HB.out)) hb); have n1_ := Aside0.mk (hbox); have n2_ := Aside0.mk ((by rw [hg]; exact (below_size (by repeat (first | (with_reducible first | exact HB.out | apply bwA | apply bwN | apply bwD) | exact HB.out))) : w.heap.size ≤ gb545)); have n3_ := Aside0.mk ((by rw [hg]; exact (below_size (by repeat (first | (with_reducible first | exact HB.out | apply bwA | apply bwN | apply bwD) | exact HB.out))) : w.heap.size ≤ gb545)); clear HB; have HB := n0_; have BK545 := n1_; have GW545 := n2_; have GE545 := n3_; clear n0_ n1_ n2_ n3_; clear hb hbox hg) | ((with_reducible refine gate_dst (N := 3) rfl ?_); refine box_event ?hg (N := 3) ?hd (cs := #[.int .i64 a1_0, .int .i64 a1_1, .slice A1_2 l1_2.length c1_2]) (t := 46) ?hr ?_; (case hd => rfl); (case hg => rfl); (case hr => first | (go_simp; done) | (go_simp; rfl)); intro gb546 hg w4 hbox hb; have n0_ := Aside0.mk (blk_below (g := gb545) (o := .cells #[.int .i64 a0_0, .int .i64 a0_1, .slice A0_2 l0_2.length c0_2] 46 (0, 0)) (by (with_reducible repeat (first | apply bkN | apply bkD | apply bkA)); exact BK545.out) hb); have n1_ := Aside0.mk (below_step (by repeat (first | (with_reducible first | exact HB.out | apply bwA | apply bwN | apply bwD | refine below_set ?_ GE545.out) | exact HB.out)) hb); have n2_ := Aside0.mk (hbox); have n3_ := Aside0.mk ((by rw [hg]; exact (below_size (by repeat (first | (with_reducible first | exact HB.out | apply bwA | apply bwN | apply bwD | refine below_set ?_ GE545.out) | exact HB.out))) : w.heap.size ≤ gb546)); have n4_ := Aside0.mk ((by rw [hg]; exact (below_size (by repeat (first | (with_reducible first | exact HB.out | apply bwA | apply bwN | apply bwD | refine below_set ?_ GE545.out) | exact HB.out))) : w.heap.size ≤ gb546)); have n5_ := Aside0.mk ((by rw [hg]; exact Nat.ne_of_lt (blk_lt (g := gb545) (o := .cells #[.int .i64 a0_0, .int .i64 a0_1, .slice A0_2 l0_2.length c0_2] 46 (0, 0)) (by (with_reducible repeat (first | apply bkN | apply bkD | apply bkA)); exact BK545.out)) : gb545 ≠ gb546)); have n6_ := Aside0.mk ((by rw [hg]; exact Nat.ne_of_gt (blk_lt (g := gb545) (o := .cells #[.int .i64 a0_0, .int .i64 a0_1, .slice A0_2 l0_2.length c0_2] 46 (0, 0)) (by (with_reducible repeat (first | apply bkN | apply bkD | apply bkA)); exact BK545.out)) : gb546 ≠ gb545)); clear BK545; clear HB; have BK545 := n0_; have HB := n1_; have BK546 := n2_; have GW546 := n3_; have GE546 := n4_; have NB545_546 := n5_; have NB546_545 := n6_; clear n0_ n1_ n2_ n3_ n4_ n5_ n6_; clear hb hbox hg) | ((with_reducible refine gate_dst (N := 4) rfl ?_); refine box_event ?hg (N := 4) ?hd (cs := #[.int .i64 0, .int .i64 0, .slice none 0 0]) (t := 46) ?hr ?_; (case hd => rfl); (case hg => rfl); (case hr => first | (go_simp; done) | (go_simp; rfl)); intro gb547 hg w5 hbox hb; have n0_ := Aside0.mk (blk_below (g := gb545) (o := .cells #[.int .i64 a0_0, .int .i64 a0_1, .slice A0_2 l0_2.length c0_2] 46 (0, 0)) (by (with_reducible repeat (first | apply bkN | apply bkD | apply bkA)); exact BK545.out) hb); have n1_ := Aside0.mk (blk_below (g := gb546) (o := .cells #[.int .i64 a1_0, .int .i64 a1_1, .slice A1_2 l1_2.length c1_2] 46 (0, 0)) (by (with_reducible repeat (first | apply bkN | apply bkD | apply bkA)); exact BK546.out) hb); have n2_ := Aside0.mk (below_step (by repeat (first | (with_reducible first | exact HB.out | apply bwA | apply bwN | apply bwD | refine below_set ?_ GE545.out | refine below_set ?_ GE546.out) | exact HB.out)) hb); have n3_ := Aside0.mk (hbox); have n4_ := Aside0.mk ((by rw [hg]; exact (below_size (by repeat (first | (with_reducible first | exact HB.out | apply bwA | apply bwN | apply bwD | refine below_set ?_ GE545.out | refine below_set ?_ GE546.out) | exact HB.out))) : w.heap.size ≤ gb547)); have n5_ := Aside0.mk ((by rw [hg]; exact (below_size (by repeat (first | (with_reducible first | exact HB.out | apply bwA | apply bwN | apply bwD | refine below_set ?_ GE545.out | refine below_set ?_ GE546.out) | exact HB.out))) : w.heap.size ≤ gb547)); have n6_ := Aside0.mk ((by rw [hg]; exact Nat.ne_of_lt (blk_lt (g := gb545) (o := .cells #[.int .i64 a0_0, .int .i64 a0_1, .slice A0_2 l0_2.length c0_2] 46 (0, 0)) (by (with_reducible repeat (first | apply bkN | apply bkD | apply bkA)); exact BK545.out)) : gb545 ≠ gb547)); have n7_ := Aside0.mk ((by rw [hg]; exact Nat.ne_of_gt (blk_lt (g := gb545) (o := .cells #[.int .i64 a0_0, .int .i64 a0_1, .slice A0_2 l0_2.length c0_2] 46 (0, 0)) (by (with_reducible repeat (first | apply bkN | apply bkD | apply bkA)); exact BK545.out)) : gb547 ≠ gb545)); have n8_ := Aside0.mk ((by rw [hg]; exact Nat.ne_of_lt (blk_lt (g := gb546) (o := .cells #[.int .i64 a1_0, .int .i64 a1_1, .slice A1_2 l1_2.length c1_2] 46 (0, 0)) (by (with_reducible repeat (first | apply bkN | apply bkD | apply bkA)); exact BK546.out)) : gb546 ≠ gb547)); have n9_ := Aside0.mk ((by rw [hg]; exact Nat.ne_of_gt (blk_lt (g := gb546) (o := .cells #[.int .i64 a1_0, .int .i64 a1_1, .slice A1_2 l1_2.length c1_2] 46 (0, 0)) (by (with_reducible repeat (first | apply bkN | apply bkD | apply bkA)); exact BK546.out)) : gb547 ≠ gb546)); clear BK545; clear BK546; clear HB; have BK545 := n0_; have BK546 := n1_; have HB := n2_; have BK547 := n3_; have GW547 := n4_; have GE547 := n5_; have NB545_547 := n6_; have NB547_545 := n7_; have NB546_547 := n8_; have NB547_546 := n9_; clear n0_ n1_ n2_ n3_ n4_ n5_ n6_ n7_ n8_ n9_; clear hb hbox hg; have hnb6 := NB545_546.out; have hnc6 := NB546_545.out; have hnb7 := NB545_547.out; have hnc7 := NB547_545.out; have hcz8_0 : w5.cell? ⟨gb545, 0, none⟩ = some (.int .i64 a0_0) := (blk_cell BK545.out 0).trans rfl; have hcz8_1 : w5.cell? ⟨gb545, 1, none⟩ = some (.int .i64 a0_1) := (blk_cell BK545.out 1).trans rfl; have hcz8_2 : w5.cell? ⟨gb545, 2, none⟩ = some (.slice A0_2 l0_2.length c0_2) := (blk_cell BK545.out 2).trans rfl; have hfz8_0 := blk_frozen BK545.out 0; have hfz8_1 := blk_frozen BK545.out 1; have hfz8_2 := blk_frozen BK545.out 2; have hnb9 := NB546_547.out; have hnc9 := NB547_546.out; have hcz10_0 : w5.cell? ⟨gb546, 0, none⟩ = some (.int .i64 a1_0) := (blk_cell BK546.out 0).trans rfl; have hcz10_1 : w5.cell? ⟨gb546, 1, none⟩ = some (.int .i64 a1_1) := (blk_cell BK546.out 1).trans rfl; have hcz10_2 : w5.cell? ⟨gb546, 2, none⟩ = some (.slice A1_2 l1_2.length c1_2) := (blk_cell BK546.out 2).trans rfl; have hfz10_0 := blk_frozen BK546.out 0; have hfz10_1 := blk_frozen BK546.out 1; have hfz10_2 := blk_frozen BK546.out 2) | ((with_reducible refine gate_dst (N := 5) rfl ?_); refine box_event ?hg (N := 5) ?hd (cs := #[.int .i64 0, .int .i64 0, .slice none 0 0]) (t := 46) ?hr ?_; (case hd => rfl); (case hg => rfl); (case hr => first | (go_simp; done) | (go_simp; rfl)); intro gb548 hg w11 hbox hb; have n0_ := Aside0.mk (blk_below (g := gb545) (o := .cells #[.int .i64 a0_0, .int .i64 a0_1, .slice A0_2 l0_2.length c0_2] 46 (0, 0)) (by (with_reducible repeat (first | apply bkN | apply bkD | apply bkA)); exact BK545.out) hb); have n1_ := Aside0.mk (blk_below (g := gb546) (o := .cells #[.int .i64 a1_0, .int .i64 a1_1, .slice A1_2 l1_2.length c1_2] 46 (0, 0)) (by (with_reducible repeat (first | apply bkN | apply bkD | apply bkA)); exact BK546.out) hb); have n2_ := Aside0.mk (blk_below (g := gb547) (o := .cells #[.int .i64 0, .int .i64 0, .slice none 0 0] 46 (0, 0)) (by (with_reducible repeat (first | apply bkN | apply bkD | apply bkA)); exact BK547.out) hb); have n3_ := Aside0.mk (below_step (by repeat (first | (with_reducible first | exact HB.out | apply bwA | apply bwN | apply bwD | refine below_set ?_ GE545.out | refine below_set ?_ GE546.out | refine below_set ?_ GE547.out) | exact HB.out)) hb); have n4_ := Aside0.mk (hbox); have n5_ := Aside0.mk ((by rw [hg]; exact (below_size (by repeat (first | (with_reducible first | exact HB.out | apply bwA | apply bwN | apply bwD | refine below_set ?_ GE545.out | refine below_set ?_ GE546.out | refine below_set ?_ GE547.out) | exact HB.out))) : w.heap.size ≤ gb548)); have n6_ := Aside0.mk ((by rw [hg]; exact (below_size (by repeat (first | (with_reducible first | exact HB.out | apply bwA | apply bwN | apply bwD | refine below_set ?_ GE545.out | refine below_set ?_ GE546.out | refine below_set ?_ GE547.out) | exact HB.out))) : w.heap.size ≤ gb548)); have n7_ := Aside0.mk ((by rw [hg]; exact Nat.ne_of_lt (blk_lt (g := gb545) (o := .cells #[.int .i64 a0_0, .int .i64 a0_1, .slice A0_2 l0_2.length c0_2] 46 (0, 0)) (by (with_reducible repeat (first | apply bkN | apply bkD | apply bkA)); exact BK545.out)) : gb545 ≠ gb548)); have n8_ := Aside0.mk ((by rw [hg]; exact Nat.ne_of_gt (blk_lt (g := gb545) (o := .cells #[.int .i64 a0_0, .int .i64 a0_1, .slice A0_2 l0_2.length c0_2] 46 (0, 0)) (by (with_reducible repeat (first | apply bkN | apply bkD | apply bkA)); exact BK545.out)) : gb548 ≠ gb545)); have n9_ := Aside0.mk ((by rw [hg]; exact Nat.ne_of_lt (blk_lt (g := gb546) (o := .cells #[.int .i64 a1_0, .int .i64 a1_1, .slice A1_2 l1_2.length c1_2] 46 (0, 0)) (by (with_reducible repeat (first | apply bkN | apply bkD | apply bkA)); exact BK546.out)) : gb546 ≠ gb548)); have n10_ := Aside0.mk ((by rw [hg]; exact Nat.ne_of_gt (blk_lt (g := gb546) (o := .cells #[.int .i64 a1_0, .int .i64 a1_1, .slice A1_2 l1_2.length c1_2] 46 (0, 0)) (by (with_reducible repeat (first | apply bkN | apply bkD | apply bkA)); exact BK546.out)) : gb548 ≠ gb546)); have n11_ := Aside0.mk ((by rw [hg]; exact Nat.ne_of_lt (blk_lt (g := gb547) (o := .cells #[.int .i64 0, .int .i64 0, .slice none 0 0] 46 (0, 0)) (by (with_reducible repeat (first | apply bkN | apply bkD | apply bkA)); exact BK547.out)) : gb547 ≠ gb548)); have n12_ := Aside0.mk ((by rw [hg]; exact Nat.ne_of_gt (blk_lt (g := gb547) (o := .cells #[.int .i64 0, .int .i64 0, .slice none 0 0] 46 (0, 0)) (by (with_reducible repeat (first | apply bkN | apply bkD | apply bkA)); exact BK547.out)) : gb548 ≠ gb547)); clear BK545; clear BK546; clear BK547; clear HB; have BK545 := n0_; have BK546 := n1_; have BK547 := n2_; have HB := n3_; have BK548 := n4_; have GW548 := n5_; have GE548 := n6_; have NB545_548 := n7_; have NB548_545 := n8_; have NB546_548 := n9_; have NB548_546 := n10_; have NB547_548 := n11_; have NB548_547 := n12_; clear n0_ n1_ n2_ n3_ n4_ n5_ n6_ n7_ n8_ n9_ n10_ n11_ n12_; clear hb hbox hg; have hnb12 := NB548_545.out; have hnc12 := NB545_548.out; have hnb13 := NB548_546.out; have hnc13 := NB546_548.out; have hnb14 := NB548_547.out; have hnc14 := NB547_548.out; have hcz15_0 : w11.cell? ⟨gb548, 0, none⟩ = some (.int .i64 0) := (blk_cell BK548.out 0).trans rfl; have hcz15_1 : w11.cell? ⟨gb548, 1, none⟩ = some (.int .i64 0) := (blk_cell BK548.out 1).trans rfl; have hcz15_2 : w11.cell? ⟨gb548, 2, none⟩ = some (.slice none 0 0) := (blk_cell BK548.out 2).trans rfl; have hfz15_0 := blk_frozen BK548.out 0; have hfz15_1 := blk_frozen BK548.out 1; have hfz15_2 := blk_frozen BK548.out 2))
 go_loopg [6] k (fun kq v6 w' => ∃ (x6_1 : Int) (x549002_1 : List Int) (u549002 : Value), v6 = .int .i64 x6_1 ∧ Aside0 (tillerref04_Times.l0 kq x6_1 a0_0 a0_1 l0_2 a1_0 a1_1 l1_2 a0_0 a1_1 x549002_1 = some (r1, r2, r3)) ∧ Aside0 (kq ≤ k) ∧ Aside0 (Kd.R (Kd.int .i32) 24 w' w.heap.size (fun _ => True) u549002 x549002_1) ∧ Aside0 (w'.heap[gb545]? = some (.cells #[.int .i64 a0_0, .int .i64 a0_1, (.slice A0_2 l0_2.length c0_2)] 46 (0, 0))) ∧ Aside0 (w'.heap[gb546]? = some (.cells #[.int .i64 a1_0, .int .i64 a1_1, (.slice A1_2 l1_2.length c1_2)] 46 (0, 0))) ∧ Aside0 (w'.heap[gb547]? = some (.cells #[.int .i64 0, .int .i64 0, (.slice none 0 0)] 46 (0, 0))) ∧ Aside0 (w'.heap[gb548]? = some (.cells #[.int .i64 a0_0, .int .i64 a1_1, u549002] 46 (0, 0))) ∧ Aside0 (Below w.heap.size w w'))
 case atStart => exact ⟨(0), (([] : List Int)), (.slice none 0 0), (by first | rfl | (simp; done) | (simp [*]; done)), H', ⟨Nat.le_refl _⟩, ⟨by first | exact Kd.R_nil _ _ _ _ _ | exact Kd.N_nil _ _ _ _ _ | exact Kd.V_nil _ _ _ _ _ | exact Kd.Q_nil _ _ _ _ _ | exact Kd.S_nil _ _ _ _ _⟩, ⟨by (with_reducible repeat (first | apply bkN | apply bkD | apply bkA)); refine blk_far ?_ NB545_548.out _; (with_reducible repeat (first | apply bkN | apply bkD | apply bkA)); refine blk_far ?_ NB545_548.out _; (with_reducible repeat (first | apply bkN | apply bkD | apply bkA)); refine blk_far ?_ NB545_548.out _; (with_reducible repeat (first | apply bkN | apply bkD | apply bkA)); exact BK545.out⟩, ⟨by (with_reducible repeat (first | apply bkN | apply bkD | apply bkA)); refine blk_far ?_ NB546_548.out _; (with_reducible repeat (first | apply bkN | apply bkD | apply bkA)); refine blk_far ?_ NB546_548.out _; (with_reducible repeat (first | apply bkN | apply bkD | apply bkA)); refine blk_far ?_ NB546_548.out _; (with_reducible repeat (first | apply bkN | apply bkD | apply bkA)); exact BK546.out⟩, ⟨by (with_reducible repeat (first | apply bkN | apply bkD | apply bkA)); refine blk_far ?_ NB547_548.out _; (with_reducible repeat (first | apply bkN | apply bkD | apply bkA)); refine blk_far ?_ NB547_548.out _; (with_reducible repeat (first | apply bkN | apply bkD | apply bkA)); refine blk_far ?_ NB547_548.out _; (with_reducible repeat (first | apply bkN | apply bkD | apply bkA)); exact BK547.out⟩, ⟨by (with_reducible repeat (first | apply bkN | apply bkD | apply bkA)); refine blk_put (cs := #[.int .i64 a0_0, .int .i64 a1_1, .slice none 0 0]) ?_ 2 _ rfl; (with_reducible repeat (first | apply bkN | apply bkD | apply bkA)); refine blk_put (cs := #[.int .i64 a0_0, .int .i64 0, .slice none 0 0]) ?_ 1 _ rfl; (with_reducible repeat (first | apply bkN | apply bkD | apply bkA)); refine blk_put (cs := #[.int .i64 0, .int .i64 0, .slice none 0 0]) ?_ 0 _ rfl; (with_reducible repeat (first | apply bkN | apply bkD | apply bkA)); exact BK548.out⟩, ⟨by repeat (first | (with_reducible first | exact HB.out | apply bwA | apply bwN | apply bwD | refine below_set ?_ GE545.out | refine below_set ?_ GE546.out | refine below_set ?_ GE547.out | refine below_set ?_ GE548.out) | exact HB.out)⟩⟩
 case round =>
  clear H'
  try clear c1
  try clear p2
  try clear c4
  try clear c6
  try clear c7
  try clear c9
  try clear c12
  try clear c13
  try clear c14
  try clear hcz10_0
  try clear hcz10_1
  try clear hcz10_2
  try clear hcz15_0
  try clear hcz15_1
  try clear hcz15_2
  try clear hcz8_0
  try clear hcz8_1
  try clear hcz8_2
  try clear hfz10_0
  try clear hfz10_1
  try clear hfz10_2
  try clear hfz15_0
  try clear hfz15_1
  try clear hfz15_2
  try clear hfz8_0
  try clear hfz8_1
  try clear hfz8_2
  obtain ⟨x6_1, x549002_1, u549002, rfl, HA, HK1, HO_549002, BK545, BK546, BK547, BK548, HB⟩ := hrel
  cases gk with
  | zero => exact absurd HA.out (by simp [tillerref04_Times.l0])
  | succ k1 =>
   have H := HA.out
   clear HA
   simp only [tillerref04_Times.l0] at H
   by_cases c16 : x6_1 < a0_0
   ·rw [if_pos c16] at H
    have c16b0 : decide (x6_1 < a0_0) = true := decide_eq_true c16
    clear c16
    have H' := Aside0.mk H
    clear H
    have hnb17 := NB545_546.out
    have hnc17 := NB546_545.out
    have hnb18 := NB545_547.out
    have hnc18 := NB547_545.out
    have hnb19 := NB545_548.out
    have hnc19 := NB548_545.out
    have hcz20_0 : wr.cell? ⟨gb545, 0, none⟩ = some (.int .i64 a0_0) := (blk_cell BK545.out 0).trans rfl
    have hcz20_1 : wr.cell? ⟨gb545, 1, none⟩ = some (.int .i64 a0_1) := (blk_cell BK545.out 1).trans rfl
    have hcz20_2 : wr.cell? ⟨gb545, 2, none⟩ = some (.slice A0_2 l0_2.length c0_2) := (blk_cell BK545.out 2).trans rfl
    have hfz20_0 := blk_frozen BK545.out 0
    have hfz20_1 := blk_frozen BK545.out 1
    have hfz20_2 := blk_frozen BK545.out 2
    go_wp2
    go_loopg [7] k1 (fun kq v7 w' => ∃ (x7_2 : Int) (x549002_2 : List Int) (u549002 : Value), v7 = .int .i64 x7_2 ∧ Aside0 (tillerref04_Times.l1 kq x6_1 x7_2 a0_0 a0_1 l0_2 a1_0 a1_1 l1_2 a0_0 a1_1 x549002_2 = some (r1, r2, r3)) ∧ Aside0 (kq ≤ k1) ∧ Aside0 (Kd.R (Kd.int .i32) 24 w' w.heap.size (fun _ => True) u549002 x549002_2) ∧ Aside0 (w'.heap[gb545]? = some (.cells #[.int .i64 a0_0, .int .i64 a0_1, (.slice A0_2 l0_2.length c0_2)] 46 (0, 0))) ∧ Aside0 (w'.heap[gb546]? = some (.cells #[.int .i64 a1_0, .int .i64 a1_1, (.slice A1_2 l1_2.length c1_2)] 46 (0, 0))) ∧ Aside0 (w'.heap[gb547]? = some (.cells #[.int .i64 0, .int .i64 0, (.slice none 0 0)] 46 (0, 0))) ∧ Aside0 (w'.heap[gb548]? = some (.cells #[.int .i64 a0_0, .int .i64 a1_1, u549002] 46 (0, 0))) ∧ Aside0 (Below w.heap.size w w'))
    case atStart => exact ⟨(0), (x549002_1), (u549002), (by first | rfl | (simp; done) | (simp [*]; done)), H', ⟨Nat.le_refl _⟩, ⟨by (with_reducible repeat (first | apply rwA | apply rwN | apply rwD)); exact HO_549002.out⟩, ⟨by (with_reducible repeat (first | apply bkN | apply bkD | apply bkA)); exact BK545.out⟩, ⟨by (with_reducible repeat (first | apply bkN | apply bkD | apply bkA)); exact BK546.out⟩, ⟨by (with_reducible repeat (first | apply bkN | apply bkD | apply bkA)); exact BK547.out⟩, ⟨by (with_reducible repeat (first | apply bkN | apply bkD | apply bkA)); exact BK548.out⟩, ⟨by repeat (first | (with_reducible first | exact HB.out | apply bwA | apply bwN | apply bwD | refine below_set ?_ GE545.out | refine below_set ?_ GE546.out | refine below_set ?_ GE547.out | refine below_set ?_ GE548.out) | exact HB.out)⟩⟩
    case round =>
     clear H'
     try clear c1
     try clear p2
     try clear c4
     try clear c6
     try clear c7
     try clear c9
     try clear c12
     try clear c13
     try clear c14
     try clear c16
     try clear c16b0
     try clear c17
     try clear c18
     try clear c19
     try clear hcz10_0
     try clear hcz10_1
     try clear hcz10_2
     try clear hcz15_0
     try clear hcz15_1
     try clear hcz15_2
     try clear hcz20_0
     try clear hcz20_1
     try clear hcz20_2
     try clear hcz8_0
     try clear hcz8_1
     try clear hcz8_2
     try clear hfz10_0
     try clear hfz10_1
     try clear hfz10_2
     try clear hfz15_0
     try clear hfz15_1
     try clear hfz15_2
     try clear hfz20_0
     try clear hfz20_1
     try clear hfz20_2
     try clear hfz8_0
     try clear hfz8_1
     try clear hfz8_2
     try clear p2
     obtain ⟨x7_2, x549002_2, u549002, rfl, HA, HK2, HO_549002, BK545, BK546, BK547, BK548, HB⟩ := hrel
     cases gk with
     | zero => exact absurd HA.out (by simp [tillerref04_Times.l1])
     | succ k2 =>
      have H := HA.out
      clear HA
      simp only [tillerref04_Times.l1] at H
      by_cases c21 : x7_2 < a1_1
      ·rw [if_pos c21] at H
       have c21b0 : decide (x7_2 < a1_1) = true := decide_eq_true c21
       clear c21
       replace H := Option.bind_eq_some_iff.mp H
       obtain ⟨t549, A220, H⟩ := H
       replace H : ((tillerref04_Column.f k2 a1_0 a1_1 l1_2 x7_2).bind fun t552 => ((tillerref03_Dot.f k2 t549 t552).bind fun t555 => (if x549002_2.length < 35184372088832 then (tillerref04_Times.l1 k2 x6_1 (wrap64 (x7_2 + 1)) a0_0 a0_1 l0_2 a1_0 a1_1 l1_2 a0_0 a1_1 (x549002_2 ++ [t555])) else (none)))) = some (r1, r2, r3) := H
       have A22 := Aside0.mk A220
       clear A220
       replace H := Option.bind_eq_some_iff.mp H
       obtain ⟨t552, A230, H⟩ := H
       replace H : ((tillerref03_Dot.f k2 t549 t552).bind fun t555 => (if x549002_2.length < 35184372088832 then (tillerref04_Times.l1 k2 x6_1 (wrap64 (x7_2 + 1)) a0_0 a0_1 l0_2 a1_0 a1_1 l1_2 a0_0 a1_1 (x549002_2 ++ [t555])) else (none))) = some (r1, r2, r3) := H
       have A23 := Aside0.mk A230
       clear A230
       replace H := Option.bind_eq_some_iff.mp H
       obtain ⟨t555, A240, H⟩ := H
       replace H : (if x549002_2.length < 35184372088832 then (tillerref04_Times.l1 k2 x6_1 (wrap64 (x7_2 + 1)) a0_0 a0_1 l0_2 a1_0 a1_1 l1_2 a0_0 a1_1 (x549002_2 ++ [t555])) else (none)) = some (r1, r2, r3) := H
       have A24 := Aside0.mk A240
       clear A240
       by_cases c25 : x549002_2.length < 35184372088832
       ·rw [if_pos c25] at H
        have LMc25 := Aside0.mk c25
        clear c25
        obtain ⟨y556, hy556⟩ : ∃ y_ : List Int, y_ = (x549002_2 ++ [t555]) := ⟨_, rfl⟩
        replace H : (tillerref04_Times.l1 k2 x6_1 (wrap64 (x7_2 + 1)) a0_0 a0_1 l0_2 a1_0 a1_1 l1_2 a0_0 a1_1 y556) = some (r1, r2, r3) := by first | (rw [hy556]; with_reducible exact H) | (have H2_ := (Option.bind_some _ _).symm.trans H; rw [hy556]; with_reducible exact H2_) | (have H2_ := (Option.bind_some _ _).symm.trans H; with_reducible exact H2_) | with_reducible exact H | (rw [hy556]; exact H) | exact H
        have Ny556 := Aside0.mk hy556
        clear hy556
        have H' := Aside0.mk H
        clear H
        have hnb26 := NB546_545.out
        have hnc26 := NB545_546.out
        have hnb27 := NB546_547.out
        have hnc27 := NB547_546.out
        have hnb28 := NB546_548.out
        have hnc28 := NB548_546.out
        have hcz29_0 : wr.cell? ⟨gb546, 0, none⟩ = some (.int .i64 a1_0) := (blk_cell BK546.out 0).trans rfl
        have hcz29_1 : wr.cell? ⟨gb546, 1, none⟩ = some (.int .i64 a1_1) := (blk_cell BK546.out 1).trans rfl
        have hcz29_2 : wr.cell? ⟨gb546, 2, none⟩ = some (.slice A1_2 l1_2.length c1_2) := (blk_cell BK546.out 2).trans rfl
        have hfz29_0 := blk_frozen BK546.out 0
        have hfz29_1 := blk_frozen BK546.out 1
        have hfz29_2 := blk_frozen BK546.out 2
        try go_wp2
        have n0_ := Aside0.mk (Kd.R_drew HO_549002.out)
        have n1_ := Aside0.mk (blk_drew BK545.out)
        have n2_ := Aside0.mk (blk_drew BK546.out)
        have n3_ := Aside0.mk (blk_drew BK547.out)
        have n4_ := Aside0.mk (blk_drew BK548.out)
        have n5_ := Aside0.mk (below_drew1 HB.out)
        clear HO_549002
        clear BK545
        clear BK546
        clear BK547
        clear BK548
        clear HB
        have HO_549002 := n0_
        have BK545 := n1_
        have BK546 := n2_
        have BK547 := n3_
        have BK548 := n4_
        have HB := n5_
        clear n0_ n1_ n2_ n3_ n4_ n5_
        refine start_ (n := 13) (S := fun w' => w'.cell? ⟨gb548, 0, none⟩ = some (.int .i64 a0_0) ∧ w'.cell? ⟨gb548, 1, none⟩ = some (.int .i64 a1_1) ∧ w'.cell? ⟨gb548, 2, none⟩ = some (u549002) ∧ w'.cell? ⟨gb545, 0, none⟩ = some (.int .i64 a0_0) ∧ w'.cell? ⟨gb545, 1, none⟩ = some (.int .i64 a0_1) ∧ w'.cell? ⟨gb545, 2, none⟩ = some (.slice A0_2 l0_2.length c0_2) ∧ w'.cell? ⟨gb546, 0, none⟩ = some (.int .i64 a1_0) ∧ w'.cell? ⟨gb546, 1, none⟩ = some (.int .i64 a1_1) ∧ w'.cell? ⟨gb546, 2, none⟩ = some (.slice A1_2 l1_2.length c1_2)) (ds := [12]) T51117_0 (by kernel_rfl) rfl rfl ⟨(blk_cell BK548.out 0).trans rfl, (blk_cell BK548.out 1).trans rfl, (blk_cell BK548.out 2).trans rfl, (blk_cell BK545.out 0).trans rfl, (blk_cell BK545.out 1).trans rfl, (blk_cell BK545.out 2).trans rfl, (blk_cell BK546.out 0).trans rfl, (blk_cell BK546.out 1).trans rfl, (blk_cell BK546.out 2).trans rfl⟩ (fun hHeld => ?_); refine with_tabW tillerref04_Times.tab8 tillerref04_Times.bits8 (fun HT_ HW_ => ?_)
        generalize wr.drew = w30 at HO_549002 BK545 BK546 BK547 BK548 HB hHeld ⊢
        refine pure_ (i := 0) (N := some 25) (v := ?_) (a' := ?_) T51117_1 rfl rfl (any_of HT_.out (by kernel_rfl)) idq (.inl ⟨by rfl, ?_⟩) ?_ ?_
        rotate_left; ·intro w'; go_simp; with_reducible rfl
        rotate_left; ·simp only [Act.put, sqA, sqB, sqC, i64_w, i32_w]; rfl
        refine pure_ (i := 3) (N := some 28) (v := ?_) (a' := ?_) T51117_2 rfl rfl (any_of HT_.out (by kernel_rfl)) idq (.inl ⟨by rfl, ?_⟩) ?_ ?_
        rotate_left; ·intro w'; go_simp; with_reducible rfl
        rotate_left; ·simp only [Act.put, sqA, sqB, sqC, i64_w, i32_w]; rfl
        refine pure_ (i := 6) (N := some 31) (v := ?_) (a' := ?_) T51117_3 rfl rfl (any_of HT_.out (by kernel_rfl)) idq (.inl ⟨by rfl, ?_⟩) ?_ ?_
        rotate_left; ·intro w'; go_simp; with_reducible rfl
        rotate_left; ·simp only [Act.put, sqA, sqB, sqC, i64_w, i32_w]; rfl
        refine take_ (i := 1) (N := some 26) (v := ?_) (a' := ?_) T51117_4 rfl rfl (take_ofW HT_.out HW_.out (by kernel_rfl)) idq (.inl ⟨by rfl, ?_⟩) hHeld ?_ ?_
        rotate_left
        ·rintro w' ⟨s0, s1, s2, s3, s4, s5, s6, s7, s8⟩
         go_simp
         with_reducible rfl
        rotate_left; ·simp only [Act.put, sqA, sqB, sqC, i64_w, i32_w]; rfl
        refine take_ (i := 2) (N := some 27) (v := ?_) (a' := ?_) T51117_5 rfl rfl (take_ofW HT_.out HW_.out (by kernel_rfl)) idq (.inl ⟨by rfl, ?_⟩) hHeld ?_ ?_
        rotate_left
        ·rintro w' ⟨s0, s1, s2, s3, s4, s5, s6, s7, s8⟩
         go_simp
         with_reducible rfl
        rotate_left; ·simp only [Act.put, sqA, sqB, sqC, i64_w, i32_w]; rfl
        refine take_ (i := 5) (N := some 30) (v := ?_) (a' := ?_) T51117_6 rfl rfl (take_ofW HT_.out HW_.out (by kernel_rfl)) idq (.inl ⟨by rfl, ?_⟩) hHeld ?_ ?_
        rotate_left
        ·rintro w' ⟨s0, s1, s2, s3, s4, s5, s6, s7, s8⟩
         go_simp
         with_reducible rfl
        rotate_left; ·simp only [Act.put, sqA, sqB, sqC, i64_w, i32_w]; rfl
        refine one_ (i := 4) (N := some 29) T51117_7 rfl rfl (one_of HT_.out (by kernel_rfl)) (by decide) (fun K hK => ?_)
        refine goes_ Try.func37 (by kernel_rfl) rfl #[.agg #[.int .i64 a0_0, .int .i64 a0_1, .slice A0_2 l0_2.length c0_2], .int .i64 x6_1] (by rfl) rfl rfl (by (try simp only [List.map_toArray, List.map_cons, List.map_nil]); first | done | rfl | (simp only [List.length_drop, List.length_take]; rfl)) ?_
        with_reducible refine (tillerref04_Row.calls k2 a0_0 a0_1 _ _ l0_2 x6_1 t549 _ ?side1 ?side2 A22.out).mono ?_
        (case side1 => repeat (first | exact (Kd.C_below HR0_2.out HB.out) | (with_reducible refine Kd.C_alloc ?_ _) | (with_reducible refine Kd.C_drewN ?_ _) | (with_reducible refine Kd.C_drew ?_)))
        (case side2 => exact HC0_2.out)
        rintro e w31 ⟨v550, rfl, ho0, hb⟩
        refine ⟨_, rfl, ?_⟩
        have n0_ := Aside0.mk (Kd.R_elder' (by (with_reducible repeat (first | apply rwA | apply rwN | apply rwD)); exact HO_549002.out) (Kd.R_base ho0) hb)
        have n1_ := Aside0.mk (Kd.R_lower (Kd.R_new' ho0 (Kd.R_lt (by (with_reducible repeat (first | apply rwA | apply rwN | apply rwD)); exact HO_549002.out))) (below_size (by repeat (first | (with_reducible first | exact HB.out | apply bwA | apply bwN | apply bwD | refine below_set ?_ GE545.out | refine below_set ?_ GE546.out | refine below_set ?_ GE547.out | refine below_set ?_ GE548.out) | exact HB.out))))
        have n2_ := Aside0.mk (blk_below (g := gb545) (o := .cells #[.int .i64 a0_0, .int .i64 a0_1, .slice A0_2 l0_2.length c0_2] 46 (0, 0)) (by (with_reducible repeat (first | apply bkN | apply bkD | apply bkA)); exact BK545.out) hb)
        have n3_ := Aside0.mk (blk_below (g := gb546) (o := .cells #[.int .i64 a1_0, .int .i64 a1_1, .slice A1_2 l1_2.length c1_2] 46 (0, 0)) (by (with_reducible repeat (first | apply bkN | apply bkD | apply bkA)); exact BK546.out) hb)
        have n4_ := Aside0.mk (blk_below (g := gb547) (o := .cells #[.int .i64 0, .int .i64 0, .slice none 0 0] 46 (0, 0)) (by (with_reducible repeat (first | apply bkN | apply bkD | apply bkA)); exact BK547.out) hb)
        have n5_ := Aside0.mk (blk_below (g := gb548) (o := .cells #[.int .i64 a0_0, .int .i64 a1_1, u549002] 46 (0, 0)) (by (with_reducible repeat (first | apply bkN | apply bkD | apply bkA)); exact BK548.out) hb)
        have n6_ := Aside0.mk (below_step (by repeat (first | (with_reducible first | exact HB.out | apply bwA | apply bwN | apply bwD | refine below_set ?_ GE545.out | refine below_set ?_ GE546.out | refine below_set ?_ GE547.out | refine below_set ?_ GE548.out) | exact HB.out)) hb)
        clear HO_549002
        clear BK545
        clear BK546
        clear BK547
        clear BK548
        clear HB
        have HO_549002 := n0_
        have HO551 := n1_
        have BK545 := n2_
        have BK546 := n3_
        have BK547 := n4_
        have BK548 := n5_
        have HB := n6_
        clear n0_ n1_ n2_ n3_ n4_ n5_ n6_
        (try clear hb)
        (try clear hb2)
        (try clear hk)
        (try clear hi)
        (try clear ho0)
        refine hK.out _ _ ⟨(blk_cell BK548.out 0).trans rfl, (blk_cell BK548.out 1).trans rfl, (blk_cell BK548.out 2).trans rfl, (blk_cell BK545.out 0).trans rfl, (blk_cell BK545.out 1).trans rfl, (blk_cell BK545.out 2).trans rfl, (blk_cell BK546.out 0).trans rfl, (blk_cell BK546.out 1).trans rfl, (blk_cell BK546.out 2).trans rfl⟩ (fun hHeld => ?_)
        clear hK K
        refine norm_ (a' := ?_) ?_ ?_
        rotate_left
        ·show Act.put _ (some 29) _ = _
         simp only [Act.put, sqA, sqB, sqC, i64_w, i32_w]
         rfl
        refine one_ (i := 7) (N := some 32) T51117_8 rfl rfl (one_of HT_.out (by kernel_rfl)) (by decide) (fun K hK => ?_)
        refine goes_ Try.func39 (by kernel_rfl) rfl #[.agg #[.int .i64 a1_0, .int .i64 a1_1, .slice A1_2 l1_2.length c1_2], .int .i64 x7_2] (by rfl) rfl rfl (by (try simp only [List.map_toArray, List.map_cons, List.map_nil]); first | done | rfl | (simp only [List.length_drop, List.length_take]; rfl)) ?_
        with_reducible refine (tillerref04_Column.calls k2 a1_0 a1_1 _ _ l1_2 x7_2 t552 _ ?side1 ?side2 A23.out).mono ?_
        (case side1 => repeat (first | exact (Kd.C_below HR1_2.out HB.out) | (with_reducible refine Kd.C_alloc ?_ _) | (with_reducible refine Kd.C_drewN ?_ _) | (with_reducible refine Kd.C_drew ?_)))
        (case side2 => exact HC1_2.out)
        rintro e w32 ⟨v553, rfl, ho0, hb⟩
        refine ⟨_, rfl, ?_⟩
        have n0_ := Aside0.mk (Kd.R_elder' (by (with_reducible repeat (first | apply rwA | apply rwN | apply rwD)); exact HO_549002.out) (Kd.R_base ho0) hb)
        have n1_ := Aside0.mk (Kd.R_elder' (by (with_reducible repeat (first | apply rwA | apply rwN | apply rwD)); exact HO551.out) (Kd.R_base ho0) hb)
        have n2_ := Aside0.mk (Kd.R_lower (Kd.R_new' (Kd.R_new' ho0 (Kd.R_lt (by (with_reducible repeat (first | apply rwA | apply rwN | apply rwD)); exact HO_549002.out))) (Kd.R_lt (by (with_reducible repeat (first | apply rwA | apply rwN | apply rwD)); exact HO551.out))) (below_size (by repeat (first | (with_reducible first | exact HB.out | apply bwA | apply bwN | apply bwD | refine below_set ?_ GE545.out | refine below_set ?_ GE546.out | refine below_set ?_ GE547.out | refine below_set ?_ GE548.out) | exact HB.out))))
        have n3_ := Aside0.mk (blk_below (g := gb545) (o := .cells #[.int .i64 a0_0, .int .i64 a0_1, .slice A0_2 l0_2.length c0_2] 46 (0, 0)) (by (with_reducible repeat (first | apply bkN | apply bkD | apply bkA)); exact BK545.out) hb)
        have n4_ := Aside0.mk (blk_below (g := gb546) (o := .cells #[.int .i64 a1_0, .int .i64 a1_1, .slice A1_2 l1_2.length c1_2] 46 (0, 0)) (by (with_reducible repeat (first | apply bkN | apply bkD | apply bkA)); exact BK546.out) hb)
        have n5_ := Aside0.mk (blk_below (g := gb547) (o := .cells #[.int .i64 0, .int .i64 0, .slice none 0 0] 46 (0, 0)) (by (with_reducible repeat (first | apply bkN | apply bkD | apply bkA)); exact BK547.out) hb)
        have n6_ := Aside0.mk (blk_below (g := gb548) (o := .cells #[.int .i64 a0_0, .int .i64 a1_1, u549002] 46 (0, 0)) (by (with_reducible repeat (first | apply bkN | apply bkD | apply bkA)); exact BK548.out) hb)
        have n7_ := Aside0.mk (below_step (by repeat (first | (with_reducible first | exact HB.out | apply bwA | apply bwN | apply bwD | refine below_set ?_ GE545.out | refine below_set ?_ GE546.out | refine below_set ?_ GE547.out | refine below_set ?_ GE548.out) | exact HB.out)) hb)
        clear HO_549002
        clear HO551
        clear BK545
        clear BK546
        clear BK547
        clear BK548
        clear HB
        have HO_549002 := n0_
        have HO551 := n1_
        have HO554 := n2_
        have BK545 := n3_
        have BK546 := n4_
        have BK547 := n5_
        have BK548 := n6_
        have HB := n7_
        clear n0_ n1_ n2_ n3_ n4_ n5_ n6_ n7_
        (try clear hb)
        (try clear hb2)
        (try clear hk)
        (try clear hi)
        (try clear ho0)
        obtain ⟨Ao33, co33, eo33⟩ := Kd.R_slice HO551.out
        (first | subst eo33 | (injection eo33 with f1_ f2_ f3_; have f4_ := f1_.symm; have f5_ := f3_.symm; clear f1_ f2_ f3_; subst f4_; subst f5_))
        obtain ⟨Ao34, co34, eo34⟩ := Kd.R_slice HO554.out
        (first | subst eo34 | (injection eo34 with f1_ f2_ f3_; have f4_ := f1_.symm; have f5_ := f3_.symm; clear f1_ f2_ f3_; subst f4_; subst f5_))
        refine hK.out _ _ ⟨(blk_cell BK548.out 0).trans rfl, (blk_cell BK548.out 1).trans rfl, (blk_cell BK548.out 2).trans rfl, (blk_cell BK545.out 0).trans rfl, (blk_cell BK545.out 1).trans rfl, (blk_cell BK545.out 2).trans rfl, (blk_cell BK546.out 0).trans rfl, (blk_cell BK546.out 1).trans rfl, (blk_cell BK546.out 2).trans rfl⟩ (fun hHeld => ?_)
        clear hK K
        refine norm_ (a' := ?_) ?_ ?_
        rotate_left
        ·show Act.put _ (some 32) _ = _
         simp only [Act.put, sqA, sqB, sqC, i64_w, i32_w]
         rfl
        refine one_ (i := 8) (N := some 33) T51117_9 rfl rfl (one_of HT_.out (by kernel_rfl)) (by decide) (fun K hK => ?_)
        refine goes_ Try.func19 (by kernel_rfl) rfl #[.slice Ao33 t549.length co33, .slice Ao34 t552.length co34] (by rfl) rfl rfl (by (try simp only [List.map_toArray, List.map_cons, List.map_nil]); first | done | rfl | (simp only [List.length_drop, List.length_take]; rfl)) ?_
        with_reducible refine (tillerref03_Dot.calls k2 _ _ t549 _ _ t552 t555 _ ?side1 ?side2 ?side3 ?side4 A24.out).mono ?_
        (case side1 => repeat (first | exact (Kd.R_reads' HO551.out).2.2 | (with_reducible refine Kd.C_alloc ?_ _) | (with_reducible refine Kd.C_drewN ?_ _) | (with_reducible refine Kd.C_drew ?_)))
        (case side2 => exact (Kd.R_reads' HO551.out).2.1)
        (case side3 => repeat (first | exact (Kd.R_reads' HO554.out).2.2 | (with_reducible refine Kd.C_alloc ?_ _) | (with_reducible refine Kd.C_drewN ?_ _) | (with_reducible refine Kd.C_drew ?_)))
        (case side4 => exact (Kd.R_reads' HO554.out).2.1)
        rintro e w' ⟨rfl, ⟨nd, rfl⟩⟩
        refine ⟨_, rfl, ?_⟩
        refine hK.out _ _ ⟨(blk_cell BK548.out 0).trans rfl, (blk_cell BK548.out 1).trans rfl, (blk_cell BK548.out 2).trans rfl, (blk_cell BK545.out 0).trans rfl, (blk_cell BK545.out 1).trans rfl, (blk_cell BK545.out 2).trans rfl, (blk_cell BK546.out 0).trans rfl, (blk_cell BK546.out 1).trans rfl, (blk_cell BK546.out 2).trans rfl⟩ (fun hHeld => ?_)
        clear hK K
        refine norm_ (a' := ?_) ?_ ?_
        rotate_left
        ·show Act.put _ (some 33) _ = _
         simp only [Act.put, sqA, sqB, sqC, i64_w, i32_w]
         rfl
        refine one_ (i := 9) (N := some 34) T51117_10 rfl rfl (one_of HT_.out (by kernel_rfl)) (by decide) (fun K hK => ?_)
        refine value_ (w1 := ?_) (v := ?_) (by rfl) rfl ?_ ?_
        rotate_left 2
        ·go_simp
         constructor
         ·rfl
         ·rfl
        refine hK.out _ _ ⟨(blk_cell (blk_alloc BK548.out _) 0).trans rfl, (blk_cell (blk_alloc BK548.out _) 1).trans rfl, (blk_cell (blk_alloc BK548.out _) 2).trans rfl, (blk_cell (blk_alloc BK545.out _) 0).trans rfl, (blk_cell (blk_alloc BK545.out _) 1).trans rfl, (blk_cell (blk_alloc BK545.out _) 2).trans rfl, (blk_cell (blk_alloc BK546.out _) 0).trans rfl, (blk_cell (blk_alloc BK546.out _) 1).trans rfl, (blk_cell (blk_alloc BK546.out _) 2).trans rfl⟩ (fun hHeld => ?_)
        clear hK K
        refine norm_ (a' := ?_) ?_ ?_
        rotate_left
        ·show Act.put _ (some 34) _ = _
         simp only [Act.put, sqA, sqB, sqC, i64_w, i32_w]
         rfl
        refine one_ (i := 10) (N := some 35) T51117_11 rfl rfl (one_of HT_.out (by kernel_rfl)) (by decide) (fun K hK => ?_)
        refine Kd.R_append_step (Kd.int .i32) (w0 := w) w.heap.size (by rfl) (.tmp 26) (.tmp 34) 22 24 (.int .i32 0) 4 rfl Try.underlying22 info24 rfl (by decide) (by omega) u549002 x549002_2 t555 [.int .i32 t555] (fun k_ => some k_ ≠ (.slice Ao33 t549.length co33 : Value).ownBlock ∧ some k_ ≠ (.slice Ao34 t552.length co34 : Value).ownBlock) (fun _ => False) rfl rfl ?aP (fun _ hk => hk.elim) ?aF ?aO ?aB ?aS ?aL ?_
        (case aP => exact rfl)
        (case aB => exact (by repeat (first | (with_reducible first | exact HB.out | apply bwA | apply bwN | apply bwD | refine below_set ?_ GE545.out | refine below_set ?_ GE546.out | refine below_set ?_ GE547.out | refine below_set ?_ GE548.out) | exact HB.out)))
        (case aF => exact (fun k_ hk => ⟨Kd.fresh' (Kd.R_lt (by (with_reducible repeat (first | apply rwA | apply rwN | apply rwD)); exact HO551.out)) k_ hk, Kd.fresh' (Kd.R_lt (by (with_reducible repeat (first | apply rwA | apply rwN | apply rwD)); exact HO554.out)) k_ hk⟩))
        (case aO => exact (by (with_reducible repeat (first | apply rwA | apply rwN | apply rwD)); exact Kd.R_mono HO_549002.out (fun _ hk => ⟨hk.1.2, hk.2⟩)))
        (case aS => exact (below_size (by repeat (first | (with_reducible first | exact HB.out | apply bwA | apply bwN | apply bwD | refine below_set ?_ GE545.out | refine below_set ?_ GE546.out | refine below_set ?_ GE547.out | refine below_set ?_ GE548.out) | exact HB.out))))
        (case aL => have := LMc25.out; omega)
        intro v557 w35 ho hb hg hat
        rw [← Ny556.out] at ho
        have n0_ := Aside0.mk (blk_grown (g := gb545) (o := .cells #[.int .i64 a0_0, .int .i64 a0_1, .slice A0_2 l0_2.length c0_2] 46 (0, 0)) (by (with_reducible repeat (first | apply bkN | apply bkD | apply bkA)); exact BK545.out) hg (Kd.R_ne HO_549002.out BK545.out (by decide)))
        have n1_ := Aside0.mk (blk_grown (g := gb546) (o := .cells #[.int .i64 a1_0, .int .i64 a1_1, .slice A1_2 l1_2.length c1_2] 46 (0, 0)) (by (with_reducible repeat (first | apply bkN | apply bkD | apply bkA)); exact BK546.out) hg (Kd.R_ne HO_549002.out BK546.out (by decide)))
        have n2_ := Aside0.mk (blk_grown (g := gb547) (o := .cells #[.int .i64 0, .int .i64 0, .slice none 0 0] 46 (0, 0)) (by (with_reducible repeat (first | apply bkN | apply bkD | apply bkA)); exact BK547.out) hg (Kd.R_ne HO_549002.out BK547.out (by decide)))
        have n3_ := Aside0.mk (blk_grown (g := gb548) (o := .cells #[.int .i64 a0_0, .int .i64 a1_1, u549002] 46 (0, 0)) (by (with_reducible repeat (first | apply bkN | apply bkD | apply bkA)); exact BK548.out) hg (Kd.R_ne HO_549002.out BK548.out (by decide)))
        have n4_ := Aside0.mk (Kd.R_after (ok := (fun k_ => some k_ ≠ (.slice Ao34 t552.length co34 : Value).ownBlock)) (by (with_reducible repeat (first | apply rwA | apply rwN | apply rwD)); exact Kd.R_mono HO551.out (fun _ hk => ⟨hk.2, hk.1.2⟩)) hg hat)
        have n5_ := Aside0.mk (Kd.R_after (ok := (fun k_ => some k_ ≠ (.slice Ao33 t549.length co33 : Value).ownBlock)) (by (with_reducible repeat (first | apply rwA | apply rwN | apply rwD)); exact Kd.R_mono HO554.out (fun _ hk => ⟨hk.2, hk.1.2⟩)) hg hat)
        have n6_ := Aside0.mk (hb)
        have n7_ := Aside0.mk (ho)
        clear BK545
        clear BK546
        clear BK547
        clear BK548
        clear HO551
        clear HO554
        clear HB
        clear HO_549002
        have BK545 := n0_
        have BK546 := n1_
        have BK547 := n2_
        have BK548 := n3_
        have HO551 := n4_
        have HO554 := n5_
        have HB := n6_
        have HO558 := n7_
        clear n0_ n1_ n2_ n3_ n4_ n5_ n6_ n7_
        clear ho hb hg hat
        obtain ⟨Ao36, co36, eo36⟩ := Kd.R_slice HO558.out
        (first | subst eo36 | (injection eo36 with f1_ f2_ f3_; have f4_ := f1_.symm; have f5_ := f3_.symm; clear f1_ f2_ f3_; subst f4_; subst f5_))
        refine hK.out _ _ ⟨(blk_cell BK548.out 0).trans rfl, (blk_cell BK548.out 1).trans rfl, (blk_cell BK548.out 2).trans rfl, (blk_cell BK545.out 0).trans rfl, (blk_cell BK545.out 1).trans rfl, (blk_cell BK545.out 2).trans rfl, (blk_cell BK546.out 0).trans rfl, (blk_cell BK546.out 1).trans rfl, (blk_cell BK546.out 2).trans rfl⟩ (fun hHeld => ?_)
        clear hK K
        refine norm_ (a' := ?_) ?_ ?_
        rotate_left
        ·show Act.put _ (some 35) _ = _
         simp only [Act.put, sqA, sqB, sqC, i64_w, i32_w]
         rfl
        refine pure_ (i := 11) (N := some 36) (v := ?_) (a' := ?_) T51117_12 rfl rfl (any_of HT_.out (by kernel_rfl)) idq (.inl ⟨by rfl, ?_⟩) ?_ ?_
        rotate_left; ·intro w'; go_simp; with_reducible rfl
        rotate_left; ·simp only [Act.put, sqA, sqB, sqC, i64_w, i32_w]; rfl
        refine last_ (i := 12) (N := none) T51117_13 rfl rfl (one_of HT_.out (by kernel_rfl)) (by decide) (fun K hK => ?_)
        have hs37 : w35.cell? ⟨gb548, 2, none⟩ = some (u549002) := (blk_cell BK548.out 2).trans rfl
        have hfs37 := blk_frozen BK548.out 2
        have hns37_0 := NB545_548.out
        have hns37_1 := NB546_548.out
        have hns37_2 := NB547_548.out
        have hms37_0 := NB548_545.out
        have hms37_1 := NB548_546.out
        have hms37_2 := NB548_547.out
        refine skip_ (w1 := ?_) (by rfl) rfl ?_ ?_
        rotate_left; ·go_simp; rfl
        refine hK.out _ _ ?_
        clear hK K
        refine done_ (done_of HT_.out (by kernel_rfl)) ?_
        try go_wp2
        go_roundg k2
        case measure => have := HK1.out; have := HK2.out; omega
        case rel => exact ⟨(wrap64 (x7_2 + 1)), (y556), (.slice Ao36 y556.length co36), (by first | rfl | (simp; done) | (simp [*]; done)), H', ⟨by have := HK1.out; have := HK2.out; omega⟩, ⟨by (with_reducible repeat (first | apply rwA | apply rwN | apply rwD)); exact Kd.R_mono (Kd.R_far (p := ⟨gb548, 2, none⟩) (Kd.R_types HO558.out BK548.out (by decide)) (fun _ hk => hk.2) (.slice Ao36 y556.length co36)) (fun _ hk => trivial)⟩, ⟨by (with_reducible repeat (first | apply bkN | apply bkD | apply bkA)); refine blk_far ?_ NB545_548.out _; (with_reducible repeat (first | apply bkN | apply bkD | apply bkA)); exact BK545.out⟩, ⟨by (with_reducible repeat (first | apply bkN | apply bkD | apply bkA)); refine blk_far ?_ NB546_548.out _; (with_reducible repeat (first | apply bkN | apply bkD | apply bkA)); exact BK546.out⟩, ⟨by (with_reducible repeat (first | apply bkN | apply bkD | apply bkA)); refine blk_far ?_ NB547_548.out _; (with_reducible repeat (first | apply bkN | apply bkD | apply bkA)); exact BK547.out⟩, ⟨by (with_reducible repeat (first | apply bkN | apply bkD | apply bkA)); refine blk_put (cs := #[.int .i64 a0_0, .int .i64 a1_1, u549002]) ?_ 2 _ rfl; (with_reducible repeat (first | apply bkN | apply bkD | apply bkA)); exact BK548.out⟩, ⟨by repeat (first | (with_reducible first | exact HB.out | apply bwA | apply bwN | apply bwD | refine below_set ?_ GE545.out | refine below_set ?_ GE546.out | refine below_set ?_ GE547.out | refine below_set ?_ GE548.out) | exact HB.out)⟩⟩
       ·rw [if_neg c25] at H
        exact absurd H (by simp)
      ·rw [if_neg c21] at H
       have c21b0 : decide (x7_2 < a1_1) = false := decide_eq_false c21
       clear c21
       have H' := Aside0.mk H
       clear H
       have hnb38 := NB546_545.out
       have hnc38 := NB545_546.out
       have hnb39 := NB546_547.out
       have hnc39 := NB547_546.out
       have hnb40 := NB546_548.out
       have hnc40 := NB548_546.out
       have hcz41_0 : wr.cell? ⟨gb546, 0, none⟩ = some (.int .i64 a1_0) := (blk_cell BK546.out 0).trans rfl
       have hcz41_1 : wr.cell? ⟨gb546, 1, none⟩ = some (.int .i64 a1_1) := (blk_cell BK546.out 1).trans rfl
       have hcz41_2 : wr.cell? ⟨gb546, 2, none⟩ = some (.slice A1_2 l1_2.length c1_2) := (blk_cell BK546.out 2).trans rfl
       have hfz41_0 := blk_frozen BK546.out 0
       have hfz41_1 := blk_frozen BK546.out 1
       have hfz41_2 := blk_frozen BK546.out 2
       go_wp2
       go_roundg k2
       case measure => have := HK1.out; have := HK2.out; omega
       case rel => exact ⟨(wrap64 (x6_1 + 1)), (x549002_2), (u549002), (by first | rfl | (simp; done) | (simp [*]; done)), H', ⟨by have := HK1.out; have := HK2.out; omega⟩, ⟨by (with_reducible repeat (first | apply rwA | apply rwN | apply rwD)); exact HO_549002.out⟩, ⟨by (with_reducible repeat (first | apply bkN | apply bkD | apply bkA)); exact BK545.out⟩, ⟨by (with_reducible repeat (first | apply bkN | apply bkD | apply bkA)); exact BK546.out⟩, ⟨by (with_reducible repeat (first | apply bkN | apply bkD | apply bkA)); exact BK547.out⟩, ⟨by (with_reducible repeat (first | apply bkN | apply bkD | apply bkA)); exact BK548.out⟩, ⟨by repeat (first | (with_reducible first | exact HB.out | apply bwA | apply bwN | apply bwD | refine below_set ?_ GE545.out | refine below_set ?_ GE546.out | refine below_set ?_ GE547.out | refine below_set ?_ GE548.out) | exact HB.out)⟩⟩
   ·rw [if_neg c16] at H
    have c16b0 : decide (x6_1 < a0_0) = false := decide_eq_false c16
    clear c16
    simp only [Option.some.injEq, Prod.mk.injEq] at H
    obtain ⟨rfl, rfl, rfl⟩ := H
    have hnb42 := NB545_546.out
    have hnc42 := NB546_545.out
    have hnb43 := NB545_547.out
    have hnc43 := NB547_545.out
    have hnb44 := NB545_548.out
    have hnc44 := NB548_545.out
    have hcz45_0 : wr.cell? ⟨gb545, 0, none⟩ = some (.int .i64 a0_0) := (blk_cell BK545.out 0).trans rfl
    have hcz45_1 : wr.cell? ⟨gb545, 1, none⟩ = some (.int .i64 a0_1) := (blk_cell BK545.out 1).trans rfl
    have hcz45_2 : wr.cell? ⟨gb545, 2, none⟩ = some (.slice A0_2 l0_2.length c0_2) := (blk_cell BK545.out 2).trans rfl
    have hfz45_0 := blk_frozen BK545.out 0
    have hfz45_1 := blk_frozen BK545.out 1
    have hfz45_2 := blk_frozen BK545.out 2
    have hnb46 := NB548_546.out
    have hnc46 := NB546_548.out
    have hnb47 := NB548_547.out
    have hnc47 := NB547_548.out
    have hcz48_0 : wr.cell? ⟨gb548, 0, none⟩ = some (.int .i64 a0_0) := (blk_cell BK548.out 0).trans rfl
    have hcz48_1 : wr.cell? ⟨gb548, 1, none⟩ = some (.int .i64 a1_1) := (blk_cell BK548.out 1).trans rfl
    have hcz48_2 : wr.cell? ⟨gb548, 2, none⟩ = some (u549002) := (blk_cell BK548.out 2).trans rfl
    have hfz48_0 := blk_frozen BK548.out 0
    have hfz48_1 := blk_frozen BK548.out 1
    have hfz48_2 := blk_frozen BK548.out 2
    have hnb49 := NB547_546.out
    have hnc49 := NB546_547.out
    have hcz50_0 : wr.cell? ⟨gb547, 0, none⟩ = some (.int .i64 0) := (blk_cell BK547.out 0).trans rfl
    have hcz50_1 : wr.cell? ⟨gb547, 1, none⟩ = some (.int .i64 0) := (blk_cell BK547.out 1).trans rfl
    have hcz50_2 : wr.cell? ⟨gb547, 2, none⟩ = some (.slice none 0 0) := (blk_cell BK547.out 2).trans rfl
    have hfz50_0 := blk_frozen BK547.out 0
    have hfz50_1 := blk_frozen BK547.out 1
    have hfz50_2 := blk_frozen BK547.out 2
    obtain ⟨Ao51, co51, eo51⟩ := Kd.R_slice HO_549002.out
    subst eo51
    go_wp2
    refine bodyPost_ret (results_cell_row rfl _ _ gb547 46 #[.int .i64 a0_0, .int .i64 a1_1, .slice Ao51 x549002_1.length co51] (0, 0) _ rfl (by (with_reducible repeat (first | apply bkN | apply bkD | apply bkA)); refine blk_put (cs := #[.int .i64 a0_0, .int .i64 a1_1, .slice none 0 0]) ?_ 2 _ rfl; (with_reducible repeat (first | apply bkN | apply bkD | apply bkA)); refine blk_put (cs := #[.int .i64 a0_0, .int .i64 0, .slice none 0 0]) ?_ 1 _ rfl; (with_reducible repeat (first | apply bkN | apply bkD | apply bkA)); refine blk_put (cs := #[.int .i64 0, .int .i64 0, .slice none 0 0]) ?_ 0 _ rfl; (with_reducible repeat (first | apply bkN | apply bkD | apply bkA)); exact BK547.out) Try.underlying46 rfl (by kernel_rfl)) rfl ?_
    exact ⟨_, by first | rfl | (simp [errW_none, errW_some] <;> rfl) | (simp [*, errW_none, errW_some] <;> rfl), by (with_reducible repeat (first | apply rwA | apply rwN | apply rwD)); exact Kd.R_mono (Kd.R_far (p := ⟨gb547, 2, none⟩) (Kd.R_far (p := ⟨gb547, 1, none⟩) (Kd.R_far (p := ⟨gb547, 0, none⟩) (Kd.R_types HO_549002.out BK547.out (by decide)) (fun _ hk => hk.2) (.int .i64 a0_0)) (fun _ hk => hk.2) (.int .i64 a1_1)) (fun _ hk => hk.2) (.slice Ao51 x549002_1.length co51)) (fun _ hk => trivial), by repeat (first | (with_reducible first | exact HB.out | apply bwA | apply bwN | apply bwD | refine below_set ?_ GE545.out | refine below_set ?_ GE546.out | refine below_set ?_ GE547.out | refine below_set ?_ GE548.out) | exact HB.out)⟩

end Go.Proofs.Ytefimleoffaggaa.GQ
