-- written by this session's program gprint.py
import Derived.Test.YtefimleoffaggaaGQx0
import Derived.Test.YtefimleoffaggaaGQx5
import Derived.Test.YtefimleoffaggaaGQx18
import Derived.Test.YtefimleoffaggaaWApart
import Derived.Test.YtefimleoffaggaaWLast
import Derived.Test.YtefimleoffaggaaWMore
import Derived.Test.YtefimleoffaggaaWN
import Derived.Test.YtefimleoffaggaaWTab
import Derived.Test.YtefimleoffaggaaWWords
namespace Go.Proofs.Ytefimleoffaggaa.GQ
open Go.RowKit Go.Proofs.YtefimleoffaggaaW.PrintWords Go.Proofs.YtefimleoffaggaaW.PrintLast Go.Proofs.YtefimleoffaggaaW.PrintMore
attribute [local go_sem] max2_int min2_int max_two min_two max_three min_three max_four min_four   -- for this text's walks alone
set_option linter.unusedVariables false
set_option linter.unusedSimpArgs false
abbrev T77836_0 : Array Bool := #[false, false, false, false, false, false, false, false, false, false, false, false, false]
abbrev T77836_1 : Array Bool := #[true, false, false, false, false, false, false, false, false, false, false, false, false]
abbrev T77836_2 : Array Bool := #[true, false, false, true, false, false, false, false, false, false, false, false, false]
abbrev T77836_3 : Array Bool := #[true, false, false, true, false, false, true, false, false, false, false, false, false]
abbrev T77836_4 : Array Bool := #[true, true, false, true, false, false, true, false, false, false, false, false, false]
abbrev T77836_5 : Array Bool := #[true, true, true, true, false, false, true, false, false, false, false, false, false]
abbrev T77836_6 : Array Bool := #[true, true, true, true, false, true, true, false, false, false, false, false, false]
abbrev T77836_7 : Array Bool := #[true, true, true, true, true, true, true, false, false, false, false, false, false]
abbrev T77836_8 : Array Bool := #[true, true, true, true, true, true, true, true, false, false, false, false, false]
abbrev T77836_9 : Array Bool := #[true, true, true, true, true, true, true, true, true, false, false, false, false]
abbrev T77836_10 : Array Bool := #[true, true, true, true, true, true, true, true, true, true, false, false, false]
abbrev T77836_11 : Array Bool := #[true, true, true, true, true, true, true, true, true, true, true, false, false]
abbrev T77836_12 : Array Bool := #[true, true, true, true, true, true, true, true, true, true, true, true, false]
abbrev T77836_13 : Array Bool := #[true, true, true, true, true, true, true, true, true, true, true, true, true]

/-! ### tillerref04_Times: function 42 -/
mutual
def tillerref04_Times.l0 : Nat → Int → Int → Int → List Int → Int → Int → List Int → Int → Int → List Int → Option (Int × Int × List Int)
 | 0, _, _, _, _, _, _, _, _, _, _ => none
 | k + 1, x6, x576000, x576001, x576002, x577000, x577001, x577002, x579000, x579001, x579002 => if x6 < x576000 then (tillerref04_Times.l1 k x6 0 x576000 x576001 x576002 x577000 x577001 x577002 x579000 x579001 x579002) else (some (x579000, x579001, x579002))
def tillerref04_Times.l1 : Nat → Int → Int → Int → Int → List Int → Int → Int → List Int → Int → Int → List Int → Option (Int × Int × List Int)
 | 0, _, _, _, _, _, _, _, _, _, _, _ => none
 | k + 1, x6, x7, x576000, x576001, x576002, x577000, x577001, x577002, x579000, x579001, x579002 => if x7 < x577001 then ((tillerref04_Row.f k x576000 x576001 x576002 x6).bind fun t579 => ((tillerref04_Column.f k x577000 x577001 x577002 x7).bind fun t582 => ((tillerref03_Dot.f k t579 t582).bind fun t585 => (if x579002.length < 35184372088832 then (tillerref04_Times.l1 k x6 (wrap64 (x7 + 1)) x576000 x576001 x576002 x577000 x577001 x577002 x579000 x579001 (x579002 ++ [t585])) else (none))))) else (tillerref04_Times.l0 k (wrap64 (x6 + 1)) x576000 x576001 x576002 x577000 x577001 x577002 x579000 x579001 x579002)
end
def tillerref04_Times.f (k : Nat) (a0_0 : Int) (a0_1 : Int) (l0_2 : List Int) (a1_0 : Int) (a1_1 : Int) (l1_2 : List Int) : Option (Int × Int × List Int) := tillerref04_Times.l0 k 0 a0_0 a0_1 l0_2 a1_0 a1_1 l1_2 a0_0 a1_1 ([] : List Int)
theorem tillerref04_Times.mono_l : ∀ k, (∀ y0 y1 y2 y3 y4 y5 y6 y7 y8 y9, LeO (tillerref04_Times.l0 k y0 y1 y2 y3 y4 y5 y6 y7 y8 y9) (tillerref04_Times.l0 (k + 1) y0 y1 y2 y3 y4 y5 y6 y7 y8 y9)) ∧ (∀ y0 y1 y2 y3 y4 y5 y6 y7 y8 y9 y10, LeO (tillerref04_Times.l1 k y0 y1 y2 y3 y4 y5 y6 y7 y8 y9 y10) (tillerref04_Times.l1 (k + 1) y0 y1 y2 y3 y4 y5 y6 y7 y8 y9 y10))
 | 0 => ⟨fun _ _ _ _ _ _ _ _ _ _ r h => by simp [tillerref04_Times.l0] at h, fun _ _ _ _ _ _ _ _ _ _ _ r h => by simp [tillerref04_Times.l1] at h⟩
 | k + 1 => by
  obtain ⟨ih0, ih1⟩ := tillerref04_Times.mono_l k
  refine ⟨?_, ?_⟩
  ·intro y0 y1 y2 y3 y4 y5 y6 y7 y8 y9
   unfold tillerref04_Times.l0
   repeat' first
   | (with_reducible exact ih0 _ _ _ _ _ _ _ _ _ _)
   | (with_reducible exact ih1 _ _ _ _ _ _ _ _ _ _ _)
   | (with_reducible exact tillerref03_Dot.mono _ _ _)
   | (with_reducible exact tillerref04_Column.mono _ _ _ _ _)
   | (with_reducible exact tillerref04_Row.mono _ _ _ _ _)
   | (with_reducible exact LeO.refl _)
   | (with_reducible exact LeO.none _)
   | (with_reducible refine LeO.ite ?_ ?_)
   | (with_reducible refine LeO.bind ?_ (fun _ => ?_))
   | exact ih0 _ _ _ _ _ _ _ _ _ _
   | exact ih1 _ _ _ _ _ _ _ _ _ _ _
   | exact tillerref03_Dot.mono _ _ _
   | exact tillerref04_Column.mono _ _ _ _ _
   | exact tillerref04_Row.mono _ _ _ _ _
   | exact LeO.none _
   | refine LeO.ite ?_ ?_
   | refine LeO.bind ?_ (fun _ => ?_)
  ·intro y0 y1 y2 y3 y4 y5 y6 y7 y8 y9 y10
   unfold tillerref04_Times.l1
   repeat' first
   | (with_reducible exact ih0 _ _ _ _ _ _ _ _ _ _)
   | (with_reducible exact ih1 _ _ _ _ _ _ _ _ _ _ _)
   | (with_reducible exact tillerref03_Dot.mono _ _ _)
   | (with_reducible exact tillerref04_Column.mono _ _ _ _ _)
   | (with_reducible exact tillerref04_Row.mono _ _ _ _ _)
   | (with_reducible exact LeO.refl _)
   | (with_reducible exact LeO.none _)
   | (with_reducible refine LeO.ite ?_ ?_)
   | (with_reducible refine LeO.bind ?_ (fun _ => ?_))
   | exact ih0 _ _ _ _ _ _ _ _ _ _
   | exact ih1 _ _ _ _ _ _ _ _ _ _ _
   | exact tillerref03_Dot.mono _ _ _
   | exact tillerref04_Column.mono _ _ _ _ _
   | exact tillerref04_Row.mono _ _ _ _ _
   | exact LeO.none _
   | refine LeO.ite ?_ ?_
   | refine LeO.bind ?_ (fun _ => ?_)
theorem tillerref04_Times.mono : ∀ a0 a1 a2 a3 a4 a5 k, LeO (tillerref04_Times.f k a0 a1 a2 a3 a4 a5) (tillerref04_Times.f (k + 1) a0 a1 a2 a3 a4 a5) := by
 intro a0 a1 a2 a3 a4 a5 k
 obtain ⟨ih0, ih1⟩ := tillerref04_Times.mono_l k
 unfold tillerref04_Times.f
 repeat' first
   | (with_reducible exact ih0 _ _ _ _ _ _ _ _ _ _)
   | (with_reducible exact ih1 _ _ _ _ _ _ _ _ _ _ _)
   | (with_reducible exact tillerref03_Dot.mono _ _ _)
   | (with_reducible exact tillerref04_Column.mono _ _ _ _ _)
   | (with_reducible exact tillerref04_Row.mono _ _ _ _ _)
   | (with_reducible exact LeO.refl _)
   | (with_reducible exact LeO.none _)
   | (with_reducible refine LeO.ite ?_ ?_)
   | (with_reducible refine LeO.bind ?_ (fun _ => ?_))
   | exact ih0 _ _ _ _ _ _ _ _ _ _
   | exact ih1 _ _ _ _ _ _ _ _ _ _ _
   | exact tillerref03_Dot.mono _ _ _
   | exact tillerref04_Column.mono _ _ _ _ _
   | exact tillerref04_Row.mono _ _ _ _ _
   | exact LeO.none _
   | refine LeO.ite ?_ ?_
   | refine LeO.bind ?_ (fun _ => ?_)
def tillerref04_Times.T8 : Bool × List (List Nat × List Nat) := (true, [([], []), ([0], [0]), ([], []), ([], []), ([2, 3], [2, 3]), ([], []), ([], []), ([5, 6, 4], [5, 6]), ([4, 7, 7], [4, 7]), ([8], [8]), ([1, 9, 8], [1, 9]), ([0, 1, 2, 3, 4, 5, 6, 7, 8, 9, 10], []), ([11, 10, 10, 0, 1, 2, 3, 4, 5, 6, 7, 8, 9, 10], [10, 11])])
def tillerref04_Times.B8 : List Nat := [0, 1, 0, 0, 12, 0, 0, 124, 252, 508, 1023, 2047, 4095]
theorem tillerref04_Times.tab8 : rtab .any (opsOf Try.f42 8) = tillerref04_Times.T8 := by kernel_rfl
theorem tillerref04_Times.bits8 : waitsOk tillerref04_Times.T8.2 tillerref04_Times.B8 = true := by kernel_rfl
set_option maxHeartbeats 8000000 in
set_option maxRecDepth 100000 in
theorem tillerref04_Times.calls (k : Nat) (a0_0 : Int) (a0_1 : Int) (A0_2 : Option Addr) (c0_2 : Nat) (l0_2 : List Int) (a1_0 : Int) (a1_1 : Int) (A1_2 : Option Addr) (c1_2 : Nat) (l1_2 : List Int) (r1 : Int) (r2 : Int) (r3 : List Int) (w : World) (hr0_2 : Kd.C (Kd.int .i32) w A0_2 l0_2.length l0_2) (hc0_2 : l0_2.length ≤ c0_2) (hr1_2 : Kd.C (Kd.int .i32) w A1_2 l1_2.length l1_2) (hc1_2 : l1_2.length ≤ c1_2) (h : tillerref04_Times.f k a0_0 a0_1 l0_2 a1_0 a1_1 l1_2 = some (r1, r2, r3)) :
  Calls Try.prog 42 #[.agg #[.int .i64 a0_0, .int .i64 a0_1, .slice A0_2 l0_2.length c0_2], .agg #[.int .i64 a1_0, .int .i64 a1_1, .slice A1_2 l1_2.length c1_2]] w fun e w' => ∃ v2_ : Value, e = .returned (.agg #[.int .i64 r1, .int .i64 r2, v2_]) ∧ Kd.R (Kd.int .i32) 24 w' w.heap.size (fun _ => True) v2_ r3 ∧ Below w.heap.size w w' := by
 have hu46 := Try.underlying46
 have HR0_2 := Aside0.mk hr0_2
 have HC0_2 := Aside0.mk hc0_2
 clear hr0_2 hc0_2
 have HR1_2 := Aside0.mk hr1_2
 have HC1_2 := Aside0.mk hc1_2
 clear hr1_2 hc1_2
 have HB := Aside0.mk (Below.refl w.heap.size w)
 have H : (tillerref04_Times.l0 k 0 a0_0 a0_1 l0_2 a1_0 a1_1 l1_2 a0_0 a1_1 ([] : List Int)) = some (r1, r2, r3) := h
 clear h
 have H' := Aside0.mk H
 clear H
 go_enter Try.func42, Try.ntmps42
 go_wp2_with (first | ((with_reducible refine gate_dst (N := 2) rfl ?_); refine box_event ?hg (N := 2) ?hd (cs := #[.int .i64 a0_0, .int .i64 a0_1, .slice A0_2 l0_2.length c0_2]) (t := 46) ?hr ?_; (case hd => rfl); (case hg => rfl); (case hr => first | (go_simp; done) | (go_simp; rfl)); intro gb575 hg w3 hbox hb; have n0_ := Aside0.mk (below_step (by repeat (first | (with_reducible first | exact HB.out | apply bwA | apply bwN | apply bwD) | exact HB.out)) hb); have n1_ := Aside0.mk (hbox); have n2_ := Aside0.mk ((by rw [hg]; exact (below_size (by repeat (first | (with_reducible first | exact HB.out | apply bwA | apply bwN | apply bwD) | exact HB.out))) : w.heap.size ≤ gb575)); have n3_ := Aside0.mk ((by rw [hg]; exact (below_size (by repeat (first | (with_reducible first | exact HB.out | apply bwA | apply bwN | apply bwD) | exact HB.out))) : w.heap.size ≤ gb575)); clear HB; have HB := n0_; have BK575 := n1_; have GW575 := n2_; have GE575 := n3_; clear n0_ n1_ n2_ n3_; clear hb hbox hg) | ((with_reducible refine gate_dst (N := 3) rfl ?_); refine box_event ?hg (N := 3) ?hd (cs := #[.int .i64 a1_0, .int .i64 a1_1, .slice A1_2 l1_2.length c1_2]) (t := 46) ?hr ?_; (case hd => rfl); (case hg => rfl); (case hr => first | (go_simp; done) | (go_simp; rfl)); intro gb576 hg w4 hbox hb; have n0_ := Aside0.mk (blk_below (g := gb575) (o := .cells #[.int .i64 a0_0, .int .i64 a0_1, .slice A0_2 l0_2.length c0_2] 46 (0, 0)) (by (with_reducible repeat (first | apply bkN | apply bkD | apply bkA)); exact BK575.out) hb); have n1_ := Aside0.mk (below_step (by repeat (first | (with_reducible first | exact HB.out | apply bwA | apply bwN | apply bwD | refine below_set ?_ GE575.out) | exact HB.out)) hb); have n2_ := Aside0.mk (hbox); have n3_ := Aside0.mk ((by rw [hg]; exact (below_size (by repeat (first | (with_reducible first | exact HB.out | apply bwA | apply bwN | apply bwD | refine below_set ?_ GE575.out) | exact HB.out))) : w.heap.size ≤ gb576)); have n4_ := Aside0.mk ((by rw [hg]; exact (below_size (by repeat (first | (with_reducible first | exact HB.out | apply bwA | apply bwN | apply bwD | refine below_set ?_ GE575.out) | exact HB.out))) : w.heap.size ≤ gb576)); have n5_ := Aside0.mk ((by rw [hg]; exact Nat.ne_of_lt (blk_lt (g := gb575) (o := .cells #[.int .i64 a0_0, .int .i64 a0_1, .slice A0_2 l0_2.length c0_2] 46 (0, 0)) (by (with_reducible repeat (first | apply bkN | apply bkD | apply bkA)); exact BK575.out)) : gb575 ≠ gb576)); have n6_ := Aside0.mk ((by rw [hg]; exact Nat.ne_of_gt (blk_lt (g := gb575) (o := .cells #[.int .i64 a0_0, .int .i64 a0_1, .slice A0_2 l0_2.length c0_2] 46 (0, 0)) (by (with_reducible repeat (first | apply bkN | apply bkD | apply bkA)); exact BK575.out)) : gb576 ≠ gb575)); clear BK575; clear HB; have BK575 := n0_; have HB := n1_; have BK576 := n2_; have GW576 := n3_; have GE576 := n4_; have NB575_576 := n5_; have NB576_575 := n6_; clear n0_ n1_ n2_ n3_ n4_ n5_ n6_; clear hb hbox hg) | ((with_reducible refine gate_dst (N := 4) rfl ?_); refine box_event ?hg (N := 4) ?hd (cs := #[.int .i64 0, .int .i64 0, .slice none 0 0]) (t := 46) ?hr ?_; (case hd => rfl); (case hg => rfl); (case hr => first | (go_simp; done) | (go_simp; rfl)); intro gb577 hg w5 hbox hb; have n0_ := Aside0.mk (blk_below (g := gb575) (o := .cells #[.int .i64 a0_0, .int .i64 a0_1, .slice A0_2 l0_2.length c0_2] 46 (0, 0)) (by (with_reducible repeat (first | apply bkN | apply bkD | apply bkA)); exact BK575.out) hb); have n1_ := Aside0.mk (blk_below (g := gb576) (o := .cells #[.int .i64 a1_0, .int .i64 a1_1, .slice A1_2 l1_2.length c1_2] 46 (0, 0)) (by (with_reducible repeat (first | apply bkN | apply bkD | apply bkA)); exact BK576.out) hb); have n2_ := Aside0.mk (below_step (by repeat (first | (with_reducible first | exact HB.out | apply bwA | apply bwN | apply bwD | refine below_set ?_ GE575.out | refine below_set ?_ GE576.out) | exact HB.out)) hb); have n3_ := Aside0.mk (hbox); have n4_ := Aside0.mk ((by rw [hg]; exact (below_size (by repeat (first | (with_reducible first | exact HB.out | apply bwA | apply bwN | apply bwD | refine below_set ?_ GE575.out | refine below_set ?_ GE576.out) | exact HB.out))) : w.heap.size ≤ gb577)); have n5_ := Aside0.mk ((by rw [hg]; exact (below_size (by repeat (first | (with_reducible first | exact HB.out | apply bwA | apply bwN | apply bwD | refine below_set ?_ GE575.out | refine below_set ?_ GE576.out) | exact HB.out))) : w.heap.size ≤ gb577)); have n6_ := Aside0.mk ((by rw [hg]; exact Nat.ne_of_lt (blk_lt (g := gb575) (o := .cells #[.int .i64 a0_0, .int .i64 a0_1, .slice A0_2 l0_2.length c0_2] 46 (0, 0)) (by (with_reducible repeat (first | apply bkN | apply bkD | apply bkA)); exact BK575.out)) : gb575 ≠ gb577)); have n7_ := Aside0.mk ((by rw [hg]; exact Nat.ne_of_gt (blk_lt (g := gb575) (o := .cells #[.int .i64 a0_0, .int .i64 a0_1, .slice A0_2 l0_2.length c0_2] 46 (0, 0)) (by (with_reducible repeat (first | apply bkN | apply bkD | apply bkA)); exact BK575.out)) : gb577 ≠ gb575)); have n8_ := Aside0.mk ((by rw [hg]; exact Nat.ne_of_lt (blk_lt (g := gb576) (o := .cells #[.int .i64 a1_0, .int .i64 a1_1, .slice A1_2 l1_2.length c1_2] 46 (0, 0)) (by (with_reducible repeat (first | apply bkN | apply bkD | apply bkA)); exact BK576.out)) : gb576 ≠ gb577)); have n9_ := Aside0.mk ((by rw [hg]; exact Nat.ne_of_gt (blk_lt (g := gb576) (o := .cells #[.int .i64 a1_0, .int .i64 a1_1, .slice A1_2 l1_2.length c1_2] 46 (0, 0)) (by (with_reducible repeat (first | apply bkN | apply bkD | apply bkA)); exact BK576.out)) : gb577 ≠ gb576)); clear BK575; clear BK576; clear HB; have BK575 := n0_; have BK576 := n1_; have HB := n2_; have BK577 := n3_; have GW577 := n4_; have GE577 := n5_; have NB575_577 := n6_; have NB577_575 := n7_; have NB576_577 := n8_; have NB577_576 := n9_; clear n0_ n1_ n2_ n3_ n4_ n5_ n6_ n7_ n8_ n9_; clear hb hbox hg; have hnb6 := NB575_576.out; have hnc6 := NB576_575.out; have hnb7 := NB575_577.out; have hnc7 := NB577_575.out; have hcz8_0 : w5.cell? ⟨gb575, 0, none⟩ = some (.int .i64 a0_0) := (blk_cell BK575.out 0).trans rfl; have hcz8_1 : w5.cell? ⟨gb575, 1, none⟩ = some (.int .i64 a0_1) := (blk_cell BK575.out 1).trans rfl; have hcz8_2 : w5.cell? ⟨gb575, 2, none⟩ = some (.slice A0_2 l0_2.length c0_2) := (blk_cell BK575.out 2).trans rfl; have hfz8_0 := blk_frozen BK575.out 0; have hfz8_1 := blk_frozen BK575.out 1; have hfz8_2 := blk_frozen BK575.out 2; have hnb9 := NB576_577.out; have hnc9 := NB577_576.out; have hcz10_0 : w5.cell? ⟨gb576, 0, none⟩ = some (.int .i64 a1_0) := (blk_cell BK576.out 0).trans rfl; have hcz10_1 : w5.cell? ⟨gb576, 1, none⟩ = some (.int .i64 a1_1) := (blk_cell BK576.out 1).trans rfl; have hcz10_2 : w5.cell? ⟨gb576, 2, none⟩ = some (.slice A1_2 l1_2.length c1_2) := (blk_cell BK576.out 2).trans rfl; have hfz10_0 := blk_frozen BK576.out 0; have hfz10_1 := blk_frozen BK576.out 1; have hfz10_2 := blk_frozen BK576.out 2) | ((with_reducible refine gate_dst (N := 5) rfl ?_); refine box_event ?hg (N := 5) ?hd (cs := #[.int .i64 0, .int .i64 0, .slice none 0 0]) (t := 46) ?hr ?_; (case hd => rfl); (case hg => rfl); (case hr => first | (go_simp; done) | (go_simp; rfl)); intro gb578 hg w11 hbox hb; have n0_ := Aside0.mk (blk_below (g := gb575) (o := .cells #[.int .i64 a0_0, .int .i64 a0_1, .slice A0_2 l0_2.length c0_2] 46 (0, 0)) (by (with_reducible repeat (first | apply bkN | apply bkD | apply bkA)); exact BK575.out) hb); have n1_ := Aside0.mk (blk_below (g := gb576) (o := .cells #[.int .i64 a1_0, .int .i64 a1_1, .slice A1_2 l1_2.length c1_2] 46 (0, 0)) (by (with_reducible repeat (first | apply bkN | apply bkD | apply bkA)); exact BK576.out) hb); have n2_ := Aside0.mk (blk_below (g := gb577) (o := .cells #[.int .i64 0, .int .i64 0, .slice none 0 0] 46 (0, 0)) (by (with_reducible repeat (first | apply bkN | apply bkD | apply bkA)); exact BK577.out) hb); have n3_ := Aside0.mk (below_step (by repeat (first | (with_reducible first | exact HB.out | apply bwA | apply bwN | apply bwD | refine below_set ?_ GE575.out | refine below_set ?_ GE576.out | refine below_set ?_ GE577.out) | exact HB.out)) hb); have n4_ := Aside0.mk (hbox); have n5_ := Aside0.mk ((by rw [hg]; exact (below_size (by repeat (first | (with_reducible first | exact HB.out | apply bwA | apply bwN | apply bwD | refine below_set ?_ GE575.out | refine below_set ?_ GE576.out | refine below_set ?_ GE577.out) | exact HB.out))) : w.heap.size ≤ gb578)); have n6_ := Aside0.mk ((by rw [hg]; exact (below_size (by repeat (first | (with_reducible first | exact HB.out | apply bwA | apply bwN | apply bwD | refine below_set ?_ GE575.out | refine below_set ?_ GE576.out | refine below_set ?_ GE577.out) | exact HB.out))) : w.heap.size ≤ gb578)); have n7_ := Aside0.mk ((by rw [hg]; exact Nat.ne_of_lt (blk_lt (g := gb575) (o := .cells #[.int .i64 a0_0, .int .i64 a0_1, .slice A0_2 l0_2.length c0_2] 46 (0, 0)) (by (with_reducible repeat (first | apply bkN | apply bkD | apply bkA)); exact BK575.out)) : gb575 ≠ gb578)); have n8_ := Aside0.mk ((by rw [hg]; exact Nat.ne_of_gt (blk_lt (g := gb575) (o := .cells #[.int .i64 a0_0, .int .i64 a0_1, .slice A0_2 l0_2.length c0_2] 46 (0, 0)) (by (with_reducible repeat (first | apply bkN | apply bkD | apply bkA)); exact BK575.out)) : gb578 ≠ gb575)); have n9_ := Aside0.mk ((by rw [hg]; exact Nat.ne_of_lt (blk_lt (g := gb576) (o := .cells #[.int .i64 a1_0, .int .i64 a1_1, .slice A1_2 l1_2.length c1_2] 46 (0, 0)) (by (with_reducible repeat (first | apply bkN | apply bkD | apply bkA)); exact BK576.out)) : gb576 ≠ gb578)); have n10_ := Aside0.mk ((by rw [hg]; exact Nat.ne_of_gt (blk_lt (g := gb576) (o := .cells #[.int .i64 a1_0, .int .i64 a1_1, .slice A1_2 l1_2.length c1_2] 46 (0, 0)) (by (with_reducible repeat (first | apply bkN | apply bkD | apply bkA)); exact BK576.out)) : gb578 ≠ gb576)); have n11_ := Aside0.mk ((by rw [hg]; exact Nat.ne_of_lt (blk_lt (g := gb577) (o := .cells #[.int .i64 0, .int .i64 0, .slice none 0 0] 46 (0, 0)) (by (with_reducible repeat (first | apply bkN | apply bkD | apply bkA)); exact BK577.out)) : gb577 ≠ gb578)); have n12_ := Aside0.mk ((by rw [hg]; exact Nat.ne_of_gt (blk_lt (g := gb577) (o := .cells #[.int .i64 0, .int .i64 0, .slice none 0 0] 46 (0, 0)) (by (with_reducible repeat (first | apply bkN | apply bkD | apply bkA)); exact BK577.out)) : gb578 ≠ gb577)); clear BK575; clear BK576; clear BK577; clear HB; have BK575 := n0_; have BK576 := n1_; have BK577 := n2_; have HB := n3_; have BK578 := n4_; have GW578 := n5_; have GE578 := n6_; have NB575_578 := n7_; have NB578_575 := n8_; have NB576_578 := n9_; have NB578_576 := n10_; have NB577_578 := n11_; have NB578_577 := n12_; clear n0_ n1_ n2_ n3_ n4_ n5_ n6_ n7_ n8_ n9_ n10_ n11_ n12_; clear hb hbox hg; have hnb12 := NB578_575.out; have hnc12 := NB575_578.out; have hnb13 := NB578_576.out; have hnc13 := NB576_578.out; have hnb14 := NB578_577.out; have hnc14 := NB577_578.out; have hcz15_0 : w11.cell? ⟨gb578, 0, none⟩ = some (.int .i64 0) := (blk_cell BK578.out 0).trans rfl; have hcz15_1 : w11.cell? ⟨gb578, 1, none⟩ = some (.int .i64 0) := (blk_cell BK578.out 1).trans rfl; have hcz15_2 : w11.cell? ⟨gb578, 2, none⟩ = some (.slice none 0 0) := (blk_cell BK578.out 2).trans rfl; have hfz15_0 := blk_frozen BK578.out 0; have hfz15_1 := blk_frozen BK578.out 1; have hfz15_2 := blk_frozen BK578.out 2))
 go_loopg [6] k (fun kq v6 w' => ∃ (x6_1 : Int) (x579002_1 : List Int) (u579002 : Value), v6 = .int .i64 x6_1 ∧ Aside0 (tillerref04_Times.l0 kq x6_1 a0_0 a0_1 l0_2 a1_0 a1_1 l1_2 a0_0 a1_1 x579002_1 = some (r1, r2, r3)) ∧ Aside0 (kq ≤ k) ∧ Aside0 (Kd.R (Kd.int .i32) 24 w' w.heap.size (fun _ => True) u579002 x579002_1) ∧ Aside0 (w'.heap[gb575]? = some (.cells #[.int .i64 a0_0, .int .i64 a0_1, (.slice A0_2 l0_2.length c0_2)] 46 (0, 0))) ∧ Aside0 (w'.heap[gb576]? = some (.cells #[.int .i64 a1_0, .int .i64 a1_1, (.slice A1_2 l1_2.length c1_2)] 46 (0, 0))) ∧ Aside0 (w'.heap[gb577]? = some (.cells #[.int .i64 0, .int .i64 0, (.slice none 0 0)] 46 (0, 0))) ∧ Aside0 (w'.heap[gb578]? = some (.cells #[.int .i64 a0_0, .int .i64 a1_1, u579002] 46 (0, 0))) ∧ Aside0 (Below w.heap.size w w'))
 case atStart => exact ⟨(0), (([] : List Int)), (.slice none 0 0), (by first | rfl | (simp; done) | (simp [*]; done)), H', ⟨Nat.le_refl _⟩, ⟨by first | exact Kd.R_nil _ _ _ _ _ | exact Kd.N_nil _ _ _ _ _ | exact Kd.V_nil _ _ _ _ _ | exact Kd.Q_nil _ _ _ _ _ | exact Kd.S_nil _ _ _ _ _⟩, ⟨by (with_reducible repeat (first | apply bkN | apply bkD | apply bkA)); refine blk_far ?_ NB575_578.out _; (with_reducible repeat (first | apply bkN | apply bkD | apply bkA)); refine blk_far ?_ NB575_578.out _; (with_reducible repeat (first | apply bkN | apply bkD | apply bkA)); refine blk_far ?_ NB575_578.out _; (with_reducible repeat (first | apply bkN | apply bkD | apply bkA)); exact BK575.out⟩, ⟨by (with_reducible repeat (first | apply bkN | apply bkD | apply bkA)); refine blk_far ?_ NB576_578.out _; (with_reducible repeat (first | apply bkN | apply bkD | apply bkA)); refine blk_far ?_ NB576_578.out _; (with_reducible repeat (first | apply bkN | apply bkD | apply bkA)); refine blk_far ?_ NB576_578.out _; (with_reducible repeat (first | apply bkN | apply bkD | apply bkA)); exact BK576.out⟩, ⟨by (with_reducible repeat (first | apply bkN | apply bkD | apply bkA)); refine blk_far ?_ NB577_578.out _; (with_reducible repeat (first | apply bkN | apply bkD | apply bkA)); refine blk_far ?_ NB577_578.out _; (with_reducible repeat (first | apply bkN | apply bkD | apply bkA)); refine blk_far ?_ NB577_578.out _; (with_reducible repeat (first | apply bkN | apply bkD | apply bkA)); exact BK577.out⟩, ⟨by (with_reducible repeat (first | apply bkN | apply bkD | apply bkA)); refine blk_put (cs := #[.int .i64 a0_0, .int .i64 a1_1, .slice none 0 0]) ?_ 2 _ rfl; (with_reducible repeat (first | apply bkN | apply bkD | apply bkA)); refine blk_put (cs := #[.int .i64 a0_0, .int .i64 0, .slice none 0 0]) ?_ 1 _ rfl; (with_reducible repeat (first | apply bkN | apply bkD | apply bkA)); refine blk_put (cs := #[.int .i64 0, .int .i64 0, .slice none 0 0]) ?_ 0 _ rfl; (with_reducible repeat (first | apply bkN | apply bkD | apply bkA)); exact BK578.out⟩, ⟨by repeat (first | (with_reducible first | exact HB.out | apply bwA | apply bwN | apply bwD | refine below_set ?_ GE575.out | refine below_set ?_ GE576.out | refine below_set ?_ GE577.out | refine below_set ?_ GE578.out) | exact HB.out)⟩⟩
 case round =>
  clear H'
  try clear c1
  try clear p2
  try clear c4
  try clear c6
  try clear c7
  try clear c9
  try clear c12
  try clear c13
  try clear c14
  try clear hcz10_0
  try clear hcz10_1
  try clear hcz10_2
  try clear hcz15_0
  try clear hcz15_1
  try clear hcz15_2
  try clear hcz8_0
  try clear hcz8_1
  try clear hcz8_2
  try clear hfz10_0
  try clear hfz10_1
  try clear hfz10_2
  try clear hfz15_0
  try clear hfz15_1
  try clear hfz15_2
  try clear hfz8_0
  try clear hfz8_1
  try clear hfz8_2
  obtain ⟨x6_1, x579002_1, u579002, rfl, HA, HK1, HO_579002, BK575, BK576, BK577, BK578, HB⟩ := hrel
  cases gk with
  | zero => exact absurd HA.out (by simp [tillerref04_Times.l0])
  | succ k1 =>
   have H := HA.out
   clear HA
   simp only [tillerref04_Times.l0] at H
   by_cases c16 : x6_1 < a0_0
   ·rw [if_pos c16] at H
    have c16b0 : decide (x6_1 < a0_0) = true := decide_eq_true c16
    clear c16
    have H' := Aside0.mk H
    clear H
    have hnb17 := NB575_576.out
    have hnc17 := NB576_575.out
    have hnb18 := NB575_577.out
    have hnc18 := NB577_575.out
    have hnb19 := NB575_578.out
    have hnc19 := NB578_575.out
    have hcz20_0 : wr.cell? ⟨gb575, 0, none⟩ = some (.int .i64 a0_0) := (blk_cell BK575.out 0).trans rfl
    have hcz20_1 : wr.cell? ⟨gb575, 1, none⟩ = some (.int .i64 a0_1) := (blk_cell BK575.out 1).trans rfl
    have hcz20_2 : wr.cell? ⟨gb575, 2, none⟩ = some (.slice A0_2 l0_2.length c0_2) := (blk_cell BK575.out 2).trans rfl
    have hfz20_0 := blk_frozen BK575.out 0
    have hfz20_1 := blk_frozen BK575.out 1
    have hfz20_2 := blk_frozen BK575.out 2
    go_wp2
    go_loopg [7] k1 (fun kq v7 w' => ∃ (x7_2 : Int) (x579002_2 : List Int) (u579002 : Value), v7 = .int .i64 x7_2 ∧ Aside0 (tillerref04_Times.l1 kq x6_1 x7_2 a0_0 a0_1 l0_2 a1_0 a1_1 l1_2 a0_0 a1_1 x579002_2 = some (r1, r2, r3)) ∧ Aside0 (kq ≤ k1) ∧ Aside0 (Kd.R (Kd.int .i32) 24 w' w.heap.size (fun _ => True) u579002 x579002_2) ∧ Aside0 (w'.heap[gb575]? = some (.cells #[.int .i64 a0_0, .int .i64 a0_1, (.slice A0_2 l0_2.length c0_2)] 46 (0, 0))) ∧ Aside0 (w'.heap[gb576]? = some (.cells #[.int .i64 a1_0, .int .i64 a1_1, (.slice A1_2 l1_2.length c1_2)] 46 (0, 0))) ∧ Aside0 (w'.heap[gb577]? = some (.cells #[.int .i64 0, .int .i64 0, (.slice none 0 0)] 46 (0, 0))) ∧ Aside0 (w'.heap[gb578]? = some (.cells #[.int .i64 a0_0, .int .i64 a1_1, u579002] 46 (0, 0))) ∧ Aside0 (Below w.heap.size w w'))
    case atStart => exact ⟨(0), (x579002_1), (u579002), (by first | rfl | (simp; done) | (simp [*]; done)), H', ⟨Nat.le_refl _⟩, ⟨by (with_reducible repeat (first | apply rwA | apply rwN | apply rwD)); exact HO_579002.out⟩, ⟨by (with_reducible repeat (first | apply bkN | apply bkD | apply bkA)); exact BK575.out⟩, ⟨by (with_reducible repeat (first | apply bkN | apply bkD | apply bkA)); exact BK576.out⟩, ⟨by (with_reducible repeat (first | apply bkN | apply bkD | apply bkA)); exact BK577.out⟩, ⟨by (with_reducible repeat (first | apply bkN | apply bkD | apply bkA)); exact BK578.out⟩, ⟨by repeat (first | (with_reducible first | exact HB.out | apply bwA | apply bwN | apply bwD | refine below_set ?_ GE575.out | refine below_set ?_ GE576.out | refine below_set ?_ GE577.out | refine below_set ?_ GE578.out) | exact HB.out)⟩⟩
    case round =>
     clear H'
     try clear c1
     try clear p2
     try clear c4
     try clear c6
     try clear c7
     try clear c9
     try clear c12
     try clear c13
     try clear c14
     try clear c16
     try clear c16b0
     try clear c17
     try clear c18
     try clear c19
     try clear hcz10_0
     try clear hcz10_1
     try clear hcz10_2
     try clear hcz15_0
     try clear hcz15_1
     try clear hcz15_2
     try clear hcz20_0
     try clear hcz20_1
     try clear hcz20_2
     try clear hcz8_0
     try clear hcz8_1
     try clear hcz8_2
     try clear hfz10_0
     try clear hfz10_1
     try clear hfz10_2
     try clear hfz15_0
     try clear hfz15_1
     try clear hfz15_2
     try clear hfz20_0
     try clear hfz20_1
     try clear hfz20_2
     try clear hfz8_0
     try clear hfz8_1
     try clear hfz8_2
     try clear p2
     obtain ⟨x7_2, x579002_2, u579002, rfl, HA, HK2, HO_579002, BK575, BK576, BK577, BK578, HB⟩ := hrel
     cases gk with
     | zero => exact absurd HA.out (by simp [tillerref04_Times.l1])
     | succ k2 =>
      have H := HA.out
      clear HA
      simp only [tillerref04_Times.l1] at H
      by_cases c21 : x7_2 < a1_1
      ·rw [if_pos c21] at H
       have c21b0 : decide (x7_2 < a1_1) = true := decide_eq_true c21
       clear c21
       replace H := Option.bind_eq_some_iff.mp H
       obtain ⟨t579, A220, H⟩ := H
       replace H : ((tillerref04_Column.f k2 a1_0 a1_1 l1_2 x7_2).bind fun t582 => ((tillerref03_Dot.f k2 t579 t582).bind fun t585 => (if x579002_2.length < 35184372088832 then (tillerref04_Times.l1 k2 x6_1 (wrap64 (x7_2 + 1)) a0_0 a0_1 l0_2 a1_0 a1_1 l1_2 a0_0 a1_1 (x579002_2 ++ [t585])) else (none)))) = some (r1, r2, r3) := H
       have A22 := Aside0.mk A220
       clear A220
       replace H := Option.bind_eq_some_iff.mp H
       obtain ⟨t582, A230, H⟩ := H
       replace H : ((tillerref03_Dot.f k2 t579 t582).bind fun t585 => (if x579002_2.length < 35184372088832 then (tillerref04_Times.l1 k2 x6_1 (wrap64 (x7_2 + 1)) a0_0 a0_1 l0_2 a1_0 a1_1 l1_2 a0_0 a1_1 (x579002_2 ++ [t585])) else (none))) = some (r1, r2, r3) := H
       have A23 := Aside0.mk A230
       clear A230
       replace H := Option.bind_eq_some_iff.mp H
       obtain ⟨t585, A240, H⟩ := H
       replace H : (if x579002_2.length < 35184372088832 then (tillerref04_Times.l1 k2 x6_1 (wrap64 (x7_2 + 1)) a0_0 a0_1 l0_2 a1_0 a1_1 l1_2 a0_0 a1_1 (x579002_2 ++ [t585])) else (none)) = some (r1, r2, r3) := H
       have A24 := Aside0.mk A240
       clear A240
       by_cases c25 : x579002_2.length < 35184372088832
       ·rw [if_pos c25] at H
        have LMc25 := Aside0.mk c25
        clear c25
        obtain ⟨y586, hy586⟩ : ∃ y_ : List Int, y_ = (x579002_2 ++ [t585]) := ⟨_, rfl⟩
        replace H : (tillerref04_Times.l1 k2 x6_1 (wrap64 (x7_2 + 1)) a0_0 a0_1 l0_2 a1_0 a1_1 l1_2 a0_0 a1_1 y586) = some (r1, r2, r3) := by first | (rw [hy586]; with_reducible exact H) | (have H2_ := (Option.bind_some _ _).symm.trans H; rw [hy586]; with_reducible exact H2_) | (have H2_ := (Option.bind_some _ _).symm.trans H; with_reducible exact H2_) | with_reducible exact H | (rw [hy586]; exact H) | exact H
        have Ny586 := Aside0.mk hy586
        clear hy586
        have H' := Aside0.mk H
        clear H
        have hnb26 := NB576_575.out
        have hnc26 := NB575_576.out
        have hnb27 := NB576_577.out
        have hnc27 := NB577_576.out
        have hnb28 := NB576_578.out
        have hnc28 := NB578_576.out
        have hcz29_0 : wr.cell? ⟨gb576, 0, none⟩ = some (.int .i64 a1_0) := (blk_cell BK576.out 0).trans rfl
        have hcz29_1 : wr.cell? ⟨gb576, 1, none⟩ = some (.int .i64 a1_1) := (blk_cell BK576.out 1).trans rfl
        have hcz29_2 : wr.cell? ⟨gb576, 2, none⟩ = some (.slice A1_2 l1_2.length c1_2) := (blk_cell BK576.out 2).trans rfl
        have hfz29_0 := blk_frozen BK576.out 0
        have hfz29_1 := blk_frozen BK576.out 1
        have hfz29_2 := blk_frozen BK576.out 2
        try go_wp2
        have n0_ := Aside0.mk (Kd.R_drew HO_579002.out)
        have n1_ := Aside0.mk (blk_drew BK575.out)
        have n2_ := Aside0.mk (blk_drew BK576.out)
        have n3_ := Aside0.mk (blk_drew BK577.out)
        have n4_ := Aside0.mk (blk_drew BK578.out)
        have n5_ := Aside0.mk (below_drew1 HB.out)
        clear HO_579002
        clear BK575
        clear BK576
        clear BK577
        clear BK578
        clear HB
        have HO_579002 := n0_
        have BK575 := n1_
        have BK576 := n2_
        have BK577 := n3_
        have BK578 := n4_
        have HB := n5_
        clear n0_ n1_ n2_ n3_ n4_ n5_
        refine start_ (n := 13) (S := fun w' => w'.cell? ⟨gb578, 0, none⟩ = some (.int .i64 a0_0) ∧ w'.cell? ⟨gb578, 1, none⟩ = some (.int .i64 a1_1) ∧ w'.cell? ⟨gb578, 2, none⟩ = some (u579002) ∧ w'.cell? ⟨gb575, 0, none⟩ = some (.int .i64 a0_0) ∧ w'.cell? ⟨gb575, 1, none⟩ = some (.int .i64 a0_1) ∧ w'.cell? ⟨gb575, 2, none⟩ = some (.slice A0_2 l0_2.length c0_2) ∧ w'.cell? ⟨gb576, 0, none⟩ = some (.int .i64 a1_0) ∧ w'.cell? ⟨gb576, 1, none⟩ = some (.int .i64 a1_1) ∧ w'.cell? ⟨gb576, 2, none⟩ = some (.slice A1_2 l1_2.length c1_2)) (ds := [12]) T77836_0 (by kernel_rfl) rfl rfl ⟨(blk_cell BK578.out 0).trans rfl, (blk_cell BK578.out 1).trans rfl, (blk_cell BK578.out 2).trans rfl, (blk_cell BK575.out 0).trans rfl, (blk_cell BK575.out 1).trans rfl, (blk_cell BK575.out 2).trans rfl, (blk_cell BK576.out 0).trans rfl, (blk_cell BK576.out 1).trans rfl, (blk_cell BK576.out 2).trans rfl⟩ (fun hHeld => ?_); refine with_tabW tillerref04_Times.tab8 tillerref04_Times.bits8 (fun HT_ HW_ => ?_)
        generalize wr.drew = w30 at HO_579002 BK575 BK576 BK577 BK578 HB hHeld ⊢
        refine pure_ (i := 0) (N := some 25) (v := ?_) (a' := ?_) T77836_1 rfl rfl (any_of HT_.out (by kernel_rfl)) idq (.inl ⟨by rfl, ?_⟩) ?_ ?_
        rotate_left; ·intro w'; go_simp; with_reducible rfl
        rotate_left; ·simp only [Act.put, sqA, sqB, sqC, i64_w, i32_w]; rfl
        refine pure_ (i := 3) (N := some 28) (v := ?_) (a' := ?_) T77836_2 rfl rfl (any_of HT_.out (by kernel_rfl)) idq (.inl ⟨by rfl, ?_⟩) ?_ ?_
        rotate_left; ·intro w'; go_simp; with_reducible rfl
        rotate_left; ·simp only [Act.put, sqA, sqB, sqC, i64_w, i32_w]; rfl
        refine pure_ (i := 6) (N := some 31) (v := ?_) (a' := ?_) T77836_3 rfl rfl (any_of HT_.out (by kernel_rfl)) idq (.inl ⟨by rfl, ?_⟩) ?_ ?_
        rotate_left; ·intro w'; go_simp; with_reducible rfl
        rotate_left; ·simp only [Act.put, sqA, sqB, sqC, i64_w, i32_w]; rfl
        refine take_ (i := 1) (N := some 26) (v := ?_) (a' := ?_) T77836_4 rfl rfl (take_ofW HT_.out HW_.out (by kernel_rfl)) idq (.inl ⟨by rfl, ?_⟩) hHeld ?_ ?_
        rotate_left
        ·rintro w' ⟨s0, s1, s2, s3, s4, s5, s6, s7, s8⟩
         go_simp
         with_reducible rfl
        rotate_left; ·simp only [Act.put, sqA, sqB, sqC, i64_w, i32_w]; rfl
        refine take_ (i := 2) (N := some 27) (v := ?_) (a' := ?_) T77836_5 rfl rfl (take_ofW HT_.out HW_.out (by kernel_rfl)) idq (.inl ⟨by rfl, ?_⟩) hHeld ?_ ?_
        rotate_left
        ·rintro w' ⟨s0, s1, s2, s3, s4, s5, s6, s7, s8⟩
         go_simp
         with_reducible rfl
        rotate_left; ·simp only [Act.put, sqA, sqB, sqC, i64_w, i32_w]; rfl
        refine take_ (i := 5) (N := some 30) (v := ?_) (a' := ?_) T77836_6 rfl rfl (take_ofW HT_.out HW_.out (by kernel_rfl)) idq (.inl ⟨by rfl, ?_⟩) hHeld ?_ ?_
        rotate_left
        ·rintro w' ⟨s0, s1, s2, s3, s4, s5, s6, s7, s8⟩
         go_simp
         with_reducible rfl
        rotate_left; ·simp only [Act.put, sqA, sqB, sqC, i64_w, i32_w]; rfl
        refine one_ (i := 4) (N := some 29) T77836_7 rfl rfl (one_of HT_.out (by kernel_rfl)) (by decide) (fun K hK => ?_)
        refine goes_ Try.func37 (by kernel_rfl) rfl #[.agg #[.int .i64 a0_0, .int .i64 a0_1, .slice A0_2 l0_2.length c0_2], .int .i64 x6_1] (by rfl) rfl rfl (by (try simp only [List.map_toArray, List.map_cons, List.map_nil]); first | done | rfl | (simp only [List.length_drop, List.length_take]; rfl)) ?_
        with_reducible refine (tillerref04_Row.calls k2 a0_0 a0_1 _ _ l0_2 x6_1 t579 _ ?side1 ?side2 A22.out).mono ?_
        (case side1 => repeat (first | exact (Kd.C_below HR0_2.out HB.out) | (with_reducible refine Kd.C_alloc ?_ _) | (with_reducible refine Kd.C_drewN ?_ _) | (with_reducible refine Kd.C_drew ?_)))
        (case side2 => exact HC0_2.out)
        rintro e w31 ⟨v580, rfl, ho0, hb⟩
        refine ⟨_, rfl, ?_⟩
        have n0_ := Aside0.mk (Kd.R_elder' (by (with_reducible repeat (first | apply rwA | apply rwN | apply rwD)); exact HO_579002.out) (Kd.R_base ho0) hb)
        have n1_ := Aside0.mk (Kd.R_lower (Kd.R_new' ho0 (Kd.R_lt (by (with_reducible repeat (first | apply rwA | apply rwN | apply rwD)); exact HO_579002.out))) (below_size (by repeat (first | (with_reducible first | exact HB.out | apply bwA | apply bwN | apply bwD | refine below_set ?_ GE575.out | refine below_set ?_ GE576.out | refine below_set ?_ GE577.out | refine below_set ?_ GE578.out) | exact HB.out))))
        have n2_ := Aside0.mk (blk_below (g := gb575) (o := .cells #[.int .i64 a0_0, .int .i64 a0_1, .slice A0_2 l0_2.length c0_2] 46 (0, 0)) (by (with_reducible repeat (first | apply bkN | apply bkD | apply bkA)); exact BK575.out) hb)
        have n3_ := Aside0.mk (blk_below (g := gb576) (o := .cells #[.int .i64 a1_0, .int .i64 a1_1, .slice A1_2 l1_2.length c1_2] 46 (0, 0)) (by (with_reducible repeat (first | apply bkN | apply bkD | apply bkA)); exact BK576.out) hb)
        have n4_ := Aside0.mk (blk_below (g := gb577) (o := .cells #[.int .i64 0, .int .i64 0, .slice none 0 0] 46 (0, 0)) (by (with_reducible repeat (first | apply bkN | apply bkD | apply bkA)); exact BK577.out) hb)
        have n5_ := Aside0.mk (blk_below (g := gb578) (o := .cells #[.int .i64 a0_0, .int .i64 a1_1, u579002] 46 (0, 0)) (by (with_reducible repeat (first | apply bkN | apply bkD | apply bkA)); exact BK578.out) hb)
        have n6_ := Aside0.mk (below_step (by repeat (first | (with_reducible first | exact HB.out | apply bwA | apply bwN | apply bwD | refine below_set ?_ GE575.out | refine below_set ?_ GE576.out | refine below_set ?_ GE577.out | refine below_set ?_ GE578.out) | exact HB.out)) hb)
        clear HO_579002
        clear BK575
        clear BK576
        clear BK577
        clear BK578
        clear HB
        have HO_579002 := n0_
        have HO581 := n1_
        have BK575 := n2_
        have BK576 := n3_
        have BK577 := n4_
        have BK578 := n5_
        have HB := n6_
        clear n0_ n1_ n2_ n3_ n4_ n5_ n6_
        (try clear hb)
        (try clear hb2)
        (try clear hk)
        (try clear hi)
        (try clear ho0)
        refine hK.out _ _ ⟨(blk_cell BK578.out 0).trans rfl, (blk_cell BK578.out 1).trans rfl, (blk_cell BK578.out 2).trans rfl, (blk_cell BK575.out 0).trans rfl, (blk_cell BK575.out 1).trans rfl, (blk_cell BK575.out 2).trans rfl, (blk_cell BK576.out 0).trans rfl, (blk_cell BK576.out 1).trans rfl, (blk_cell BK576.out 2).trans rfl⟩ (fun hHeld => ?_)
        clear hK K
        refine norm_ (a' := ?_) ?_ ?_
        rotate_left
        ·show Act.put _ (some 29) _ = _
         simp only [Act.put, sqA, sqB, sqC, i64_w, i32_w]
         rfl
        refine one_ (i := 7) (N := some 32) T77836_8 rfl rfl (one_of HT_.out (by kernel_rfl)) (by decide) (fun K hK => ?_)
        refine goes_ Try.func39 (by kernel_rfl) rfl #[.agg #[.int .i64 a1_0, .int .i64 a1_1, .slice A1_2 l1_2.length c1_2], .int .i64 x7_2] (by rfl) rfl rfl (by (try simp only [List.map_toArray, List.map_cons, List.map_nil]); first | done | rfl | (simp only [List.length_drop, List.length_take]; rfl)) ?_
        with_reducible refine (tillerref04_Column.calls k2 a1_0 a1_1 _ _ l1_2 x7_2 t582 _ ?side1 ?side2 A23.out).mono ?_
        (case side1 => repeat (first | exact (Kd.C_below HR1_2.out HB.out) | (with_reducible refine Kd.C_alloc ?_ _) | (with_reducible refine Kd.C_drewN ?_ _) | (with_reducible refine Kd.C_drew ?_)))
        (case side2 => exact HC1_2.out)
        rintro e w32 ⟨v583, rfl, ho0, hb⟩
        refine ⟨_, rfl, ?_⟩
        have n0_ := Aside0.mk (Kd.R_elder' (by (with_reducible repeat (first | apply rwA | apply rwN | apply rwD)); exact HO_579002.out) (Kd.R_base ho0) hb)
        have n1_ := Aside0.mk (Kd.R_elder' (by (with_reducible repeat (first | apply rwA | apply rwN | apply rwD)); exact HO581.out) (Kd.R_base ho0) hb)
        have n2_ := Aside0.mk (Kd.R_lower (Kd.R_new' (Kd.R_new' ho0 (Kd.R_lt (by (with_reducible repeat (first | apply rwA | apply rwN | apply rwD)); exact HO_579002.out))) (Kd.R_lt (by (with_reducible repeat (first | apply rwA | apply rwN | apply rwD)); exact HO581.out))) (below_size (by repeat (first | (with_reducible first | exact HB.out | apply bwA | apply bwN | apply bwD | refine below_set ?_ GE575.out | refine below_set ?_ GE576.out | refine below_set ?_ GE577.out | refine below_set ?_ GE578.out) | exact HB.out))))
        have n3_ := Aside0.mk (blk_below (g := gb575) (o := .cells #[.int .i64 a0_0, .int .i64 a0_1, .slice A0_2 l0_2.length c0_2] 46 (0, 0)) (by (with_reducible repeat (first | apply bkN | apply bkD | apply bkA)); exact BK575.out) hb)
        have n4_ := Aside0.mk (blk_below (g := gb576) (o := .cells #[.int .i64 a1_0, .int .i64 a1_1, .slice A1_2 l1_2.length c1_2] 46 (0, 0)) (by (with_reducible repeat (first | apply bkN | apply bkD | apply bkA)); exact BK576.out) hb)
        have n5_ := Aside0.mk (blk_below (g := gb577) (o := .cells #[.int .i64 0, .int .i64 0, .slice none 0 0] 46 (0, 0)) (by (with_reducible repeat (first | apply bkN | apply bkD | apply bkA)); exact BK577.out) hb)
        have n6_ := Aside0.mk (blk_below (g := gb578) (o := .cells #[.int .i64 a0_0, .int .i64 a1_1, u579002] 46 (0, 0)) (by (with_reducible repeat (first | apply bkN | apply bkD | apply bkA)); exact BK578.out) hb)
        have n7_ := Aside0.mk (below_step (by repeat (first | (with_reducible first | exact HB.out | apply bwA | apply bwN | apply bwD | refine below_set ?_ GE575.out | refine below_set ?_ GE576.out | refine below_set ?_ GE577.out | refine below_set ?_ GE578.out) | exact HB.out)) hb)
        clear HO_579002
        clear HO581
        clear BK575
        clear BK576
        clear BK577
        clear BK578
        clear HB
        have HO_579002 := n0_
        have HO581 := n1_
        have HO584 := n2_
        have BK575 := n3_
        have BK576 := n4_
        have BK577 := n5_
        have BK578 := n6_
        have HB := n7_
        clear n0_ n1_ n2_ n3_ n4_ n5_ n6_ n7_
        (try clear hb)
        (try clear hb2)
        (try clear hk)
        (try clear hi)
        (try clear ho0)
        obtain ⟨Ao33, co33, eo33⟩ := Kd.R_slice HO581.out
        (first | subst eo33 | (injection eo33 with f1_ f2_ f3_; have f4_ := f1_.symm; have f5_ := f3_.symm; clear f1_ f2_ f3_; subst f4_; subst f5_))
        obtain ⟨Ao34, co34, eo34⟩ := Kd.R_slice HO584.out
        (first | subst eo34 | (injection eo34 with f1_ f2_ f3_; have f4_ := f1_.symm; have f5_ := f3_.symm; clear f1_ f2_ f3_; subst f4_; subst f5_))
        refine hK.out _ _ ⟨(blk_cell BK578.out 0).trans rfl, (blk_cell BK578.out 1).trans rfl, (blk_cell BK578.out 2).trans rfl, (blk_cell BK575.out 0).trans rfl, (blk_cell BK575.out 1).trans rfl, (blk_cell BK575.out 2).trans rfl, (blk_cell BK576.out 0).trans rfl, (blk_cell BK576.out 1).trans rfl, (blk_cell BK576.out 2).trans rfl⟩ (fun hHeld => ?_)
        clear hK K
        refine norm_ (a' := ?_) ?_ ?_
        rotate_left
        ·show Act.put _ (some 32) _ = _
         simp only [Act.put, sqA, sqB, sqC, i64_w, i32_w]
         rfl
        refine one_ (i := 8) (N := some 33) T77836_9 rfl rfl (one_of HT_.out (by kernel_rfl)) (by decide) (fun K hK => ?_)
        refine goes_ Try.func19 (by kernel_rfl) rfl #[.slice Ao33 t579.length co33, .slice Ao34 t582.length co34] (by rfl) rfl rfl (by (try simp only [List.map_toArray, List.map_cons, List.map_nil]); first | done | rfl | (simp only [List.length_drop, List.length_take]; rfl)) ?_
        with_reducible refine (tillerref03_Dot.calls k2 _ _ t579 _ _ t582 t585 _ ?side1 ?side2 ?side3 ?side4 A24.out).mono ?_
        (case side1 => repeat (first | exact (Kd.R_reads' HO581.out).2.2 | (with_reducible refine Kd.C_alloc ?_ _) | (with_reducible refine Kd.C_drewN ?_ _) | (with_reducible refine Kd.C_drew ?_)))
        (case side2 => exact (Kd.R_reads' HO581.out).2.1)
        (case side3 => repeat (first | exact (Kd.R_reads' HO584.out).2.2 | (with_reducible refine Kd.C_alloc ?_ _) | (with_reducible refine Kd.C_drewN ?_ _) | (with_reducible refine Kd.C_drew ?_)))
        (case side4 => exact (Kd.R_reads' HO584.out).2.1)
        rintro e w' ⟨rfl, ⟨nd, rfl⟩⟩
        refine ⟨_, rfl, ?_⟩
        refine hK.out _ _ ⟨(blk_cell BK578.out 0).trans rfl, (blk_cell BK578.out 1).trans rfl, (blk_cell BK578.out 2).trans rfl, (blk_cell BK575.out 0).trans rfl, (blk_cell BK575.out 1).trans rfl, (blk_cell BK575.out 2).trans rfl, (blk_cell BK576.out 0).trans rfl, (blk_cell BK576.out 1).trans rfl, (blk_cell BK576.out 2).trans rfl⟩ (fun hHeld => ?_)
        clear hK K
        refine norm_ (a' := ?_) ?_ ?_
        rotate_left
        ·show Act.put _ (some 33) _ = _
         simp only [Act.put, sqA, sqB, sqC, i64_w, i32_w]
         rfl
        refine one_ (i := 9) (N := some 34) T77836_10 rfl rfl (one_of HT_.out (by kernel_rfl)) (by decide) (fun K hK => ?_)
        refine value_ (w1 := ?_) (v := ?_) (by rfl) rfl ?_ ?_
        rotate_left 2
        ·go_simp
         constructor
         ·rfl
         ·rfl
        refine hK.out _ _ ⟨(blk_cell (blk_alloc BK578.out _) 0).trans rfl, (blk_cell (blk_alloc BK578.out _) 1).trans rfl, (blk_cell (blk_alloc BK578.out _) 2).trans rfl, (blk_cell (blk_alloc BK575.out _) 0).trans rfl, (blk_cell (blk_alloc BK575.out _) 1).trans rfl, (blk_cell (blk_alloc BK575.out _) 2).trans rfl, (blk_cell (blk_alloc BK576.out _) 0).trans rfl, (blk_cell (blk_alloc BK576.out _) 1).trans rfl, (blk_cell (blk_alloc BK576.out _) 2).trans rfl⟩ (fun hHeld => ?_)
        clear hK K
        refine norm_ (a' := ?_) ?_ ?_
        rotate_left
        ·show Act.put _ (some 34) _ = _
         simp only [Act.put, sqA, sqB, sqC, i64_w, i32_w]
         rfl
        refine one_ (i := 10) (N := some 35) T77836_11 rfl rfl (one_of HT_.out (by kernel_rfl)) (by decide) (fun K hK => ?_)
        refine Kd.R_append_step (Kd.int .i32) (w0 := w) w.heap.size (by rfl) (.tmp 26) (.tmp 34) 22 24 (.int .i32 0) 4 rfl Try.underlying22 info24 rfl (by decide) (by omega) u579002 x579002_2 t585 [.int .i32 t585] (fun k_ => some k_ ≠ (.slice Ao33 t579.length co33 : Value).ownBlock ∧ some k_ ≠ (.slice Ao34 t582.length co34 : Value).ownBlock) (fun _ => False) rfl rfl ?aP (fun _ hk => hk.elim) ?aF ?aO ?aB ?aS ?aL ?_
        (case aP => exact rfl)
        (case aB => exact (by repeat (first | (with_reducible first | exact HB.out | apply bwA | apply bwN | apply bwD | refine below_set ?_ GE575.out | refine below_set ?_ GE576.out | refine below_set ?_ GE577.out | refine below_set ?_ GE578.out) | exact HB.out)))
        (case aF => exact (fun k_ hk => ⟨Kd.fresh' (Kd.R_lt (by (with_reducible repeat (first | apply rwA | apply rwN | apply rwD)); exact HO581.out)) k_ hk, Kd.fresh' (Kd.R_lt (by (with_reducible repeat (first | apply rwA | apply rwN | apply rwD)); exact HO584.out)) k_ hk⟩))
        (case aO => exact (by (with_reducible repeat (first | apply rwA | apply rwN | apply rwD)); exact Kd.R_mono HO_579002.out (fun _ hk => ⟨hk.1.2, hk.2⟩)))
        (case aS => exact (below_size (by repeat (first | (with_reducible first | exact HB.out | apply bwA | apply bwN | apply bwD | refine below_set ?_ GE575.out | refine below_set ?_ GE576.out | refine below_set ?_ GE577.out | refine below_set ?_ GE578.out) | exact HB.out))))
        (case aL => have := LMc25.out; omega)
        intro v587 w35 ho hb hg hat
        rw [← Ny586.out] at ho
        have n0_ := Aside0.mk (blk_grown (g := gb575) (o := .cells #[.int .i64 a0_0, .int .i64 a0_1, .slice A0_2 l0_2.length c0_2] 46 (0, 0)) (by (with_reducible repeat (first | apply bkN | apply bkD | apply bkA)); exact BK575.out) hg (Kd.R_ne HO_579002.out BK575.out (by decide)))
        have n1_ := Aside0.mk (blk_grown (g := gb576) (o := .cells #[.int .i64 a1_0, .int .i64 a1_1, .slice A1_2 l1_2.length c1_2] 46 (0, 0)) (by (with_reducible repeat (first | apply bkN | apply bkD | apply bkA)); exact BK576.out) hg (Kd.R_ne HO_579002.out BK576.out (by decide)))
        have n2_ := Aside0.mk (blk_grown (g := gb577) (o := .cells #[.int .i64 0, .int .i64 0, .slice none 0 0] 46 (0, 0)) (by (with_reducible repeat (first | apply bkN | apply bkD | apply bkA)); exact BK577.out) hg (Kd.R_ne HO_579002.out BK577.out (by decide)))
        have n3_ := Aside0.mk (blk_grown (g := gb578) (o := .cells #[.int .i64 a0_0, .int .i64 a1_1, u579002] 46 (0, 0)) (by (with_reducible repeat (first | apply bkN | apply bkD | apply bkA)); exact BK578.out) hg (Kd.R_ne HO_579002.out BK578.out (by decide)))
        have n4_ := Aside0.mk (Kd.R_after (ok := (fun k_ => some k_ ≠ (.slice Ao34 t582.length co34 : Value).ownBlock)) (by (with_reducible repeat (first | apply rwA | apply rwN | apply rwD)); exact Kd.R_mono HO581.out (fun _ hk => ⟨hk.2, hk.1.2⟩)) hg hat)
        have n5_ := Aside0.mk (Kd.R_after (ok := (fun k_ => some k_ ≠ (.slice Ao33 t579.length co33 : Value).ownBlock)) (by (with_reducible repeat (first | apply rwA | apply rwN | apply rwD)); exact Kd.R_mono HO584.out (fun _ hk => ⟨hk.2, hk.1.2⟩)) hg hat)
        have n6_ := Aside0.mk (hb)
        have n7_ := Aside0.mk (ho)
        clear BK575
        clear BK576
        clear BK577
        clear BK578
        clear HO581
        clear HO584
        clear HB
        clear HO_579002
        have BK575 := n0_
        have BK576 := n1_
        have BK577 := n2_
        have BK578 := n3_
        have HO581 := n4_
        have HO584 := n5_
        have HB := n6_
        have HO588 := n7_
        clear n0_ n1_ n2_ n3_ n4_ n5_ n6_ n7_
        clear ho hb hg hat
        obtain ⟨Ao36, co36, eo36⟩ := Kd.R_slice HO588.out
        (first | subst eo36 | (injection eo36 with f1_ f2_ f3_; have f4_ := f1_.symm; have f5_ := f3_.symm; clear f1_ f2_ f3_; subst f4_; subst f5_))
        refine hK.out _ _ ⟨(blk_cell BK578.out 0).trans rfl, (blk_cell BK578.out 1).trans rfl, (blk_cell BK578.out 2).trans rfl, (blk_cell BK575.out 0).trans rfl, (blk_cell BK575.out 1).trans rfl, (blk_cell BK575.out 2).trans rfl, (blk_cell BK576.out 0).trans rfl, (blk_cell BK576.out 1).trans rfl, (blk_cell BK576.out 2).trans rfl⟩ (fun hHeld => ?_)
        clear hK K
        refine norm_ (a' := ?_) ?_ ?_
        rotate_left
        ·show Act.put _ (some 35) _ = _
         simp only [Act.put, sqA, sqB, sqC, i64_w, i32_w]
         rfl
        refine pure_ (i := 11) (N := some 36) (v := ?_) (a' := ?_) T77836_12 rfl rfl (any_of HT_.out (by kernel_rfl)) idq (.inl ⟨by rfl, ?_⟩) ?_ ?_
        rotate_left; ·intro w'; go_simp; with_reducible rfl
        rotate_left; ·simp only [Act.put, sqA, sqB, sqC, i64_w, i32_w]; rfl
        refine last_ (i := 12) (N := none) T77836_13 rfl rfl (one_of HT_.out (by kernel_rfl)) (by decide) (fun K hK => ?_)
        have hs37 : w35.cell? ⟨gb578, 2, none⟩ = some (u579002) := (blk_cell BK578.out 2).trans rfl
        have hfs37 := blk_frozen BK578.out 2
        have hns37_0 := NB575_578.out
        have hns37_1 := NB576_578.out
        have hns37_2 := NB577_578.out
        have hms37_0 := NB578_575.out
        have hms37_1 := NB578_576.out
        have hms37_2 := NB578_577.out
        refine skip_ (w1 := ?_) (by rfl) rfl ?_ ?_
        rotate_left; ·go_simp; rfl
        refine hK.out _ _ ?_
        clear hK K
        refine done_ (done_of HT_.out (by kernel_rfl)) ?_
        try go_wp2
        go_roundg k2
        case measure => have := HK1.out; have := HK2.out; omega
        case rel => exact ⟨(wrap64 (x7_2 + 1)), (y586), (.slice Ao36 y586.length co36), (by first | rfl | (simp; done) | (simp [*]; done)), H', ⟨by have := HK1.out; have := HK2.out; omega⟩, ⟨by (with_reducible repeat (first | apply rwA | apply rwN | apply rwD)); exact Kd.R_mono (Kd.R_far (p := ⟨gb578, 2, none⟩) (Kd.R_types HO588.out BK578.out (by decide)) (fun _ hk => hk.2) (.slice Ao36 y586.length co36)) (fun _ hk => trivial)⟩, ⟨by (with_reducible repeat (first | apply bkN | apply bkD | apply bkA)); refine blk_far ?_ NB575_578.out _; (with_reducible repeat (first | apply bkN | apply bkD | apply bkA)); exact BK575.out⟩, ⟨by (with_reducible repeat (first | apply bkN | apply bkD | apply bkA)); refine blk_far ?_ NB576_578.out _; (with_reducible repeat (first | apply bkN | apply bkD | apply bkA)); exact BK576.out⟩, ⟨by (with_reducible repeat (first | apply bkN | apply bkD | apply bkA)); refine blk_far ?_ NB577_578.out _; (with_reducible repeat (first | apply bkN | apply bkD | apply bkA)); exact BK577.out⟩, ⟨by (with_reducible repeat (first | apply bkN | apply bkD | apply bkA)); refine blk_put (cs := #[.int .i64 a0_0, .int .i64 a1_1, u579002]) ?_ 2 _ rfl; (with_reducible repeat (first | apply bkN | apply bkD | apply bkA)); exact BK578.out⟩, ⟨by repeat (first | (with_reducible first | exact HB.out | apply bwA | apply bwN | apply bwD | refine below_set ?_ GE575.out | refine below_set ?_ GE576.out | refine below_set ?_ GE577.out | refine below_set ?_ GE578.out) | exact HB.out)⟩⟩
       ·rw [if_neg c25] at H
        exact absurd H (by simp)
      ·rw [if_neg c21] at H
       have c21b0 : decide (x7_2 < a1_1) = false := decide_eq_false c21
       clear c21
       have H' := Aside0.mk H
       clear H
       have hnb38 := NB576_575.out
       have hnc38 := NB575_576.out
       have hnb39 := NB576_577.out
       have hnc39 := NB577_576.out
       have hnb40 := NB576_578.out
       have hnc40 := NB578_576.out
       have hcz41_0 : wr.cell? ⟨gb576, 0, none⟩ = some (.int .i64 a1_0) := (blk_cell BK576.out 0).trans rfl
       have hcz41_1 : wr.cell? ⟨gb576, 1, none⟩ = some (.int .i64 a1_1) := (blk_cell BK576.out 1).trans rfl
       have hcz41_2 : wr.cell? ⟨gb576, 2, none⟩ = some (.slice A1_2 l1_2.length c1_2) := (blk_cell BK576.out 2).trans rfl
       have hfz41_0 := blk_frozen BK576.out 0
       have hfz41_1 := blk_frozen BK576.out 1
       have hfz41_2 := blk_frozen BK576.out 2
       go_wp2
       go_roundg k2
       case measure => have := HK1.out; have := HK2.out; omega
       case rel => exact ⟨(wrap64 (x6_1 + 1)), (x579002_2), (u579002), (by first | rfl | (simp; done) | (simp [*]; done)), H', ⟨by have := HK1.out; have := HK2.out; omega⟩, ⟨by (with_reducible repeat (first | apply rwA | apply rwN | apply rwD)); exact HO_579002.out⟩, ⟨by (with_reducible repeat (first | apply bkN | apply bkD | apply bkA)); exact BK575.out⟩, ⟨by (with_reducible repeat (first | apply bkN | apply bkD | apply bkA)); exact BK576.out⟩, ⟨by (with_reducible repeat (first | apply bkN | apply bkD | apply bkA)); exact BK577.out⟩, ⟨by (with_reducible repeat (first | apply bkN | apply bkD | apply bkA)); exact BK578.out⟩, ⟨by repeat (first | (with_reducible first | exact HB.out | apply bwA | apply bwN | apply bwD | refine below_set ?_ GE575.out | refine below_set ?_ GE576.out | refine below_set ?_ GE577.out | refine below_set ?_ GE578.out) | exact HB.out)⟩⟩
   ·rw [if_neg c16] at H
    have c16b0 : decide (x6_1 < a0_0) = false := decide_eq_false c16
    clear c16
    simp only [Option.some.injEq, Prod.mk.injEq] at H
    obtain ⟨rfl, rfl, rfl⟩ := H
    have hnb42 := NB575_576.out
    have hnc42 := NB576_575.out
    have hnb43 := NB575_577.out
    have hnc43 := NB577_575.out
    have hnb44 := NB575_578.out
    have hnc44 := NB578_575.out
    have hcz45_0 : wr.cell? ⟨gb575, 0, none⟩ = some (.int .i64 a0_0) := (blk_cell BK575.out 0).trans rfl
    have hcz45_1 : wr.cell? ⟨gb575, 1, none⟩ = some (.int .i64 a0_1) := (blk_cell BK575.out 1).trans rfl
    have hcz45_2 : wr.cell? ⟨gb575, 2, none⟩ = some (.slice A0_2 l0_2.length c0_2) := (blk_cell BK575.out 2).trans rfl
    have hfz45_0 := blk_frozen BK575.out 0
    have hfz45_1 := blk_frozen BK575.out 1
    have hfz45_2 := blk_frozen BK575.out 2
    have hnb46 := NB578_576.out
    have hnc46 := NB576_578.out
    have hnb47 := NB578_577.out
    have hnc47 := NB577_578.out
    have hcz48_0 : wr.cell? ⟨gb578, 0, none⟩ = some (.int .i64 a0_0) := (blk_cell BK578.out 0).trans rfl
    have hcz48_1 : wr.cell? ⟨gb578, 1, none⟩ = some (.int .i64 a1_1) := (blk_cell BK578.out 1).trans rfl
    have hcz48_2 : wr.cell? ⟨gb578, 2, none⟩ = some (u579002) := (blk_cell BK578.out 2).trans rfl
    have hfz48_0 := blk_frozen BK578.out 0
    have hfz48_1 := blk_frozen BK578.out 1
    have hfz48_2 := blk_frozen BK578.out 2
    have hnb49 := NB577_576.out
    have hnc49 := NB576_577.out
    have hcz50_0 : wr.cell? ⟨gb577, 0, none⟩ = some (.int .i64 0) := (blk_cell BK577.out 0).trans rfl
    have hcz50_1 : wr.cell? ⟨gb577, 1, none⟩ = some (.int .i64 0) := (blk_cell BK577.out 1).trans rfl
    have hcz50_2 : wr.cell? ⟨gb577, 2, none⟩ = some (.slice none 0 0) := (blk_cell BK577.out 2).trans rfl
    have hfz50_0 := blk_frozen BK577.out 0
    have hfz50_1 := blk_frozen BK577.out 1
    have hfz50_2 := blk_frozen BK577.out 2
    obtain ⟨Ao51, co51, eo51⟩ := Kd.R_slice HO_579002.out
    subst eo51
    go_wp2
    refine bodyPost_ret (results_cell_row rfl _ _ gb577 46 #[.int .i64 a0_0, .int .i64 a1_1, .slice Ao51 x579002_1.length co51] (0, 0) _ rfl (by (with_reducible repeat (first | apply bkN | apply bkD | apply bkA)); refine blk_put (cs := #[.int .i64 a0_0, .int .i64 a1_1, .slice none 0 0]) ?_ 2 _ rfl; (with_reducible repeat (first | apply bkN | apply bkD | apply bkA)); refine blk_put (cs := #[.int .i64 a0_0, .int .i64 0, .slice none 0 0]) ?_ 1 _ rfl; (with_reducible repeat (first | apply bkN | apply bkD | apply bkA)); refine blk_put (cs := #[.int .i64 0, .int .i64 0, .slice none 0 0]) ?_ 0 _ rfl; (with_reducible repeat (first | apply bkN | apply bkD | apply bkA)); exact BK577.out) Try.underlying46 rfl (by kernel_rfl)) rfl ?_
    exact ⟨_, by first | rfl | (simp [errW_none, errW_some] <;> rfl) | (simp [*, errW_none, errW_some] <;> rfl), by (with_reducible repeat (first | apply rwA | apply rwN | apply rwD)); exact Kd.R_mono (Kd.R_far (p := ⟨gb577, 2, none⟩) (Kd.R_far (p := ⟨gb577, 1, none⟩) (Kd.R_far (p := ⟨gb577, 0, none⟩) (Kd.R_types HO_579002.out BK577.out (by decide)) (fun _ hk => hk.2) (.int .i64 a0_0)) (fun _ hk => hk.2) (.int .i64 a1_1)) (fun _ hk => hk.2) (.slice Ao51 x579002_1.length co51)) (fun _ hk => trivial), by repeat (first | (with_reducible first | exact HB.out | apply bwA | apply bwN | apply bwD | refine below_set ?_ GE575.out | refine below_set ?_ GE576.out | refine below_set ?_ GE577.out | refine below_set ?_ GE578.out) | exact HB.out)⟩

end Go.Proofs.Ytefimleoffaggaa.GQ
