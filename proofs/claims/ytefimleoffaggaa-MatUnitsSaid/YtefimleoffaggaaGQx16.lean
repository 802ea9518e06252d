-- written by this session's program gprint.py
import Derived.Test.YtefimleoffaggaaGQx0
import Derived.Test.YtefimleoffaggaaGQx15
import Derived.Test.YtefimleoffaggaaWApart
import Derived.Test.YtefimleoffaggaaWLast
import Derived.Test.YtefimleoffaggaaWMore
import Derived.Test.YtefimleoffaggaaWN
import Derived.Test.YtefimleoffaggaaWTab
import Derived.Test.YtefimleoffaggaaWWords
namespace Go.Proofs.Ytefimleoffaggaa.GQ
open Go.RowKit Go.Proofs.YtefimleoffaggaaW.PrintWords Go.Proofs.YtefimleoffaggaaW.PrintLast Go.Proofs.YtefimleoffaggaaW.PrintMore
attribute [local go_sem] max2_int min2_int max_two min_two max_three min_three max_four min_four   -- for this text's walks alone
set_option linter.unusedVariables false
set_option linter.unusedSimpArgs false
abbrev T19340_0 : Array Bool := #[false, false, false, false, false, false, false, false, false, false, false, false, false, false, false, false]
abbrev T19340_1 : Array Bool := #[true, false, false, false, false, false, false, false, false, false, false, false, false, false, false, false]
abbrev T19340_2 : Array Bool := #[true, false, true, false, false, false, false, false, false, false, false, false, false, false, false, false]
abbrev T19340_3 : Array Bool := #[true, false, true, false, true, false, false, false, false, false, false, false, false, false, false, false]
abbrev T19340_4 : Array Bool := #[true, false, true, false, true, true, false, false, false, false, false, false, false, false, false, false]
abbrev T19340_5 : Array Bool := #[true, false, true, false, true, true, false, false, true, false, false, false, false, false, false, false]
abbrev T19340_6 : Array Bool := #[true, true, true, false, true, true, false, false, true, false, false, false, false, false, false, false]
abbrev T19340_7 : Array Bool := #[true, true, true, true, true, true, false, false, true, false, false, false, false, false, false, false]
abbrev T19340_8 : Array Bool := #[true, true, true, true, true, true, true, false, true, false, false, false, false, false, false, false]
abbrev T19340_9 : Array Bool := #[true, true, true, true, true, true, true, true, true, false, false, false, false, false, false, false]
abbrev T19340_10 : Array Bool := #[true, true, true, true, true, true, true, true, true, true, false, false, false, false, false, false]
abbrev T19340_11 : Array Bool := #[true, true, true, true, true, true, true, true, true, true, true, false, false, false, false, false]
abbrev T19340_12 : Array Bool := #[true, true, true, true, true, true, true, true, true, true, true, true, false, false, false, false]
abbrev T19340_13 : Array Bool := #[true, true, true, true, true, true, true, true, true, true, true, true, true, false, false, false]
abbrev T19340_14 : Array Bool := #[true, true, true, true, true, true, true, true, true, true, true, true, true, true, false, false]
abbrev T19340_15 : Array Bool := #[true, true, true, true, true, true, true, true, true, true, true, true, true, true, true, false]
abbrev T19340_16 : Array Bool := #[true, true, true, true, true, true, true, true, true, true, true, true, true, true, true, true]

/-! ### mat_Turn: function 32 -/
mutual
def mat_Turn.l0 : Nat → Int → Int → Int → Int → List Int → Int → Int → List Int → Option (Int × Int × List Int × Int)
 | 0, _, _, _, _, _, _, _, _ => none
 | k + 1, x20, x21, x318000, x318001, x318002, x321000, x321001, x321002 => if x21 < x20 then (mat_Turn.l1 k x21 x20 x21 x318000 0 x318000 x318001 x318002 x321000 x321001 x321002) else (some (x321000, x321001, x321002, 0))
def mat_Turn.l1 : Nat → Int → Int → Int → Int → Int → Int → Int → List Int → Int → Int → List Int → Option (Int × Int × List Int × Int)
 | 0, _, _, _, _, _, _, _, _, _, _, _ => none
 | k + 1, x6, x20, x21, x25, x26, x318000, x318001, x318002, x321000, x321001, x321002 => if x26 < x25 then (if 0 ≤ (wrap64 ((wrap64 (x26 * x318001)) + x6)) then (if (wrap64 ((wrap64 (x26 * x318001)) + x6)) < (x318002.length : Int) then (if x321002.length < 35184372088832 then (mat_Turn.l1 k x6 x20 x21 x25 (wrap64 (x26 + 1)) x318000 x318001 x318002 x321000 x321001 (x321002 ++ [rd x318002 (wrap64 ((wrap64 (x26 * x318001)) + x6))])) else (none)) else (none)) else (none)) else (mat_Turn.l0 k x20 (wrap64 (x21 + 1)) x318000 x318001 x318002 x321000 x321001 x321002)
end
def mat_Turn.f (k : Nat) (a0_0 : Int) (a0_1 : Int) (l0_2 : List Int) : Option (Int × Int × List Int × Int) := (mat_Check.f k a0_0 a0_1 l0_2).bind fun t319 => (if t319 = 0 then (mat_Turn.l0 k a0_1 0 a0_0 a0_1 l0_2 a0_1 a0_0 ([] : List Int)) else (some (0, 0, ([] : List Int), t319)))
theorem mat_Turn.mono_l : ∀ k, (∀ y0 y1 y2 y3 y4 y5 y6 y7, LeO (mat_Turn.l0 k y0 y1 y2 y3 y4 y5 y6 y7) (mat_Turn.l0 (k + 1) y0 y1 y2 y3 y4 y5 y6 y7)) ∧ (∀ y0 y1 y2 y3 y4 y5 y6 y7 y8 y9 y10, LeO (mat_Turn.l1 k y0 y1 y2 y3 y4 y5 y6 y7 y8 y9 y10) (mat_Turn.l1 (k + 1) y0 y1 y2 y3 y4 y5 y6 y7 y8 y9 y10))
 | 0 => ⟨fun _ _ _ _ _ _ _ _ r h => by simp [mat_Turn.l0] at h, fun _ _ _ _ _ _ _ _ _ _ _ r h => by simp [mat_Turn.l1] at h⟩
 | k + 1 => by
  obtain ⟨ih0, ih1⟩ := mat_Turn.mono_l k
  refine ⟨?_, ?_⟩
  ·intro y0 y1 y2 y3 y4 y5 y6 y7
   unfold mat_Turn.l0
   repeat' first
   | (with_reducible exact ih0 _ _ _ _ _ _ _ _)
   | (with_reducible exact ih1 _ _ _ _ _ _ _ _ _ _ _)
   | (with_reducible exact mat_Check.mono _ _ _ _)
   | (with_reducible exact LeO.refl _)
   | (with_reducible exact LeO.none _)
   | (with_reducible refine LeO.ite ?_ ?_)
   | (with_reducible refine LeO.bind ?_ (fun _ => ?_))
   | exact ih0 _ _ _ _ _ _ _ _
   | exact ih1 _ _ _ _ _ _ _ _ _ _ _
   | exact mat_Check.mono _ _ _ _
   | exact LeO.none _
   | refine LeO.ite ?_ ?_
   | refine LeO.bind ?_ (fun _ => ?_)
  ·intro y0 y1 y2 y3 y4 y5 y6 y7 y8 y9 y10
   unfold mat_Turn.l1
   repeat' first
   | (with_reducible exact ih0 _ _ _ _ _ _ _ _)
   | (with_reducible exact ih1 _ _ _ _ _ _ _ _ _ _ _)
   | (with_reducible exact mat_Check.mono _ _ _ _)
   | (with_reducible exact LeO.refl _)
   | (with_reducible exact LeO.none _)
   | (with_reducible refine LeO.ite ?_ ?_)
   | (with_reducible refine LeO.bind ?_ (fun _ => ?_))
   | exact ih0 _ _ _ _ _ _ _ _
   | exact ih1 _ _ _ _ _ _ _ _ _ _ _
   | exact mat_Check.mono _ _ _ _
   | exact LeO.none _
   | refine LeO.ite ?_ ?_
   | refine LeO.bind ?_ (fun _ => ?_)
theorem mat_Turn.mono : ∀ a0 a1 a2 k, LeO (mat_Turn.f k a0 a1 a2) (mat_Turn.f (k + 1) a0 a1 a2) := by
 intro a0 a1 a2 k
 obtain ⟨ih0, ih1⟩ := mat_Turn.mono_l k
 unfold mat_Turn.f
 repeat' first
   | (with_reducible exact ih0 _ _ _ _ _ _ _ _)
   | (with_reducible exact ih1 _ _ _ _ _ _ _ _ _ _ _)
   | (with_reducible exact mat_Check.mono _ _ _ _)
   | (with_reducible exact LeO.refl _)
   | (with_reducible exact LeO.none _)
   | (with_reducible refine LeO.ite ?_ ?_)
   | (with_reducible refine LeO.bind ?_ (fun _ => ?_))
   | exact ih0 _ _ _ _ _ _ _ _
   | exact ih1 _ _ _ _ _ _ _ _ _ _ _
   | exact mat_Check.mono _ _ _ _
   | exact LeO.none _
   | refine LeO.ite ?_ ?_
   | refine LeO.bind ?_ (fun _ => ?_)
def mat_Turn.T11 : Bool × List (List Nat × List Nat) := (true, [([], []), ([0], [0]), ([], []), ([2], [2]), ([], []), ([], []), ([5], [5]), ([4, 6], [4, 6]), ([], []), ([7, 8], [7, 8]), ([3, 9], [3, 9]), ([10], [10]), ([11], [11]), ([1, 12], [1, 12]), ([0, 1, 2, 3, 4, 5, 6, 7, 8, 9, 10, 11, 12, 13], []), ([14, 13, 13, 0, 1, 2, 3, 4, 5, 6, 7, 8, 9, 10, 11, 12, 13], [13, 14])])
def mat_Turn.B11 : List Nat := [0, 1, 0, 4, 0, 0, 32, 112, 0, 496, 1020, 2044, 4092, 8191, 16383, 32767]
theorem mat_Turn.tab11 : rtab .any (opsOf Try.f32 11) = mat_Turn.T11 := by kernel_rfl
theorem mat_Turn.bits11 : waitsOk mat_Turn.T11.2 mat_Turn.B11 = true := by kernel_rfl
set_option maxHeartbeats 8000000 in
set_option maxRecDepth 100000 in
theorem mat_Turn.calls (k : Nat) (a0_0 : Int) (a0_1 : Int) (A0_2 : Option Addr) (c0_2 : Nat) (l0_2 : List Int) (r1 : Int) (r2 : Int) (r3 : List Int) (r4 : Int) (w : World) (hr0_2 : Kd.C (Kd.int .i32) w A0_2 l0_2.length l0_2) (hc0_2 : l0_2.length ≤ c0_2) (h : mat_Turn.f k a0_0 a0_1 l0_2 = some (r1, r2, r3, r4)) :
  Calls Try.prog 32 #[.agg #[.int .i64 a0_0, .int .i64 a0_1, .slice A0_2 l0_2.length c0_2]] w fun e w' => ∃ v2_ : Value, e = .returned (.tuple #[.agg #[.int .i64 r1, .int .i64 r2, v2_], .int .i64 r4]) ∧ Kd.R (Kd.int .i32) 24 w' w.heap.size (fun _ => True) v2_ r3 ∧ Below w.heap.size w w' := by
 have hu46 := Try.underlying46
 have HR0_2 := Aside0.mk hr0_2
 have HC0_2 := Aside0.mk hc0_2
 clear hr0_2 hc0_2
 have HB := Aside0.mk (Below.refl w.heap.size w)
 have H : ((mat_Check.f k a0_0 a0_1 l0_2).bind fun t319 => (if t319 = 0 then (mat_Turn.l0 k a0_1 0 a0_0 a0_1 l0_2 a0_1 a0_0 ([] : List Int)) else (some (0, 0, ([] : List Int), t319)))) = some (r1, r2, r3, r4) := h
 clear h
 replace H := Option.bind_eq_some_iff.mp H
 obtain ⟨t319, A20, H⟩ := H
 replace H : (if t319 = 0 then (mat_Turn.l0 k a0_1 0 a0_0 a0_1 l0_2 a0_1 a0_0 ([] : List Int)) else (some (0, 0, ([] : List Int), t319))) = some (r1, r2, r3, r4) := H
 have A2 := Aside0.mk A20
 clear A20
 by_cases c3 : t319 = 0
 ·rw [if_pos c3] at H
  have c3b0 : (t319 == 0) = true := beq_iff_eq.mpr c3
  have c3b1 : (t319 != 0) = false := bne_eq_false_iff_eq.mpr c3
  clear c3
  have H' := Aside0.mk H
  clear H
  go_enter Try.func32, Try.ntmps32
  go_wp2_with (first | ((with_reducible refine gate_dst (N := 1) rfl ?_); refine box_event ?hg (N := 1) ?hd (cs := #[.int .i64 a0_0, .int .i64 a0_1, .slice A0_2 l0_2.length c0_2]) (t := 46) ?hr ?_; (case hd => rfl); (case hg => rfl); (case hr => first | (go_simp; done) | (go_simp; rfl)); intro gb317 hg w4 hbox hb; have n0_ := Aside0.mk (below_step (by repeat (first | (with_reducible first | exact HB.out | apply bwA | apply bwN | apply bwD) | exact HB.out)) hb); have n1_ := Aside0.mk (hbox); have n2_ := Aside0.mk ((by rw [hg]; exact (below_size (by repeat (first | (with_reducible first | exact HB.out | apply bwA | apply bwN | apply bwD) | exact HB.out))) : w.heap.size ≤ gb317)); have n3_ := Aside0.mk ((by rw [hg]; exact (below_size (by repeat (first | (with_reducible first | exact HB.out | apply bwA | apply bwN | apply bwD) | exact HB.out))) : w.heap.size ≤ gb317)); clear HB; have HB := n0_; have BK317 := n1_; have GW317 := n2_; have GE317 := n3_; clear n0_ n1_ n2_ n3_; clear hb hbox hg) | ((with_reducible refine gate_dst (N := 2) rfl ?_); refine box_event ?hg (N := 2) ?hd (cs := #[.int .i64 0, .int .i64 0, .slice none 0 0]) (t := 46) ?hr ?_; (case hd => rfl); (case hg => rfl); (case hr => first | (go_simp; done) | (go_simp; rfl)); intro gb318 hg w5 hbox hb; have n0_ := Aside0.mk (blk_below (g := gb317) (o := .cells #[.int .i64 a0_0, .int .i64 a0_1, .slice A0_2 l0_2.length c0_2] 46 (0, 0)) (by (with_reducible repeat (first | apply bkN | apply bkD | apply bkA)); exact BK317.out) hb); have n1_ := Aside0.mk (below_step (by repeat (first | (with_reducible first | exact HB.out | apply bwA | apply bwN | apply bwD | refine below_set ?_ GE317.out) | exact HB.out)) hb); have n2_ := Aside0.mk (hbox); have n3_ := Aside0.mk ((by rw [hg]; exact (below_size (by repeat (first | (with_reducible first | exact HB.out | apply bwA | apply bwN | apply bwD | refine below_set ?_ GE317.out) | exact HB.out))) : w.heap.size ≤ gb318)); have n4_ := Aside0.mk ((by rw [hg]; exact (below_size (by repeat (first | (with_reducible first | exact HB.out | apply bwA | apply bwN | apply bwD | refine below_set ?_ GE317.out) | exact HB.out))) : w.heap.size ≤ gb318)); have n5_ := Aside0.mk ((by rw [hg]; exact Nat.ne_of_lt (blk_lt (g := gb317) (o := .cells #[.int .i64 a0_0, .int .i64 a0_1, .slice A0_2 l0_2.length c0_2] 46 (0, 0)) (by (with_reducible repeat (first | apply bkN | apply bkD | apply bkA)); exact BK317.out)) : gb317 ≠ gb318)); have n6_ := Aside0.mk ((by rw [hg]; exact Nat.ne_of_gt (blk_lt (g := gb317) (o := .cells #[.int .i64 a0_0, .int .i64 a0_1, .slice A0_2 l0_2.length c0_2] 46 (0, 0)) (by (with_reducible repeat (first | apply bkN | apply bkD | apply bkA)); exact BK317.out)) : gb318 ≠ gb317)); clear BK317; clear HB; have BK317 := n0_; have HB := n1_; have BK318 := n2_; have GW318 := n3_; have GE318 := n4_; have NB317_318 := n5_; have NB318_317 := n6_; clear n0_ n1_ n2_ n3_ n4_ n5_ n6_; clear hb hbox hg; have hnb6 := NB317_318.out; have hnc6 := NB318_317.out; have hcz7_0 : w5.cell? ⟨gb317, 0, none⟩ = some (.int .i64 a0_0) := (blk_cell BK317.out 0).trans rfl; have hcz7_1 : w5.cell? ⟨gb317, 1, none⟩ = some (.int .i64 a0_1) := (blk_cell BK317.out 1).trans rfl; have hcz7_2 : w5.cell? ⟨gb317, 2, none⟩ = some (.slice A0_2 l0_2.length c0_2) := (blk_cell BK317.out 2).trans rfl; have hfz7_0 := blk_frozen BK317.out 0; have hfz7_1 := blk_frozen BK317.out 1; have hfz7_2 := blk_frozen BK317.out 2) | ((with_reducible refine gate_callee (f := 35) rfl ?_); refine goesL_ (some 9) rfl rfl Try.func35 (by kernel_rfl) rfl #[.agg #[.int .i64 a0_0, .int .i64 a0_1, .slice A0_2 l0_2.length c0_2]] rfl (by (try simp only [List.map_toArray, List.map_cons, List.map_nil]); first | done | rfl | (simp only [List.length_drop, List.length_take]; rfl)) ?_; (with_reducible refine (mat_Check.calls k a0_0 a0_1 _ _ l0_2 t319 _ ?side1 ?side2 A2.out).mono ?_); (case side1 => repeat (first | exact (Kd.C_below HR0_2.out HB.out) | (with_reducible refine Kd.C_alloc ?_ _) | (with_reducible refine Kd.C_drewN ?_ _) | (with_reducible refine Kd.C_drew ?_))); (case side2 => exact HC0_2.out); rintro e w8 ⟨rfl, hb⟩; refine ⟨_, rfl, ?_⟩; have n0_ := Aside0.mk (blk_below (g := gb317) (o := .cells #[.int .i64 a0_0, .int .i64 a0_1, .slice A0_2 l0_2.length c0_2] 46 (0, 0)) (by (with_reducible repeat (first | apply bkN | apply bkD | apply bkA)); exact BK317.out) hb); have n1_ := Aside0.mk (blk_below (g := gb318) (o := .cells #[.int .i64 0, .int .i64 0, .slice none 0 0] 46 (0, 0)) (by (with_reducible repeat (first | apply bkN | apply bkD | apply bkA)); exact BK318.out) hb); have n2_ := Aside0.mk (below_step (by repeat (first | (with_reducible first | exact HB.out | apply bwA | apply bwN | apply bwD | refine below_set ?_ GE317.out | refine below_set ?_ GE318.out) | exact HB.out)) hb); clear BK317; clear BK318; clear HB; have BK317 := n0_; have BK318 := n1_; have HB := n2_; clear n0_ n1_ n2_; (try clear hb); (try clear hb2); (try clear hk); (try clear hi); have hcz9_0 : w8.cell? ⟨gb317, 0, none⟩ = some (.int .i64 a0_0) := (blk_cell BK317.out 0).trans rfl; have hcz9_1 : w8.cell? ⟨gb317, 1, none⟩ = some (.int .i64 a0_1) := (blk_cell BK317.out 1).trans rfl; have hcz9_2 : w8.cell? ⟨gb317, 2, none⟩ = some (.slice A0_2 l0_2.length c0_2) := (blk_cell BK317.out 2).trans rfl; have hfz9_0 := blk_frozen BK317.out 0; have hfz9_1 := blk_frozen BK317.out 1; have hfz9_2 := blk_frozen BK317.out 2) | ((with_reducible refine gate_dst (N := 5) rfl ?_); refine box_event ?hg (N := 5) ?hd (cs := #[.int .i64 0, .int .i64 0, .slice none 0 0]) (t := 46) ?hr ?_; (case hd => rfl); (case hg => rfl); (case hr => first | (go_simp; done) | (go_simp; rfl)); intro gb320 hg w10 hbox hb; have n0_ := Aside0.mk (blk_below (g := gb317) (o := .cells #[.int .i64 a0_0, .int .i64 a0_1, .slice A0_2 l0_2.length c0_2] 46 (0, 0)) (by (with_reducible repeat (first | apply bkN | apply bkD | apply bkA)); exact BK317.out) hb); have n1_ := Aside0.mk (blk_below (g := gb318) (o := .cells #[.int .i64 0, .int .i64 0, .slice none 0 0] 46 (0, 0)) (by (with_reducible repeat (first | apply bkN | apply bkD | apply bkA)); exact BK318.out) hb); have n2_ := Aside0.mk (below_step (by repeat (first | (with_reducible first | exact HB.out | apply bwA | apply bwN | apply bwD | refine below_set ?_ GE317.out | refine below_set ?_ GE318.out) | exact HB.out)) hb); have n3_ := Aside0.mk (hbox); have n4_ := Aside0.mk ((by rw [hg]; exact (below_size (by repeat (first | (with_reducible first | exact HB.out | apply bwA | apply bwN | apply bwD | refine below_set ?_ GE317.out | refine below_set ?_ GE318.out) | exact HB.out))) : w.heap.size ≤ gb320)); have n5_ := Aside0.mk ((by rw [hg]; exact (below_size (by repeat (first | (with_reducible first | exact HB.out | apply bwA | apply bwN | apply bwD | refine below_set ?_ GE317.out | refine below_set ?_ GE318.out) | exact HB.out))) : w.heap.size ≤ gb320)); have n6_ := Aside0.mk ((by rw [hg]; exact Nat.ne_of_lt (blk_lt (g := gb317) (o := .cells #[.int .i64 a0_0, .int .i64 a0_1, .slice A0_2 l0_2.length c0_2] 46 (0, 0)) (by (with_reducible repeat (first | apply bkN | apply bkD | apply bkA)); exact BK317.out)) : gb317 ≠ gb320)); have n7_ := Aside0.mk ((by rw [hg]; exact Nat.ne_of_gt (blk_lt (g := gb317) (o := .cells #[.int .i64 a0_0, .int .i64 a0_1, .slice A0_2 l0_2.length c0_2] 46 (0, 0)) (by (with_reducible repeat (first | apply bkN | apply bkD | apply bkA)); exact BK317.out)) : gb320 ≠ gb317)); have n8_ := Aside0.mk ((by rw [hg]; exact Nat.ne_of_lt (blk_lt (g := gb318) (o := .cells #[.int .i64 0, .int .i64 0, .slice none 0 0] 46 (0, 0)) (by (with_reducible repeat (first | apply bkN | apply bkD | apply bkA)); exact BK318.out)) : gb318 ≠ gb320)); have n9_ := Aside0.mk ((by rw [hg]; exact Nat.ne_of_gt (blk_lt (g := gb318) (o := .cells #[.int .i64 0, .int .i64 0, .slice none 0 0] 46 (0, 0)) (by (with_reducible repeat (first | apply bkN | apply bkD | apply bkA)); exact BK318.out)) : gb320 ≠ gb318)); clear BK317; clear BK318; clear HB; have BK317 := n0_; have BK318 := n1_; have HB := n2_; have BK320 := n3_; have GW320 := n4_; have GE320 := n5_; have NB317_320 := n6_; have NB320_317 := n7_; have NB318_320 := n8_; have NB320_318 := n9_; clear n0_ n1_ n2_ n3_ n4_ n5_ n6_ n7_ n8_ n9_; clear hb hbox hg; have hnb11 := NB320_317.out; have hnc11 := NB317_320.out; have hnb12 := NB320_318.out; have hnc12 := NB318_320.out; have hcz13_0 : w10.cell? ⟨gb320, 0, none⟩ = some (.int .i64 0) := (blk_cell BK320.out 0).trans rfl; have hcz13_1 : w10.cell? ⟨gb320, 1, none⟩ = some (.int .i64 0) := (blk_cell BK320.out 1).trans rfl; have hcz13_2 : w10.cell? ⟨gb320, 2, none⟩ = some (.slice none 0 0) := (blk_cell BK320.out 2).trans rfl; have hfz13_0 := blk_frozen BK320.out 0; have hfz13_1 := blk_frozen BK320.out 1; have hfz13_2 := blk_frozen BK320.out 2; have hcz14_0 : w10.cell? ⟨gb317, 0, none⟩ = some (.int .i64 a0_0) := (blk_cell BK317.out 0).trans rfl; have hcz14_1 : w10.cell? ⟨gb317, 1, none⟩ = some (.int .i64 a0_1) := (blk_cell BK317.out 1).trans rfl; have hcz14_2 : w10.cell? ⟨gb317, 2, none⟩ = some (.slice A0_2 l0_2.length c0_2) := (blk_cell BK317.out 2).trans rfl; have hfz14_0 := blk_frozen BK317.out 0; have hfz14_1 := blk_frozen BK317.out 1; have hfz14_2 := blk_frozen BK317.out 2))
  go_loopg [21] k (fun kq v21 w' => ∃ (x21_1 : Int) (x321002_1 : List Int) (u321002 : Value), v21 = .int .i64 x21_1 ∧ Aside0 (mat_Turn.l0 kq a0_1 x21_1 a0_0 a0_1 l0_2 a0_1 a0_0 x321002_1 = some (r1, r2, r3, r4)) ∧ Aside0 (kq ≤ k) ∧ Aside0 (Kd.R (Kd.int .i32) 24 w' w.heap.size (fun _ => True) u321002 x321002_1) ∧ Aside0 (w'.heap[gb317]? = some (.cells #[.int .i64 a0_0, .int .i64 a0_1, (.slice A0_2 l0_2.length c0_2)] 46 (0, 0))) ∧ Aside0 (w'.heap[gb318]? = some (.cells #[.int .i64 0, .int .i64 0, (.slice none 0 0)] 46 (0, 0))) ∧ Aside0 (w'.heap[gb320]? = some (.cells #[.int .i64 a0_1, .int .i64 a0_0, u321002] 46 (0, 0))) ∧ Aside0 (Below w.heap.size w w'))
  case atStart => exact ⟨(0), (([] : List Int)), (.slice none 0 0), (by first | rfl | (simp; done) | (simp [*]; done)), H', ⟨Nat.le_refl _⟩, ⟨by first | exact Kd.R_nil _ _ _ _ _ | exact Kd.N_nil _ _ _ _ _ | exact Kd.V_nil _ _ _ _ _ | exact Kd.Q_nil _ _ _ _ _ | exact Kd.S_nil _ _ _ _ _⟩, ⟨by (with_reducible repeat (first | apply bkN | apply bkD | apply bkA)); refine blk_far ?_ NB317_320.out _; (with_reducible repeat (first | apply bkN | apply bkD | apply bkA)); refine blk_far ?_ NB317_320.out _; (with_reducible repeat (first | apply bkN | apply bkD | apply bkA)); refine blk_far ?_ NB317_320.out _; (with_reducible repeat (first | apply bkN | apply bkD | apply bkA)); exact BK317.out⟩, ⟨by (with_reducible repeat (first | apply bkN | apply bkD | apply bkA)); refine blk_far ?_ NB318_320.out _; (with_reducible repeat (first | apply bkN | apply bkD | apply bkA)); refine blk_far ?_ NB318_320.out _; (with_reducible repeat (first | apply bkN | apply bkD | apply bkA)); refine blk_far ?_ NB318_320.out _; (with_reducible repeat (first | apply bkN | apply bkD | apply bkA)); exact BK318.out⟩, ⟨by (with_reducible repeat (first | apply bkN | apply bkD | apply bkA)); refine blk_put (cs := #[.int .i64 a0_1, .int .i64 a0_0, .slice none 0 0]) ?_ 2 _ rfl; (with_reducible repeat (first | apply bkN | apply bkD | apply bkA)); refine blk_put (cs := #[.int .i64 a0_1, .int .i64 0, .slice none 0 0]) ?_ 1 _ rfl; (with_reducible repeat (first | apply bkN | apply bkD | apply bkA)); refine blk_put (cs := #[.int .i64 0, .int .i64 0, .slice none 0 0]) ?_ 0 _ rfl; (with_reducible repeat (first | apply bkN | apply bkD | apply bkA)); exact BK320.out⟩, ⟨by repeat (first | (with_reducible first | exact HB.out | apply bwA | apply bwN | apply bwD | refine below_set ?_ GE317.out | refine below_set ?_ GE318.out | refine below_set ?_ GE320.out) | exact HB.out)⟩⟩
  case round =>
   clear H'
   try clear c1
   try clear p2
   try clear c3
   try clear c3b0
   try clear c3b1
   try clear c6
   try clear c11
   try clear c12
   try clear hcz13_0
   try clear hcz13_1
   try clear hcz13_2
   try clear hcz14_0
   try clear hcz14_1
   try clear hcz14_2
   try clear hcz7_0
   try clear hcz7_1
   try clear hcz7_2
   try clear hcz9_0
   try clear hcz9_1
   try clear hcz9_2
   try clear hfz13_0
   try clear hfz13_1
   try clear hfz13_2
   try clear hfz14_0
   try clear hfz14_1
   try clear hfz14_2
   try clear hfz7_0
   try clear hfz7_1
   try clear hfz7_2
   try clear hfz9_0
   try clear hfz9_1
   try clear hfz9_2
   obtain ⟨x21_1, x321002_1, u321002, rfl, HA, HK1, HO_321002, BK317, BK318, BK320, HB⟩ := hrel
   cases gk with
   | zero => exact absurd HA.out (by simp [mat_Turn.l0])
   | succ k1 =>
    have H := HA.out
    clear HA
    simp only [mat_Turn.l0] at H
    by_cases c15 : x21_1 < a0_1
    ·rw [if_pos c15] at H
     have c15b0 : decide (x21_1 < a0_1) = true := decide_eq_true c15
     clear c15
     have H' := Aside0.mk H
     clear H
     have hnb16 := NB317_318.out
     have hnc16 := NB318_317.out
     have hnb17 := NB317_320.out
     have hnc17 := NB320_317.out
     have hcz18_0 : wr.cell? ⟨gb317, 0, none⟩ = some (.int .i64 a0_0) := (blk_cell BK317.out 0).trans rfl
     have hcz18_1 : wr.cell? ⟨gb317, 1, none⟩ = some (.int .i64 a0_1) := (blk_cell BK317.out 1).trans rfl
     have hcz18_2 : wr.cell? ⟨gb317, 2, none⟩ = some (.slice A0_2 l0_2.length c0_2) := (blk_cell BK317.out 2).trans rfl
     have hfz18_0 := blk_frozen BK317.out 0
     have hfz18_1 := blk_frozen BK317.out 1
     have hfz18_2 := blk_frozen BK317.out 2
     go_wp2
     go_loopg [26] k1 (fun kq v26 w' => ∃ (x26_2 : Int) (x321002_2 : List Int) (u321002 : Value), v26 = .int .i64 x26_2 ∧ Aside0 (mat_Turn.l1 kq x21_1 a0_1 x21_1 a0_0 x26_2 a0_0 a0_1 l0_2 a0_1 a0_0 x321002_2 = some (r1, r2, r3, r4)) ∧ Aside0 (kq ≤ k1) ∧ Aside0 (Kd.R (Kd.int .i32) 24 w' w.heap.size (fun _ => True) u321002 x321002_2) ∧ Aside0 (w'.heap[gb317]? = some (.cells #[.int .i64 a0_0, .int .i64 a0_1, (.slice A0_2 l0_2.length c0_2)] 46 (0, 0))) ∧ Aside0 (w'.heap[gb318]? = some (.cells #[.int .i64 0, .int .i64 0, (.slice none 0 0)] 46 (0, 0))) ∧ Aside0 (w'.heap[gb320]? = some (.cells #[.int .i64 a0_1, .int .i64 a0_0, u321002] 46 (0, 0))) ∧ Aside0 (Below w.heap.size w w'))
     case atStart => exact ⟨(0), (x321002_1), (u321002), (by first | rfl | (simp; done) | (simp [*]; done)), H', ⟨Nat.le_refl _⟩, ⟨by (with_reducible repeat (first | apply rwA | apply rwN | apply rwD)); exact HO_321002.out⟩, ⟨by (with_reducible repeat (first | apply bkN | apply bkD | apply bkA)); exact BK317.out⟩, ⟨by (with_reducible repeat (first | apply bkN | apply bkD | apply bkA)); exact BK318.out⟩, ⟨by (with_reducible repeat (first | apply bkN | apply bkD | apply bkA)); exact BK320.out⟩, ⟨by repeat (first | (with_reducible first | exact HB.out | apply bwA | apply bwN | apply bwD | refine below_set ?_ GE317.out | refine below_set ?_ GE318.out | refine below_set ?_ GE320.out) | exact HB.out)⟩⟩
     case round =>
      clear H'
      try clear c1
      try clear p2
      try clear c3
      try clear c3b0
      try clear c3b1
      try clear c6
      try clear c11
      try clear c12
      try clear c15
      try clear c15b0
      try clear c16
      try clear c17
      try clear hcz13_0
      try clear hcz13_1
      try clear hcz13_2
      try clear hcz14_0
      try clear hcz14_1
      try clear hcz14_2
      try clear hcz18_0
      try clear hcz18_1
      try clear hcz18_2
      try clear hcz7_0
      try clear hcz7_1
      try clear hcz7_2
      try clear hcz9_0
      try clear hcz9_1
      try clear hcz9_2
      try clear hfz13_0
      try clear hfz13_1
      try clear hfz13_2
      try clear hfz14_0
      try clear hfz14_1
      try clear hfz14_2
      try clear hfz18_0
      try clear hfz18_1
      try clear hfz18_2
      try clear hfz7_0
      try clear hfz7_1
      try clear hfz7_2
      try clear hfz9_0
      try clear hfz9_1
      try clear hfz9_2
      try clear p2
      obtain ⟨x26_2, x321002_2, u321002, rfl, HA, HK2, HO_321002, BK317, BK318, BK320, HB⟩ := hrel
      cases gk with
      | zero => exact absurd HA.out (by simp [mat_Turn.l1])
      | succ k2 =>
       have H := HA.out
       clear HA
       simp only [mat_Turn.l1] at H
       by_cases c19 : x26_2 < a0_0
       ·rw [if_pos c19] at H
        have c19b0 : decide (x26_2 < a0_0) = true := decide_eq_true c19
        clear c19
        obtain ⟨ji20, hji20⟩ : ∃ j_ : Int, (wrap64 ((wrap64 (x26_2 * a0_1)) + x21_1)) = j_ := ⟨_, rfl⟩
        replace H : (if 0 ≤ (ji20) then (if (ji20) < (l0_2.length : Int) then (if x321002_2.length < 35184372088832 then (mat_Turn.l1 k2 x21_1 a0_1 x21_1 a0_0 (wrap64 (x26_2 + 1)) a0_0 a0_1 l0_2 a0_1 a0_0 (x321002_2 ++ [rd l0_2 (ji20)])) else (none)) else (none)) else (none)) = some (r1, r2, r3, r4) := by first | (rw [hji20] at H; exact H) | (simp only [hji20] at H ⊢; exact H)
        have hji20w : (IntKind.i64.wrap ((wrap64 (x26_2 * a0_1)) + x21_1)) = ji20 := (i64_w _).trans hji20
        by_cases c21 : 0 ≤ (ji20)
        ·rw [if_pos c21] at H
         have c21b0 : decide (0 ≤ (ji20)) = true := decide_eq_true c21
         clear c21
         by_cases c22 : (ji20) < (l0_2.length : Int)
         ·rw [if_pos c22] at H
          have c22b0 : decide ((ji20) < (l0_2.length : Int)) = true := decide_eq_true c22
          clear c22
          by_cases c23 : x321002_2.length < 35184372088832
          ·rw [if_pos c23] at H
           have LMc23 := Aside0.mk c23
           clear c23
           obtain ⟨y322, hy322⟩ : ∃ y_ : List Int, y_ = (x321002_2 ++ [rd l0_2 (ji20)]) := ⟨_, rfl⟩
           replace H : (mat_Turn.l1 k2 x21_1 a0_1 x21_1 a0_0 (wrap64 (x26_2 + 1)) a0_0 a0_1 l0_2 a0_1 a0_0 y322) = some (r1, r2, r3, r4) := by first | (rw [hy322]; with_reducible exact H) | (have H2_ := (Option.bind_some _ _).symm.trans H; rw [hy322]; with_reducible exact H2_) | (have H2_ := (Option.bind_some _ _).symm.trans H; with_reducible exact H2_) | with_reducible exact H | (rw [hy322]; exact H) | exact H
           have Ny322 := Aside0.mk hy322
           clear hy322
           have H' := Aside0.mk H
           clear H
           try go_wp2
           have n0_ := Aside0.mk (Kd.R_drew HO_321002.out)
           have n1_ := Aside0.mk (blk_drew BK317.out)
           have n2_ := Aside0.mk (blk_drew BK318.out)
           have n3_ := Aside0.mk (blk_drew BK320.out)
           have n4_ := Aside0.mk (below_drew1 HB.out)
           clear HO_321002
           clear BK317
           clear BK318
           clear BK320
           clear HB
           have HO_321002 := n0_
           have BK317 := n1_
           have BK318 := n2_
           have BK320 := n3_
           have HB := n4_
           clear n0_ n1_ n2_ n3_ n4_
           have p321 : 0 ≤ ((ji20) : Int) := ofd_
           have q321 : (ji20) < (l0_2.length : Int) := ofd_
           obtain ⟨ad321, e321, hx321_0⟩ := Kd.at_int HR0_2.out (ji20) p321 q321
           have hw321_0 := hx321_0
           cases e321
           replace hx321_0 := (HB.out.cell (World.block_lt_of_cell? w _ hx321_0)).trans hx321_0
           replace p321 := eq_true p321
           replace q321 := eq_true q321
           refine start_ (n := 16) (S := fun w' => w'.cell? ⟨gb320, 0, none⟩ = some (.int .i64 a0_1) ∧ w'.cell? ⟨gb320, 1, none⟩ = some (.int .i64 a0_0) ∧ w'.cell? ⟨gb320, 2, none⟩ = some (u321002) ∧ w'.cell? ⟨gb317, 0, none⟩ = some (.int .i64 a0_0) ∧ w'.cell? ⟨gb317, 1, none⟩ = some (.int .i64 a0_1) ∧ w'.cell? ⟨gb317, 2, none⟩ = some (.slice (some ad321) l0_2.length c0_2) ∧ w'.cell? (ad321.add ((ji20)).toNat) = some (.int .i32 (rd l0_2 (ji20)))) (ds := [15]) T19340_0 (by kernel_rfl) rfl rfl ⟨(blk_cell BK320.out 0).trans rfl, (blk_cell BK320.out 1).trans rfl, (blk_cell BK320.out 2).trans rfl, (blk_cell BK317.out 0).trans rfl, (blk_cell BK317.out 1).trans rfl, (blk_cell BK317.out 2).trans rfl, ((HB.out.cell (World.block_lt_of_cell? w _ hw321_0)).trans hw321_0)⟩ (fun hHeld => ?_); refine with_tabW mat_Turn.tab11 mat_Turn.bits11 (fun HT_ HW_ => ?_)
           generalize wr.drew = w24 at HO_321002 BK317 BK318 BK320 HB hx321_0 hHeld ⊢
           refine pure_ (i := 0) (N := some 29) (v := ?_) (a' := ?_) T19340_1 rfl rfl (any_of HT_.out (by kernel_rfl)) idq (.inl ⟨by rfl, ?_⟩) ?_ ?_
           rotate_left; ·intro w'; go_simp; with_reducible rfl
           rotate_left; ·simp only [Act.put, sqA, sqB, sqC, i64_w, i32_w]; rfl
           refine pure_ (i := 2) (N := some 31) (v := ?_) (a' := ?_) T19340_2 rfl rfl (any_of HT_.out (by kernel_rfl)) idq (.inl ⟨by rfl, ?_⟩) ?_ ?_
           rotate_left; ·intro w'; go_simp; with_reducible rfl
           rotate_left; ·simp only [Act.put, sqA, sqB, sqC, i64_w, i32_w]; rfl
           refine pure_ (i := 4) (N := some 33) (v := ?_) (a' := ?_) T19340_3 rfl rfl (any_of HT_.out (by kernel_rfl)) idq (.inl ⟨by rfl, ?_⟩) ?_ ?_
           rotate_left; ·intro w'; go_simp; with_reducible rfl
           rotate_left; ·simp only [Act.put, sqA, sqB, sqC, i64_w, i32_w]; rfl
           refine pure_ (i := 5) (N := some 34) (v := ?_) (a' := ?_) T19340_4 rfl rfl (any_of HT_.out (by kernel_rfl)) idq (.inl ⟨by rfl, ?_⟩) ?_ ?_
           rotate_left; ·intro w'; go_simp; with_reducible rfl
           rotate_left; ·simp only [Act.put, sqA, sqB, sqC, i64_w, i32_w]; rfl
           refine pure_ (i := 8) (N := some 37) (v := ?_) (a' := ?_) T19340_5 rfl rfl (any_of HT_.out (by kernel_rfl)) idq (.inl ⟨by rfl, ?_⟩) ?_ ?_
           rotate_left; ·intro w'; go_simp; with_reducible rfl
           rotate_left; ·simp only [Act.put, sqA, sqB, sqC, i64_w, i32_w]; rfl
           refine take_ (i := 1) (N := some 30) (v := ?_) (a' := ?_) T19340_6 rfl rfl (take_ofW HT_.out HW_.out (by kernel_rfl)) idq (.inl ⟨by rfl, ?_⟩) hHeld ?_ ?_
           rotate_left
           ·rintro w' ⟨s0, s1, s2, s3, s4, s5, s6⟩
            go_simp
            with_reducible rfl
           rotate_left; ·simp only [Act.put, sqA, sqB, sqC, i64_w, i32_w]; rfl
           refine take_ (i := 3) (N := some 32) (v := ?_) (a' := ?_) T19340_7 rfl rfl (take_ofW HT_.out HW_.out (by kernel_rfl)) idq (.inl ⟨by rfl, ?_⟩) hHeld ?_ ?_
           rotate_left
           ·rintro w' ⟨s0, s1, s2, s3, s4, s5, s6⟩
            go_simp
            with_reducible rfl
           rotate_left; ·simp only [Act.put, sqA, sqB, sqC, i64_w, i32_w]; rfl
           refine take_ (i := 6) (N := some 35) (v := ?_) (a' := ?_) T19340_8 rfl rfl (take_ofW HT_.out HW_.out (by kernel_rfl)) idq (.inl ⟨by rfl, ?_⟩) hHeld ?_ ?_
           rotate_left
           ·rintro w' ⟨s0, s1, s2, s3, s4, s5, s6⟩
            go_simp
            with_reducible rfl
           rotate_left; ·simp only [Act.put, sqA, sqB, sqC, i64_w, i32_w]; rfl
           refine pure_ (i := 7) (N := some 36) (v := ?_) (a' := ?_) T19340_9 rfl rfl (any_of HT_.out (by kernel_rfl)) idq (.inl ⟨by rfl, ?_⟩) ?_ ?_
           rotate_left; ·intro w'; go_simp; with_reducible rfl
           rotate_left; ·simp only [Act.put, sqA, sqB, sqC, i64_w, i32_w]; rfl
           refine pure_ (i := 9) (N := some 38) (v := ?_) (a' := ?_) T19340_10 rfl rfl (any_of HT_.out (by kernel_rfl)) idq (.inl ⟨by rfl, ?_⟩) ?_ ?_
           rotate_left; ·intro w'; go_simp; with_reducible rfl
           rotate_left; ·simp only [Act.put, sqA, sqB, sqC, i64_w, i32_w]; rfl
           refine pure_ (i := 10) (N := some 39) (v := ?_) (a' := ?_) T19340_11 rfl rfl (any_of HT_.out (by kernel_rfl)) idq (.inl ⟨by rfl, ?_⟩) ?_ ?_
           rotate_left; ·intro w'; go_simp; with_reducible rfl
           rotate_left; ·simp only [Act.put, sqA, sqB, sqC, i64_w, i32_w]; rfl
           refine take_ (i := 11) (N := some 40) (v := ?_) (a' := ?_) T19340_12 rfl rfl (take_ofW HT_.out HW_.out (by kernel_rfl)) idq (.inl ⟨by rfl, ?_⟩) hHeld ?_ ?_
           rotate_left
           ·rintro w' ⟨s0, s1, s2, s3, s4, s5, s6⟩
            go_simp
            with_reducible rfl
           rotate_left; ·simp only [Act.put, sqA, sqB, sqC, i64_w, i32_w]; rfl
           refine one_ (i := 12) (N := some 41) T19340_13 rfl rfl (one_of HT_.out (by kernel_rfl)) (by decide) (fun K hK => ?_)
           refine value_ (w1 := ?_) (v := ?_) (by rfl) rfl ?_ ?_
           rotate_left 2
           ·go_simp
            constructor
            ·rfl
            ·rfl
           refine hK.out _ _ ⟨(blk_cell (blk_alloc BK320.out _) 0).trans rfl, (blk_cell (blk_alloc BK320.out _) 1).trans rfl, (blk_cell (blk_alloc BK320.out _) 2).trans rfl, (blk_cell (blk_alloc BK317.out _) 0).trans rfl, (blk_cell (blk_alloc BK317.out _) 1).trans rfl, (blk_cell (blk_alloc BK317.out _) 2).trans rfl, (World.cell?_alloc_lt _ _ _ (World.block_lt_of_cell? _ _ (((HB.out.cell (World.block_lt_of_cell? w _ hw321_0)).trans hw321_0)))).trans (((HB.out.cell (World.block_lt_of_cell? w _ hw321_0)).trans hw321_0))⟩ (fun hHeld => ?_)
           clear hK K
           refine norm_ (a' := ?_) ?_ ?_
           rotate_left
           ·show Act.put _ (some 41) _ = _
            simp only [Act.put, sqA, sqB, sqC, i64_w, i32_w]
            rfl
           refine one_ (i := 13) (N := some 42) T19340_14 rfl rfl (one_of HT_.out (by kernel_rfl)) (by decide) (fun K hK => ?_)
           refine Kd.R_append_step (Kd.int .i32) (w0 := w) w.heap.size (by rfl) (.tmp 30) (.tmp 41) 22 24 (.int .i32 0) 4 rfl Try.underlying22 info24 rfl (by decide) (by omega) u321002 x321002_2 (rd l0_2 (ji20)) [.int .i32 (rd l0_2 (ji20))] (fun _ => True) (fun _ => False) rfl rfl ?aP (fun _ hk => hk.elim) ?aF ?aO ?aB ?aS ?aL ?_
           (case aP => exact rfl)
           (case aB => exact (by repeat (first | (with_reducible first | exact HB.out | apply bwA | apply bwN | apply bwD | refine below_set ?_ GE317.out | refine below_set ?_ GE318.out | refine below_set ?_ GE320.out) | exact HB.out)))
           (case aF => exact (fun _ _ => trivial))
           (case aO => exact (by (with_reducible repeat (first | apply rwA | apply rwN | apply rwD)); exact HO_321002.out))
           (case aS => exact (below_size (by repeat (first | (with_reducible first | exact HB.out | apply bwA | apply bwN | apply bwD | refine below_set ?_ GE317.out | refine below_set ?_ GE318.out | refine below_set ?_ GE320.out) | exact HB.out))))
           (case aL => have := LMc23.out; omega)
           intro v323 w25 ho hb hg hat
           rw [← Ny322.out] at ho
           have n0_ := Aside0.mk (blk_grown (g := gb317) (o := .cells #[.int .i64 a0_0, .int .i64 a0_1, .slice (some ad321) l0_2.length c0_2] 46 (0, 0)) (by (with_reducible repeat (first | apply bkN | apply bkD | apply bkA)); exact BK317.out) hg (Kd.R_ne HO_321002.out BK317.out (by decide)))
           have n1_ := Aside0.mk (blk_grown (g := gb318) (o := .cells #[.int .i64 0, .int .i64 0, .slice none 0 0] 46 (0, 0)) (by (with_reducible repeat (first | apply bkN | apply bkD | apply bkA)); exact BK318.out) hg (Kd.R_ne HO_321002.out BK318.out (by decide)))
           have n2_ := Aside0.mk (blk_grown (g := gb320) (o := .cells #[.int .i64 a0_1, .int .i64 a0_0, u321002] 46 (0, 0)) (by (with_reducible repeat (first | apply bkN | apply bkD | apply bkA)); exact BK320.out) hg (Kd.R_ne HO_321002.out BK320.out (by decide)))
           have n3_ := Aside0.mk (hb)
           have n4_ := Aside0.mk (ho)
           clear BK317
           clear BK318
           clear BK320
           clear HB
           clear HO_321002
           have BK317 := n0_
           have BK318 := n1_
           have BK320 := n2_
           have HB := n3_
           have HO324 := n4_
           clear n0_ n1_ n2_ n3_ n4_
           clear ho hb hg hat
           obtain ⟨Ao26, co26, eo26⟩ := Kd.R_slice HO324.out
           (first | subst eo26 | (injection eo26 with f1_ f2_ f3_; have f4_ := f1_.symm; have f5_ := f3_.symm; clear f1_ f2_ f3_; subst f4_; subst f5_))
           refine hK.out _ _ ⟨(blk_cell BK320.out 0).trans rfl, (blk_cell BK320.out 1).trans rfl, (blk_cell BK320.out 2).trans rfl, (blk_cell BK317.out 0).trans rfl, (blk_cell BK317.out 1).trans rfl, (blk_cell BK317.out 2).trans rfl, ((HB.out.cell (World.block_lt_of_cell? w _ hw321_0)).trans hw321_0)⟩ (fun hHeld => ?_)
           clear hK K
           refine norm_ (a' := ?_) ?_ ?_
           rotate_left
           ·show Act.put _ (some 42) _ = _
            simp only [Act.put, sqA, sqB, sqC, i64_w, i32_w]
            rfl
           refine pure_ (i := 14) (N := some 43) (v := ?_) (a' := ?_) T19340_15 rfl rfl (any_of HT_.out (by kernel_rfl)) idq (.inl ⟨by rfl, ?_⟩) ?_ ?_
           rotate_left; ·intro w'; go_simp; with_reducible rfl
           rotate_left; ·simp only [Act.put, sqA, sqB, sqC, i64_w, i32_w]; rfl
           refine last_ (i := 15) (N := none) T19340_16 rfl rfl (one_of HT_.out (by kernel_rfl)) (by decide) (fun K hK => ?_)
           have hs27 : w25.cell? ⟨gb320, 2, none⟩ = some (u321002) := (blk_cell BK320.out 2).trans rfl
           have hfs27 := blk_frozen BK320.out 2
           have hns27_0 := NB317_320.out
           have hns27_1 := NB318_320.out
           have hms27_0 := NB320_317.out
           have hms27_1 := NB320_318.out
           refine skip_ (w1 := ?_) (by rfl) rfl ?_ ?_
           rotate_left; ·go_simp; rfl
           refine hK.out _ _ ?_
           clear hK K
           refine done_ (done_of HT_.out (by kernel_rfl)) ?_
           try go_wp2
           go_roundg k2
           case measure => have := HK1.out; have := HK2.out; omega
           case rel => exact ⟨(wrap64 (x26_2 + 1)), (y322), (.slice Ao26 y322.length co26), (by first | rfl | (simp; done) | (simp [*]; done)), H', ⟨by have := HK1.out; have := HK2.out; omega⟩, ⟨by (with_reducible repeat (first | apply rwA | apply rwN | apply rwD)); exact Kd.R_mono (Kd.R_far (p := ⟨gb320, 2, none⟩) (Kd.R_types HO324.out BK320.out (by decide)) (fun _ hk => hk.2) (.slice Ao26 y322.length co26)) (fun _ hk => trivial)⟩, ⟨by (with_reducible repeat (first | apply bkN | apply bkD | apply bkA)); refine blk_far ?_ NB317_320.out _; (with_reducible repeat (first | apply bkN | apply bkD | apply bkA)); exact BK317.out⟩, ⟨by (with_reducible repeat (first | apply bkN | apply bkD | apply bkA)); refine blk_far ?_ NB318_320.out _; (with_reducible repeat (first | apply bkN | apply bkD | apply bkA)); exact BK318.out⟩, ⟨by (with_reducible repeat (first | apply bkN | apply bkD | apply bkA)); refine blk_put (cs := #[.int .i64 a0_1, .int .i64 a0_0, u321002]) ?_ 2 _ rfl; (with_reducible repeat (first | apply bkN | apply bkD | apply bkA)); exact BK320.out⟩, ⟨by repeat (first | (with_reducible first | exact HB.out | apply bwA | apply bwN | apply bwD | refine below_set ?_ GE317.out | refine below_set ?_ GE318.out | refine below_set ?_ GE320.out) | exact HB.out)⟩⟩
          ·rw [if_neg c23] at H
           exact absurd H (by simp)
         ·rw [if_neg c22] at H
          exact absurd H (by simp)
        ·rw [if_neg c21] at H
         exact absurd H (by simp)
       ·rw [if_neg c19] at H
        have c19b0 : decide (x26_2 < a0_0) = false := decide_eq_false c19
        clear c19
        have H' := Aside0.mk H
        clear H
        go_wp2
        go_roundg k2
        case measure => have := HK1.out; have := HK2.out; omega
        case rel => exact ⟨(wrap64 (x21_1 + 1)), (x321002_2), (u321002), (by first | rfl | (simp; done) | (simp [*]; done)), H', ⟨by have := HK1.out; have := HK2.out; omega⟩, ⟨by (with_reducible repeat (first | apply rwA | apply rwN | apply rwD)); exact HO_321002.out⟩, ⟨by (with_reducible repeat (first | apply bkN | apply bkD | apply bkA)); exact BK317.out⟩, ⟨by (with_reducible repeat (first | apply bkN | apply bkD | apply bkA)); exact BK318.out⟩, ⟨by (with_reducible repeat (first | apply bkN | apply bkD | apply bkA)); exact BK320.out⟩, ⟨by repeat (first | (with_reducible first | exact HB.out | apply bwA | apply bwN | apply bwD | refine below_set ?_ GE317.out | refine below_set ?_ GE318.out | refine below_set ?_ GE320.out) | exact HB.out)⟩⟩
    ·rw [if_neg c15] at H
     have c15b0 : decide (x21_1 < a0_1) = false := decide_eq_false c15
     clear c15
     simp only [Option.some.injEq, Prod.mk.injEq] at H
     obtain ⟨rfl, rfl, rfl, rfl⟩ := H
     have hnb28 := NB320_317.out
     have hnc28 := NB317_320.out
     have hnb29 := NB320_318.out
     have hnc29 := NB318_320.out
     have hcz30_0 : wr.cell? ⟨gb320, 0, none⟩ = some (.int .i64 a0_1) := (blk_cell BK320.out 0).trans rfl
     have hcz30_1 : wr.cell? ⟨gb320, 1, none⟩ = some (.int .i64 a0_0) := (blk_cell BK320.out 1).trans rfl
     have hcz30_2 : wr.cell? ⟨gb320, 2, none⟩ = some (u321002) := (blk_cell BK320.out 2).trans rfl
     have hfz30_0 := blk_frozen BK320.out 0
     have hfz30_1 := blk_frozen BK320.out 1
     have hfz30_2 := blk_frozen BK320.out 2
     have hnb31 := NB318_317.out
     have hnc31 := NB317_318.out
     have hcz32_0 : wr.cell? ⟨gb318, 0, none⟩ = some (.int .i64 0) := (blk_cell BK318.out 0).trans rfl
     have hcz32_1 : wr.cell? ⟨gb318, 1, none⟩ = some (.int .i64 0) := (blk_cell BK318.out 1).trans rfl
     have hcz32_2 : wr.cell? ⟨gb318, 2, none⟩ = some (.slice none 0 0) := (blk_cell BK318.out 2).trans rfl
     have hfz32_0 := blk_frozen BK318.out 0
     have hfz32_1 := blk_frozen BK318.out 1
     have hfz32_2 := blk_frozen BK318.out 2
     obtain ⟨Ao33, co33, eo33⟩ := Kd.R_slice HO_321002.out
     subst eo33
     go_wp2
     refine bodyPost_ret (results_ct rfl _ _ gb318 46 #[.int .i64 a0_1, .int .i64 a0_0, .slice Ao33 x321002_1.length co33] (0, 0) _ rfl (by (with_reducible repeat (first | apply bkN | apply bkD | apply bkA)); refine blk_put (cs := #[.int .i64 a0_1, .int .i64 a0_0, .slice none 0 0]) ?_ 2 _ rfl; (with_reducible repeat (first | apply bkN | apply bkD | apply bkA)); refine blk_put (cs := #[.int .i64 a0_1, .int .i64 0, .slice none 0 0]) ?_ 1 _ rfl; (with_reducible repeat (first | apply bkN | apply bkD | apply bkA)); refine blk_put (cs := #[.int .i64 0, .int .i64 0, .slice none 0 0]) ?_ 0 _ rfl; (with_reducible repeat (first | apply bkN | apply bkD | apply bkA)); exact BK318.out) Try.underlying46 rfl (by kernel_rfl)) rfl ?_
     exact ⟨_, by first | rfl | (simp [errW_none, errW_some] <;> rfl) | (simp [*, errW_none, errW_some] <;> rfl), by (with_reducible repeat (first | apply rwA | apply rwN | apply rwD)); exact Kd.R_mono (Kd.R_far (p := ⟨gb318, 2, none⟩) (Kd.R_far (p := ⟨gb318, 1, none⟩) (Kd.R_far (p := ⟨gb318, 0, none⟩) (Kd.R_types HO_321002.out BK318.out (by decide)) (fun _ hk => hk.2) (.int .i64 a0_1)) (fun _ hk => hk.2) (.int .i64 a0_0)) (fun _ hk => hk.2) (.slice Ao33 x321002_1.length co33)) (fun _ hk => trivial), by repeat (first | (with_reducible first | exact HB.out | apply bwA | apply bwN | apply bwD | refine below_set ?_ GE317.out | refine below_set ?_ GE318.out | refine below_set ?_ GE320.out) | exact HB.out)⟩
 ·rw [if_neg c3] at H
  have c3b0 : (t319 == 0) = false := beq_eq_false_iff_ne.mpr c3
  have c3b1 : (t319 != 0) = true := bne_iff_ne.mpr c3
  simp only [Option.some.injEq, Prod.mk.injEq] at H
  obtain ⟨rfl, rfl, rfl, rfl⟩ := H
  go_enter Try.func32, Try.ntmps32
  go_wp2_with (first | ((with_reducible refine gate_dst (N := 1) rfl ?_); refine box_event ?hg (N := 1) ?hd (cs := #[.int .i64 a0_0, .int .i64 a0_1, .slice A0_2 l0_2.length c0_2]) (t := 46) ?hr ?_; (case hd => rfl); (case hg => rfl); (case hr => first | (go_simp; done) | (go_simp; rfl)); intro gb317 hg w34 hbox hb; have n0_ := Aside0.mk (below_step (by repeat (first | (with_reducible first | exact HB.out | apply bwA | apply bwN | apply bwD) | exact HB.out)) hb); have n1_ := Aside0.mk (hbox); have n2_ := Aside0.mk ((by rw [hg]; exact (below_size (by repeat (first | (with_reducible first | exact HB.out | apply bwA | apply bwN | apply bwD) | exact HB.out))) : w.heap.size ≤ gb317)); have n3_ := Aside0.mk ((by rw [hg]; exact (below_size (by repeat (first | (with_reducible first | exact HB.out | apply bwA | apply bwN | apply bwD) | exact HB.out))) : w.heap.size ≤ gb317)); clear HB; have HB := n0_; have BK317 := n1_; have GW317 := n2_; have GE317 := n3_; clear n0_ n1_ n2_ n3_; clear hb hbox hg) | ((with_reducible refine gate_dst (N := 2) rfl ?_); refine box_event ?hg (N := 2) ?hd (cs := #[.int .i64 0, .int .i64 0, .slice none 0 0]) (t := 46) ?hr ?_; (case hd => rfl); (case hg => rfl); (case hr => first | (go_simp; done) | (go_simp; rfl)); intro gb318 hg w35 hbox hb; have n0_ := Aside0.mk (blk_below (g := gb317) (o := .cells #[.int .i64 a0_0, .int .i64 a0_1, .slice A0_2 l0_2.length c0_2] 46 (0, 0)) (by (with_reducible repeat (first | apply bkN | apply bkD | apply bkA)); exact BK317.out) hb); have n1_ := Aside0.mk (below_step (by repeat (first | (with_reducible first | exact HB.out | apply bwA | apply bwN | apply bwD | refine below_set ?_ GE317.out) | exact HB.out)) hb); have n2_ := Aside0.mk (hbox); have n3_ := Aside0.mk ((by rw [hg]; exact (below_size (by repeat (first | (with_reducible first | exact HB.out | apply bwA | apply bwN | apply bwD | refine below_set ?_ GE317.out) | exact HB.out))) : w.heap.size ≤ gb318)); have n4_ := Aside0.mk ((by rw [hg]; exact (below_size (by repeat (first | (with_reducible first | exact HB.out | apply bwA | apply bwN | apply bwD | refine below_set ?_ GE317.out) | exact HB.out))) : w.heap.size ≤ gb318)); have n5_ := Aside0.mk ((by rw [hg]; exact Nat.ne_of_lt (blk_lt (g := gb317) (o := .cells #[.int .i64 a0_0, .int .i64 a0_1, .slice A0_2 l0_2.length c0_2] 46 (0, 0)) (by (with_reducible repeat (first | apply bkN | apply bkD | apply bkA)); exact BK317.out)) : gb317 ≠ gb318)); have n6_ := Aside0.mk ((by rw [hg]; exact Nat.ne_of_gt (blk_lt (g := gb317) (o := .cells #[.int .i64 a0_0, .int .i64 a0_1, .slice A0_2 l0_2.length c0_2] 46 (0, 0)) (by (with_reducible repeat (first | apply bkN | apply bkD | apply bkA)); exact BK317.out)) : gb318 ≠ gb317)); clear BK317; clear HB; have BK317 := n0_; have HB := n1_; have BK318 := n2_; have GW318 := n3_; have GE318 := n4_; have NB317_318 := n5_; have NB318_317 := n6_; clear n0_ n1_ n2_ n3_ n4_ n5_ n6_; clear hb hbox hg; have hnb36 := NB317_318.out; have hnc36 := NB318_317.out; have hcz37_0 : w35.cell? ⟨gb317, 0, none⟩ = some (.int .i64 a0_0) := (blk_cell BK317.out 0).trans rfl; have hcz37_1 : w35.cell? ⟨gb317, 1, none⟩ = some (.int .i64 a0_1) := (blk_cell BK317.out 1).trans rfl; have hcz37_2 : w35.cell? ⟨gb317, 2, none⟩ = some (.slice A0_2 l0_2.length c0_2) := (blk_cell BK317.out 2).trans rfl; have hfz37_0 := blk_frozen BK317.out 0; have hfz37_1 := blk_frozen BK317.out 1; have hfz37_2 := blk_frozen BK317.out 2) | ((with_reducible refine gate_callee (f := 35) rfl ?_); refine goesL_ (some 9) rfl rfl Try.func35 (by kernel_rfl) rfl #[.agg #[.int .i64 a0_0, .int .i64 a0_1, .slice A0_2 l0_2.length c0_2]] rfl (by (try simp only [List.map_toArray, List.map_cons, List.map_nil]); first | done | rfl | (simp only [List.length_drop, List.length_take]; rfl)) ?_; (with_reducible refine (mat_Check.calls k a0_0 a0_1 _ _ l0_2 t319 _ ?side1 ?side2 A2.out).mono ?_); (case side1 => repeat (first | exact (Kd.C_below HR0_2.out HB.out) | (with_reducible refine Kd.C_alloc ?_ _) | (with_reducible refine Kd.C_drewN ?_ _) | (with_reducible refine Kd.C_drew ?_))); (case side2 => exact HC0_2.out); rintro e w38 ⟨rfl, hb⟩; refine ⟨_, rfl, ?_⟩; have n0_ := Aside0.mk (blk_below (g := gb317) (o := .cells #[.int .i64 a0_0, .int .i64 a0_1, .slice A0_2 l0_2.length c0_2] 46 (0, 0)) (by (with_reducible repeat (first | apply bkN | apply bkD | apply bkA)); exact BK317.out) hb); have n1_ := Aside0.mk (blk_below (g := gb318) (o := .cells #[.int .i64 0, .int .i64 0, .slice none 0 0] 46 (0, 0)) (by (with_reducible repeat (first | apply bkN | apply bkD | apply bkA)); exact BK318.out) hb); have n2_ := Aside0.mk (below_step (by repeat (first | (with_reducible first | exact HB.out | apply bwA | apply bwN | apply bwD | refine below_set ?_ GE317.out | refine below_set ?_ GE318.out) | exact HB.out)) hb); clear BK317; clear BK318; clear HB; have BK317 := n0_; have BK318 := n1_; have HB := n2_; clear n0_ n1_ n2_; (try clear hb); (try clear hb2); (try clear hk); (try clear hi); have hcz39_0 : w38.cell? ⟨gb318, 0, none⟩ = some (.int .i64 0) := (blk_cell BK318.out 0).trans rfl; have hcz39_1 : w38.cell? ⟨gb318, 1, none⟩ = some (.int .i64 0) := (blk_cell BK318.out 1).trans rfl; have hcz39_2 : w38.cell? ⟨gb318, 2, none⟩ = some (.slice none 0 0) := (blk_cell BK318.out 2).trans rfl; have hfz39_0 := blk_frozen BK318.out 0; have hfz39_1 := blk_frozen BK318.out 1; have hfz39_2 := blk_frozen BK318.out 2))
  refine bodyPost_ret (results_ct rfl _ _ gb318 46 #[.int .i64 0, .int .i64 0, .slice none 0 0] (0, 0) _ rfl (by (with_reducible repeat (first | apply bkN | apply bkD | apply bkA)); refine blk_put (cs := #[.int .i64 0, .int .i64 0, .slice none 0 0]) ?_ 2 _ rfl; (with_reducible repeat (first | apply bkN | apply bkD | apply bkA)); refine blk_put (cs := #[.int .i64 0, .int .i64 0, .slice none 0 0]) ?_ 1 _ rfl; (with_reducible repeat (first | apply bkN | apply bkD | apply bkA)); refine blk_put (cs := #[.int .i64 0, .int .i64 0, .slice none 0 0]) ?_ 0 _ rfl; (with_reducible repeat (first | apply bkN | apply bkD | apply bkA)); exact BK318.out) Try.underlying46 rfl (by kernel_rfl)) rfl ?_
  exact ⟨_, by first | rfl | (simp [errW_none, errW_some] <;> rfl) | (simp [*, errW_none, errW_some] <;> rfl), by first | exact Kd.R_nil _ _ _ _ _ | exact Kd.N_nil _ _ _ _ _ | exact Kd.V_nil _ _ _ _ _ | exact Kd.Q_nil _ _ _ _ _ | exact Kd.S_nil _ _ _ _ _, by repeat (first | (with_reducible first | exact HB.out | apply bwA | apply bwN | apply bwD | refine below_set ?_ GE317.out | refine below_set ?_ GE318.out) | exact HB.out)⟩

end Go.Proofs.Ytefimleoffaggaa.GQ
