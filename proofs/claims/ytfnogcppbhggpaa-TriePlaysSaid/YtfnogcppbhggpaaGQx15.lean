-- written by this session's program gprint.py
import Derived.Test.YtfnogcppbhggpaaGQx0
import Derived.Test.YtfnogcppbhggpaaGQx10
import Derived.Test.YtfnogcppbhggpaaWGuard
import Derived.Test.YtfnogcppbhggpaaWLast
import Derived.Test.YtfnogcppbhggpaaWMore
import Derived.Test.YtfnogcppbhggpaaWWords
namespace Go.Proofs.Ytfnogcppbhggpaa.GQ
open Go.RowKit Go.Proofs.YtfnogcppbhggpaaW.PrintWords Go.Proofs.YtfnogcppbhggpaaW.PrintLast Go.Proofs.YtfnogcppbhggpaaW.PrintMore
attribute [local go_sem] max2_int min2_int max_two min_two max_three min_three max_four min_four   -- for this text's walks alone
set_option linter.unusedVariables false
set_option linter.unusedSimpArgs false

/-! ### tillerref13_Longest: function 24 -/
def tillerref13_Longest.l0 : Nat → List Int → Int → Int → List (S49) → Int → Int → Option (Int × Int)
 | 0, _, _, _, _, _, _ => none
 | k + 1, x1, x6, x7, x10, x11, x12 => if x12 < x11 then (if 0 ≤ x12 then (if x12 < (x10.length : Int) then ((tillerref13_Begins.f k ((rd_T49 x10 x12).f0) x1).bind fun t298 => (if t298 = true then (if (((rd_T49 x10 x12).f0).length : Int) > x6 then (tillerref13_Longest.l0 k x1 (((rd_T49 x10 x12).f0).length : Int) ((rd_T49 x10 x12).f1) x10 x11 (wrap64 (x12 + 1))) else (tillerref13_Longest.l0 k x1 x6 x7 x10 x11 (wrap64 (x12 + 1)))) else (tillerref13_Longest.l0 k x1 x6 x7 x10 x11 (wrap64 (x12 + 1))))) else (none)) else (none)) else (some (x6, x7))
def tillerref13_Longest.f (k : Nat) (l0 : List (S49)) (l1 : List Int) : Option (Int × Int) := tillerref13_Longest.l0 k l1 0 0 l0 (l0.length : Int) 0
theorem tillerref13_Longest.mono_l : ∀ k, (∀ y0 y1 y2 y3 y4 y5, LeO (tillerref13_Longest.l0 k y0 y1 y2 y3 y4 y5) (tillerref13_Longest.l0 (k + 1) y0 y1 y2 y3 y4 y5))
 | 0 => fun _ _ _ _ _ _ r h => by simp [tillerref13_Longest.l0] at h
 | k + 1 => by
  have ih0 := tillerref13_Longest.mono_l k
  ·intro y0 y1 y2 y3 y4 y5
   unfold tillerref13_Longest.l0
   repeat' first
   | (with_reducible exact ih0 _ _ _ _ _ _)
   | (with_reducible exact tillerref13_Begins.mono _ _ _)
   | (with_reducible exact LeO.refl _)
   | (with_reducible exact LeO.none _)
   | (with_reducible refine LeO.ite ?_ ?_)
   | (with_reducible refine LeO.bind ?_ (fun _ => ?_))
   | exact ih0 _ _ _ _ _ _
   | exact tillerref13_Begins.mono _ _ _
   | exact LeO.none _
   | refine LeO.ite ?_ ?_
   | refine LeO.bind ?_ (fun _ => ?_)
theorem tillerref13_Longest.mono : ∀ a0 a1 k, LeO (tillerref13_Longest.f k a0 a1) (tillerref13_Longest.f (k + 1) a0 a1) := by
 intro a0 a1 k
 have ih0 := tillerref13_Longest.mono_l k
 unfold tillerref13_Longest.f
 repeat' first
   | (with_reducible exact ih0 _ _ _ _ _ _)
   | (with_reducible exact tillerref13_Begins.mono _ _ _)
   | (with_reducible exact LeO.refl _)
   | (with_reducible exact LeO.none _)
   | (with_reducible refine LeO.ite ?_ ?_)
   | (with_reducible refine LeO.bind ?_ (fun _ => ?_))
   | exact ih0 _ _ _ _ _ _
   | exact tillerref13_Begins.mono _ _ _
   | exact LeO.none _
   | refine LeO.ite ?_ ?_
   | refine LeO.bind ?_ (fun _ => ?_)
set_option maxHeartbeats 8000000 in
set_option maxRecDepth 100000 in
theorem tillerref13_Longest.calls (k : Nat) (A0 : Option Addr) (c0 : Nat) (l0 : List (S49)) (A1 : Option Addr) (c1 : Nat) (l1 : List Int) (r1 : Int) (r2 : Int) (w : World) (hr0 : Kd.C k49 w A0 l0.length l0) (hc0 : l0.length ≤ c0) (hr1 : Kd.C (Kd.int .i64) w A1 l1.length l1) (hc1 : l1.length ≤ c1) (h : tillerref13_Longest.f k l0 l1 = some (r1, r2)) :
  Calls Try.prog 24 #[.slice A0 l0.length c0, .slice A1 l1.length c1] w fun e w' => e = .returned (.tuple #[.int .i64 r1, .int .i64 r2]) ∧ Below w.heap.size w w' := by
 have hu49 := Try.underlying49
 have HR0 := Aside0.mk hr0
 have HC0 := Aside0.mk hc0
 clear hr0 hc0
 have HR1 := Aside0.mk hr1
 have HC1 := Aside0.mk hc1
 clear hr1 hc1
 have HB := Aside0.mk (Below.refl w.heap.size w)
 have H : (tillerref13_Longest.l0 k l1 0 0 l0 (l0.length : Int) 0) = some (r1, r2) := h
 clear h
 have H' := Aside0.mk H
 clear H
 go_enter Try.func24, Try.ntmps24
 go_wp2
 go_loopg [6, 7, 12] k (fun kq v6 v7 v12 w' => ∃ (x6_1 : Int) (x7_1 : Int) (x12_1 : Int), v6 = .int .i64 x6_1 ∧ v7 = .int .i64 x7_1 ∧ v12 = .int .i64 x12_1 ∧ Aside0 (tillerref13_Longest.l0 kq l1 x6_1 x7_1 l0 (l0.length : Int) x12_1 = some (r1, r2)) ∧ Aside0 (kq ≤ k) ∧ Aside0 (Below w.heap.size w w'))
 case atStart => exact ⟨(0), (0), (0), (by first | rfl | (simp; done) | (simp [*]; done)), (by first | rfl | (simp; done) | (simp [*]; done)), (by first | rfl | (simp; done) | (simp [*]; done)), H', ⟨Nat.le_refl _⟩, ⟨by repeat (first | (with_reducible first | exact HB.out | apply bwA | apply bwN | apply bwD) | exact HB.out)⟩⟩
 case round =>
  clear H'
  try clear c1
  try clear c2
  try clear p2
  obtain ⟨x6_1, x7_1, x12_1, rfl, rfl, rfl, HA, HK1, HB⟩ := hrel
  cases gk with
  | zero => exact absurd HA.out (by simp [tillerref13_Longest.l0])
  | succ k1 =>
   have H := HA.out
   clear HA
   simp only [tillerref13_Longest.l0] at H
   by_cases c3 : x12_1 < (l0.length : Int)
   ·rw [if_pos c3] at H
    have c3b0 : decide (x12_1 < (l0.length : Int)) = true := decide_eq_true c3
    clear c3
    by_cases c4 : 0 ≤ x12_1
    ·rw [if_pos c4] at H
     have c4b0 : decide (0 ≤ x12_1) = true := decide_eq_true c4
     clear c4
     by_cases c5 : x12_1 < (l0.length : Int)
     ·rw [if_pos c5] at H
      have c5b0 : decide (x12_1 < (l0.length : Int)) = true := decide_eq_true c5
      clear c5
      replace H := Option.bind_eq_some_iff.mp H
      obtain ⟨t298, A60, H⟩ := H
      replace H : (if t298 = true then (if (((rd_T49 l0 x12_1).f0).length : Int) > x6_1 then (tillerref13_Longest.l0 k1 l1 (((rd_T49 l0 x12_1).f0).length : Int) ((rd_T49 l0 x12_1).f1) l0 (l0.length : Int) (wrap64 (x12_1 + 1))) else (tillerref13_Longest.l0 k1 l1 x6_1 x7_1 l0 (l0.length : Int) (wrap64 (x12_1 + 1)))) else (tillerref13_Longest.l0 k1 l1 x6_1 x7_1 l0 (l0.length : Int) (wrap64 (x12_1 + 1)))) = some (r1, r2) := H
      have A6 := Aside0.mk A60
      clear A60
      by_cases c7 : t298 = true
      ·subst c7
       have H1 : (if (((rd_T49 l0 x12_1).f0).length : Int) > x6_1 then (tillerref13_Longest.l0 k1 l1 (((rd_T49 l0 x12_1).f0).length : Int) ((rd_T49 l0 x12_1).f1) l0 (l0.length : Int) (wrap64 (x12_1 + 1))) else (tillerref13_Longest.l0 k1 l1 x6_1 x7_1 l0 (l0.length : Int) (wrap64 (x12_1 + 1)))) = some (r1, r2) := by rw [if_pos rfl] at H; exact H
       clear H
       have H := H1
       clear H1
       by_cases c8 : (((rd_T49 l0 x12_1).f0).length : Int) > x6_1
       ·rw [if_pos c8] at H
        have c8b0 : decide (x6_1 < (((rd_T49 l0 x12_1).f0).length : Int)) = true := decide_eq_true c8
        clear c8
        have H' := Aside0.mk H
        clear H
        have p296 : 0 ≤ (x12_1 : Int) := ofd_
        have q296 : x12_1 < (l0.length : Int) := ofd_
        obtain ⟨ad296, A296_0, c296_0, e296, hx296_0, hx296_1, hl296_0, hi296_0⟩ := at_T49 HR0.out x12_1 p296 q296
        cases e296
        replace hx296_0 := (HB.out.cell (World.block_lt_of_cell? w _ hx296_0)).trans hx296_0
        replace hx296_1 := (HB.out.cell (World.block_lt_of_cell? w _ hx296_1)).trans hx296_1
        have HR296_0 := Aside0.mk hi296_0
        have HC296_0 := Aside0.mk hl296_0
        clear hi296_0 hl296_0
        replace p296 := eq_true p296
        replace q296 := eq_true q296
        go_wp2_with (first | ((with_reducible refine gate_dst (N := 9) rfl ?_); (try (refine gate_guard (by rfl) ?_; dsimp only)); refine box_event ?hg (N := 9) ?hd (cs := #[.slice none 0 0, .int .i64 0]) (t := 49) ?hr ?_; (case hd => rfl); (case hg => rfl); (case hr => first | (go_simp; done) | (go_simp; rfl)); intro gb297 hg w9 hbox hb; have n0_ := Aside0.mk (below_step (by repeat (first | (with_reducible first | exact HB.out | apply bwA | apply bwN | apply bwD) | exact HB.out)) hb); have n1_ := Aside0.mk (hbox); have n2_ := Aside0.mk ((by rw [hg]; exact (below_size (by repeat (first | (with_reducible first | exact HB.out | apply bwA | apply bwN | apply bwD) | exact HB.out))) : w.heap.size ≤ gb297)); have n3_ := Aside0.mk ((by rw [hg]; exact (below_size (by repeat (first | (with_reducible first | exact HB.out | apply bwA | apply bwN | apply bwD) | exact HB.out))) : w.heap.size ≤ gb297)); clear HB; have HB := n0_; have BK297 := n1_; have GW297 := n2_; have GE297 := n3_; clear n0_ n1_ n2_ n3_; clear hb hbox hg; have hcz10_0 : w9.cell? ⟨gb297, 0, none⟩ = some (.slice none 0 0) := (blk_cell BK297.out 0).trans rfl; have hcz10_1 : w9.cell? ⟨gb297, 1, none⟩ = some (.int .i64 0) := (blk_cell BK297.out 1).trans rfl; have hfz10_0 := blk_frozen BK297.out 0; have hfz10_1 := blk_frozen BK297.out 1) | ((with_reducible refine gate_callee (f := 28) rfl ?_); refine goesL_ (some 19) rfl rfl Try.func28 (by kernel_rfl) rfl #[.slice A296_0 ((rd_T49 l0 x12_1).f0).length c296_0, .slice A1 l1.length c1] rfl (by (try simp only [List.map_toArray, List.map_cons, List.map_nil]); first | done | rfl | (simp only [List.length_drop, List.length_take]; rfl)) ?_; (with_reducible refine (tillerref13_Begins.calls k1 _ _ ((rd_T49 l0 x12_1).f0) _ _ l1 true _ ?side1 ?side2 ?side3 ?side4 A6.out).mono ?_); (case side1 => exact Kd.C_below HR296_0.out (by repeat (first | (with_reducible first | exact HB.out | apply bwA | apply bwN | apply bwD | refine below_set ?_ GE297.out) | exact HB.out))); (case side2 => exact HC296_0.out); (case side3 => exact Kd.C_below HR1.out (by repeat (first | (with_reducible first | exact HB.out | apply bwA | apply bwN | apply bwD | refine below_set ?_ GE297.out) | exact HB.out))); (case side4 => exact HC1.out); rintro e w' ⟨rfl, ⟨nd, rfl⟩⟩; refine ⟨_, rfl, ?_⟩))
        go_roundg k1
        case measure => have := HK1.out; omega
        case rel => exact ⟨((((rd_T49 l0 x12_1).f0).length : Int)), ((rd_T49 l0 x12_1).f1), (wrap64 (x12_1 + 1)), (by first | rfl | (simp; done) | (simp [*]; done)), (by first | rfl | (simp; done) | (simp [*]; done)), (by first | rfl | (simp; done) | (simp [*]; done)), H', ⟨by have := HK1.out; omega⟩, ⟨by repeat (first | (with_reducible first | exact HB.out | apply bwA | apply bwN | apply bwD | refine below_set ?_ GE297.out) | exact HB.out)⟩⟩
       ·rw [if_neg c8] at H
        have c8b0 : decide (x6_1 < (((rd_T49 l0 x12_1).f0).length : Int)) = false := decide_eq_false c8
        clear c8
        have H' := Aside0.mk H
        clear H
        have p296 : 0 ≤ (x12_1 : Int) := ofd_
        have q296 : x12_1 < (l0.length : Int) := ofd_
        obtain ⟨ad296, A296_0, c296_0, e296, hx296_0, hx296_1, hl296_0, hi296_0⟩ := at_T49 HR0.out x12_1 p296 q296
        cases e296
        replace hx296_0 := (HB.out.cell (World.block_lt_of_cell? w _ hx296_0)).trans hx296_0
        replace hx296_1 := (HB.out.cell (World.block_lt_of_cell? w _ hx296_1)).trans hx296_1
        have HR296_0 := Aside0.mk hi296_0
        have HC296_0 := Aside0.mk hl296_0
        clear hi296_0 hl296_0
        replace p296 := eq_true p296
        replace q296 := eq_true q296
        go_wp2_with (first | ((with_reducible refine gate_dst (N := 9) rfl ?_); (try (refine gate_guard (by rfl) ?_; dsimp only)); refine box_event ?hg (N := 9) ?hd (cs := #[.slice none 0 0, .int .i64 0]) (t := 49) ?hr ?_; (case hd => rfl); (case hg => rfl); (case hr => first | (go_simp; done) | (go_simp; rfl)); intro gb297 hg w11 hbox hb; have n0_ := Aside0.mk (below_step (by repeat (first | (with_reducible first | exact HB.out | apply bwA | apply bwN | apply bwD) | exact HB.out)) hb); have n1_ := Aside0.mk (hbox); have n2_ := Aside0.mk ((by rw [hg]; exact (below_size (by repeat (first | (with_reducible first | exact HB.out | apply bwA | apply bwN | apply bwD) | exact HB.out))) : w.heap.size ≤ gb297)); have n3_ := Aside0.mk ((by rw [hg]; exact (below_size (by repeat (first | (with_reducible first | exact HB.out | apply bwA | apply bwN | apply bwD) | exact HB.out))) : w.heap.size ≤ gb297)); clear HB; have HB := n0_; have BK297 := n1_; have GW297 := n2_; have GE297 := n3_; clear n0_ n1_ n2_ n3_; clear hb hbox hg; have hcz12_0 : w11.cell? ⟨gb297, 0, none⟩ = some (.slice none 0 0) := (blk_cell BK297.out 0).trans rfl; have hcz12_1 : w11.cell? ⟨gb297, 1, none⟩ = some (.int .i64 0) := (blk_cell BK297.out 1).trans rfl; have hfz12_0 := blk_frozen BK297.out 0; have hfz12_1 := blk_frozen BK297.out 1) | ((with_reducible refine gate_callee (f := 28) rfl ?_); refine goesL_ (some 19) rfl rfl Try.func28 (by kernel_rfl) rfl #[.slice A296_0 ((rd_T49 l0 x12_1).f0).length c296_0, .slice A1 l1.length c1] rfl (by (try simp only [List.map_toArray, List.map_cons, List.map_nil]); first | done | rfl | (simp only [List.length_drop, List.length_take]; rfl)) ?_; (with_reducible refine (tillerref13_Begins.calls k1 _ _ ((rd_T49 l0 x12_1).f0) _ _ l1 true _ ?side1 ?side2 ?side3 ?side4 A6.out).mono ?_); (case side1 => exact Kd.C_below HR296_0.out (by repeat (first | (with_reducible first | exact HB.out | apply bwA | apply bwN | apply bwD | refine below_set ?_ GE297.out) | exact HB.out))); (case side2 => exact HC296_0.out); (case side3 => exact Kd.C_below HR1.out (by repeat (first | (with_reducible first | exact HB.out | apply bwA | apply bwN | apply bwD | refine below_set ?_ GE297.out) | exact HB.out))); (case side4 => exact HC1.out); rintro e w' ⟨rfl, ⟨nd, rfl⟩⟩; refine ⟨_, rfl, ?_⟩))
        go_roundg k1
        case measure => have := HK1.out; omega
        case rel => exact ⟨(x6_1), (x7_1), (wrap64 (x12_1 + 1)), (by first | rfl | (simp; done) | (simp [*]; done)), (by first | rfl | (simp; done) | (simp [*]; done)), (by first | rfl | (simp; done) | (simp [*]; done)), H', ⟨by have := HK1.out; omega⟩, ⟨by repeat (first | (with_reducible first | exact HB.out | apply bwA | apply bwN | apply bwD | refine below_set ?_ GE297.out) | exact HB.out)⟩⟩
      ·replace c7 := Bool.eq_false_iff.mpr c7
       subst c7
       have H1 : (tillerref13_Longest.l0 k1 l1 x6_1 x7_1 l0 (l0.length : Int) (wrap64 (x12_1 + 1))) = some (r1, r2) := by rw [if_neg (show ¬ (false = true) by decide)] at H; exact H
       clear H
       have H := H1
       clear H1
       have H' := Aside0.mk H
       clear H
       have p296 : 0 ≤ (x12_1 : Int) := ofd_
       have q296 : x12_1 < (l0.length : Int) := ofd_
       obtain ⟨ad296, A296_0, c296_0, e296, hx296_0, hx296_1, hl296_0, hi296_0⟩ := at_T49 HR0.out x12_1 p296 q296
       cases e296
       replace hx296_0 := (HB.out.cell (World.block_lt_of_cell? w _ hx296_0)).trans hx296_0
       replace hx296_1 := (HB.out.cell (World.block_lt_of_cell? w _ hx296_1)).trans hx296_1
       have HR296_0 := Aside0.mk hi296_0
       have HC296_0 := Aside0.mk hl296_0
       clear hi296_0 hl296_0
       replace p296 := eq_true p296
       replace q296 := eq_true q296
       go_wp2_with (first | ((with_reducible refine gate_dst (N := 9) rfl ?_); (try (refine gate_guard (by rfl) ?_; dsimp only)); refine box_event ?hg (N := 9) ?hd (cs := #[.slice none 0 0, .int .i64 0]) (t := 49) ?hr ?_; (case hd => rfl); (case hg => rfl); (case hr => first | (go_simp; done) | (go_simp; rfl)); intro gb297 hg w13 hbox hb; have n0_ := Aside0.mk (below_step (by repeat (first | (with_reducible first | exact HB.out | apply bwA | apply bwN | apply bwD) | exact HB.out)) hb); have n1_ := Aside0.mk (hbox); have n2_ := Aside0.mk ((by rw [hg]; exact (below_size (by repeat (first | (with_reducible first | exact HB.out | apply bwA | apply bwN | apply bwD) | exact HB.out))) : w.heap.size ≤ gb297)); have n3_ := Aside0.mk ((by rw [hg]; exact (below_size (by repeat (first | (with_reducible first | exact HB.out | apply bwA | apply bwN | apply bwD) | exact HB.out))) : w.heap.size ≤ gb297)); clear HB; have HB := n0_; have BK297 := n1_; have GW297 := n2_; have GE297 := n3_; clear n0_ n1_ n2_ n3_; clear hb hbox hg; have hcz14_0 : w13.cell? ⟨gb297, 0, none⟩ = some (.slice none 0 0) := (blk_cell BK297.out 0).trans rfl; have hcz14_1 : w13.cell? ⟨gb297, 1, none⟩ = some (.int .i64 0) := (blk_cell BK297.out 1).trans rfl; have hfz14_0 := blk_frozen BK297.out 0; have hfz14_1 := blk_frozen BK297.out 1) | ((with_reducible refine gate_callee (f := 28) rfl ?_); refine goesL_ (some 19) rfl rfl Try.func28 (by kernel_rfl) rfl #[.slice A296_0 ((rd_T49 l0 x12_1).f0).length c296_0, .slice A1 l1.length c1] rfl (by (try simp only [List.map_toArray, List.map_cons, List.map_nil]); first | done | rfl | (simp only [List.length_drop, List.length_take]; rfl)) ?_; (with_reducible refine (tillerref13_Begins.calls k1 _ _ ((rd_T49 l0 x12_1).f0) _ _ l1 false _ ?side1 ?side2 ?side3 ?side4 A6.out).mono ?_); (case side1 => exact Kd.C_below HR296_0.out (by repeat (first | (with_reducible first | exact HB.out | apply bwA | apply bwN | apply bwD | refine below_set ?_ GE297.out) | exact HB.out))); (case side2 => exact HC296_0.out); (case side3 => exact Kd.C_below HR1.out (by repeat (first | (with_reducible first | exact HB.out | apply bwA | apply bwN | apply bwD | refine below_set ?_ GE297.out) | exact HB.out))); (case side4 => exact HC1.out); rintro e w' ⟨rfl, ⟨nd, rfl⟩⟩; refine ⟨_, rfl, ?_⟩))
       go_roundg k1
       case measure => have := HK1.out; omega
       case rel => exact ⟨(x6_1), (x7_1), (wrap64 (x12_1 + 1)), (by first | rfl | (simp; done) | (simp [*]; done)), (by first | rfl | (simp; done) | (simp [*]; done)), (by first | rfl | (simp; done) | (simp [*]; done)), H', ⟨by have := HK1.out; omega⟩, ⟨by repeat (first | (with_reducible first | exact HB.out | apply bwA | apply bwN | apply bwD | refine below_set ?_ GE297.out) | exact HB.out)⟩⟩
     ·rw [if_neg c5] at H
      exact absurd H (by simp)
    ·rw [if_neg c4] at H
     exact absurd H (by simp)
   ·rw [if_neg c3] at H
    have c3b0 : decide (x12_1 < (l0.length : Int)) = false := decide_eq_false c3
    clear c3
    simp only [Option.some.injEq, Prod.mk.injEq] at H
    obtain ⟨rfl, rfl⟩ := H
    go_wp2
    go_ret2
    exact ⟨by first | rfl | (simp [errW_none, errW_some] <;> rfl) | (simp [*, errW_none, errW_some] <;> rfl), by repeat (first | (with_reducible first | exact HB.out | apply bwA | apply bwN | apply bwD) | exact HB.out)⟩

end Go.Proofs.Ytfnogcppbhggpaa.GQ
