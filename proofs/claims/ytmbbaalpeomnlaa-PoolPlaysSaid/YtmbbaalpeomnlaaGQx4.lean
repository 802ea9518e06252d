-- written by this session's program gprint.py
import Derived.Test.YtmbbaalpeomnlaaGQx0
import Derived.Test.YtmbbaalpeomnlaaGQx2
import Derived.Test.YtmbbaalpeomnlaaGQx3
import Derived.Test.YtmbbaalpeomnlaaWApart
import Derived.Test.YtmbbaalpeomnlaaWGuard
import Derived.Test.YtmbbaalpeomnlaaWLast
import Derived.Test.YtmbbaalpeomnlaaWMore
import Derived.Test.YtmbbaalpeomnlaaWWords
namespace Go.Proofs.Ytmbbaalpeomnlaa.GQ
open Go.RowKit Go.Proofs.YtmbbaalpeomnlaaW.PrintWords Go.Proofs.YtmbbaalpeomnlaaW.PrintLast Go.Proofs.YtmbbaalpeomnlaaW.PrintMore
attribute [local go_sem] max2_int min2_int max_two min_two max_three min_three max_four min_four   -- for this text's walks alone
set_option linter.unusedVariables false
set_option linter.unusedSimpArgs false

/-! ### tillerref12_Take: function 26 -/
def tillerref12_Take.l0 : Nat → Int → Int → List (S70) → List Int → Option ((List (S70)) × List Int × Int × Int × Bool × Int)
 | 0, _, _, _, _ => none
 | k + 1, x12, x13, x143000, x143001 => if x13 < x12 then ((tillerref12_Free.f x143000 x143001 x13).bind fun t144 => (if t144 = true then ((tillerref12_with.f x143000 x143001 x13 1 false 0).bind fun bt145 => (some (bt145.1, bt145.2, x13, 0, false, 0))) else (tillerref12_Take.l0 k x12 (wrap64 (x13 + 1)) x143000 x143001))) else (if (x143001.length : Int) = 0 then (some (x143000, x143001, 0, 0, false, 10)) else (if 0 < (x143001.length : Int) then (if 0 ≤ (rd x143001 0) then (if (rd x143001 0) < (x143000.length : Int) then ((tillerref12_less.f k x143000 x143001 (rd x143001 0)).bind fun bt153 => ((tillerref12_with.f bt153.1 bt153.2 (rd x143001 0) 1 false 0).bind fun bt159 => (some (bt159.1, bt159.2, rd x143001 0, (rd_T70 x143000 (rd x143001 0)).f2, true, 0)))) else (none)) else (none)) else (none)))
def tillerref12_Take.f (k : Nat) (l0_0 : List (S70)) (l0_1 : List Int) : Option ((List (S70)) × List Int × Int × Int × Bool × Int) := tillerref12_Take.l0 k (l0_0.length : Int) 0 l0_0 l0_1
theorem tillerref12_Take.mono_l : ∀ k, (∀ y0 y1 y2 y3, LeO (tillerref12_Take.l0 k y0 y1 y2 y3) (tillerref12_Take.l0 (k + 1) y0 y1 y2 y3))
 | 0 => fun _ _ _ _ r h => by simp [tillerref12_Take.l0] at h
 | k + 1 => by
  have ih0 := tillerref12_Take.mono_l k
  ·intro y0 y1 y2 y3
   unfold tillerref12_Take.l0
   repeat' first
   | (with_reducible exact ih0 _ _ _ _)
   | (with_reducible exact tillerref12_less.mono _ _ _ _)
   | (with_reducible exact LeO.refl _)
   | (with_reducible exact LeO.none _)
   | (with_reducible refine LeO.ite ?_ ?_)
   | (with_reducible refine LeO.bind ?_ (fun _ => ?_))
   | exact ih0 _ _ _ _
   | exact tillerref12_less.mono _ _ _ _
   | exact LeO.none _
   | refine LeO.ite ?_ ?_
   | refine LeO.bind ?_ (fun _ => ?_)
theorem tillerref12_Take.mono : ∀ a0 a1 k, LeO (tillerref12_Take.f k a0 a1) (tillerref12_Take.f (k + 1) a0 a1) := by
 intro a0 a1 k
 have ih0 := tillerref12_Take.mono_l k
 unfold tillerref12_Take.f
 repeat' first
   | (with_reducible exact ih0 _ _ _ _)
   | (with_reducible exact tillerref12_less.mono _ _ _ _)
   | (with_reducible exact LeO.refl _)
   | (with_reducible exact LeO.none _)
   | (with_reducible refine LeO.ite ?_ ?_)
   | (with_reducible refine LeO.bind ?_ (fun _ => ?_))
   | exact ih0 _ _ _ _
   | exact tillerref12_less.mono _ _ _ _
   | exact LeO.none _
   | refine LeO.ite ?_ ?_
   | refine LeO.bind ?_ (fun _ => ?_)
set_option maxHeartbeats 8000000 in
set_option maxRecDepth 100000 in
theorem tillerref12_Take.calls (k : Nat) (P0_0_ : Nat → Prop) (A0_0 : Option Addr) (c0_0 : Nat) (l0_0 : List (S70)) (P0_1_ : Nat → Prop) (A0_1 : Option Addr) (c0_1 : Nat) (l0_1 : List Int) (r1 : List (S70)) (r2 : List Int) (r3 : Int) (r4 : Int) (r5 : Bool) (r6 : Int) (w : World) (hs0_0 : Kd.V k70 70 w w.heap.size (fun k_ => P0_0_ k_) (.slice A0_0 l0_0.length c0_0) l0_0) (hs0_1 : Kd.V (Kd.int .i64) 3 w w.heap.size (fun k_ => P0_1_ k_) (.slice A0_1 l0_1.length c0_1) l0_1) (h : tillerref12_Take.f k l0_0 l0_1 = some (r1, r2, r3, r4, r5, r6)) :
  Calls Try.prog 26 #[.agg #[.slice A0_0 l0_0.length c0_0, .slice A0_1 l0_1.length c0_1]] w fun e w' => ∃ v0_ v1_ : Value, e = .returned (.tuple #[.agg #[v0_, v1_], .int .i64 r3, .int .i64 r4, .bool r5, .int .i64 r6]) ∧ Kd.V k70 70 w' w.heap.size (fun k_ => ((P0_0_ k_ ∨ P0_1_ k_) ∨ w.heap.size ≤ k_)) v0_ r1 ∧ Kd.V (Kd.int .i64) 3 w' w.heap.size (fun k_ => ((P0_0_ k_ ∨ P0_1_ k_) ∨ w.heap.size ≤ k_)) v1_ r2 ∧ Below w.heap.size w w' := by
 have hu43 := Try.underlying43
 have hu70 := Try.underlying70
 have HO0_0 := Aside0.mk (show Kd.V k70 70 w w.heap.size (fun k_ => ((P0_0_ k_ ∨ P0_1_ k_) ∨ w.heap.size ≤ k_)) (.slice A0_0 l0_0.length c0_0) l0_0 from Kd.V_mono hs0_0 (fun k_ hk => .inl (.inl hk)))
 have HO0_1 := Aside0.mk (show Kd.V (Kd.int .i64) 3 w w.heap.size (fun k_ => ((P0_0_ k_ ∨ P0_1_ k_) ∨ w.heap.size ≤ k_)) (.slice A0_1 l0_1.length c0_1) l0_1 from Kd.V_mono hs0_1 (fun k_ hk => .inl (.inr hk)))
 have HB := Aside0.mk (Below.refl w.heap.size w)
 have H : (tillerref12_Take.l0 k (l0_0.length : Int) 0 l0_0 l0_1) = some (r1, r2, r3, r4, r5, r6) := h
 clear h
 have H' := Aside0.mk H
 clear H
 go_enter Try.func26, Try.ntmps26
 go_wp2_with (first | ((with_reducible refine gate_dst (N := 1) rfl ?_); refine box_event ?hg (N := 1) ?hd (cs := #[.slice A0_0 l0_0.length c0_0, .slice A0_1 l0_1.length c0_1]) (t := 43) ?hr ?_; (case hd => rfl); (case hg => rfl); (case hr => first | (go_simp; done) | (go_simp; rfl)); intro gb142 hg w2 hbox hb; have n0_ := Aside0.mk (Kd.V_below (Kd.V_elderB (by (with_reducible repeat (first | apply Kd.V_alloc | apply Kd.V_drewN | apply Kd.V_drew)); exact HO0_0.out) gb142 (Nat.le_of_eq hg.symm)) hb); have n1_ := Aside0.mk (Kd.V_below (Kd.V_elderB (by (with_reducible repeat (first | apply Kd.V_alloc | apply Kd.V_drewN | apply Kd.V_drew)); exact HO0_1.out) gb142 (Nat.le_of_eq hg.symm)) hb); have n2_ := Aside0.mk (below_step (by repeat (first | (with_reducible first | exact HB.out | apply bwA | apply bwN | apply bwD) | exact HB.out)) hb); have n3_ := Aside0.mk (hbox); have n4_ := Aside0.mk ((by rw [hg]; exact (below_size (by repeat (first | (with_reducible first | exact HB.out | apply bwA | apply bwN | apply bwD) | exact HB.out))) : w.heap.size ≤ gb142)); have n5_ := Aside0.mk ((by rw [hg]; exact (below_size (by repeat (first | (with_reducible first | exact HB.out | apply bwA | apply bwN | apply bwD) | exact HB.out))) : w.heap.size ≤ gb142)); clear HO0_0; clear HO0_1; clear HB; have HO0_0 := n0_; have HO0_1 := n1_; have HB := n2_; have BK142 := n3_; have GW142 := n4_; have GE142 := n5_; clear n0_ n1_ n2_ n3_ n4_ n5_; clear hb hbox hg) | ((with_reducible refine gate_dst (N := 2) rfl ?_); refine box_event ?hg (N := 2) ?hd (cs := #[.slice none 0 0, .slice none 0 0]) (t := 43) ?hr ?_; (case hd => rfl); (case hg => rfl); (case hr => first | (go_simp; done) | (go_simp; rfl)); intro gb143 hg w3 hbox hb; have n0_ := Aside0.mk (Kd.V_below (Kd.V_elderB (by (with_reducible repeat (first | apply Kd.V_alloc | apply Kd.V_drewN | apply Kd.V_drew)); exact HO0_0.out) gb143 (Nat.le_of_eq hg.symm)) hb); have n1_ := Aside0.mk (Kd.V_below (Kd.V_elderB (by (with_reducible repeat (first | apply Kd.V_alloc | apply Kd.V_drewN | apply Kd.V_drew)); exact HO0_1.out) gb143 (Nat.le_of_eq hg.symm)) hb); have n2_ := Aside0.mk (blk_below (g := gb142) (o := .cells #[.slice A0_0 l0_0.length c0_0, .slice A0_1 l0_1.length c0_1] 43 (0, 0)) (by (with_reducible repeat (first | apply bkN | apply bkD | apply bkA)); exact BK142.out) hb); have n3_ := Aside0.mk (below_step (by repeat (first | (with_reducible first | exact HB.out | apply bwA | apply bwN | apply bwD | refine below_set ?_ GE142.out) | exact HB.out)) hb); have n4_ := Aside0.mk (hbox); have n5_ := Aside0.mk ((by rw [hg]; exact (below_size (by repeat (first | (with_reducible first | exact HB.out | apply bwA | apply bwN | apply bwD | refine below_set ?_ GE142.out) | exact HB.out))) : w.heap.size ≤ gb143)); have n6_ := Aside0.mk ((by rw [hg]; exact (below_size (by repeat (first | (with_reducible first | exact HB.out | apply bwA | apply bwN | apply bwD | refine below_set ?_ GE142.out) | exact HB.out))) : w.heap.size ≤ gb143)); have n7_ := Aside0.mk ((by rw [hg]; exact Nat.ne_of_lt (blk_lt (g := gb142) (o := .cells #[.slice A0_0 l0_0.length c0_0, .slice A0_1 l0_1.length c0_1] 43 (0, 0)) (by (with_reducible repeat (first | apply bkN | apply bkD | apply bkA)); exact BK142.out)) : gb142 ≠ gb143)); have n8_ := Aside0.mk ((by rw [hg]; exact Nat.ne_of_gt (blk_lt (g := gb142) (o := .cells #[.slice A0_0 l0_0.length c0_0, .slice A0_1 l0_1.length c0_1] 43 (0, 0)) (by (with_reducible repeat (first | apply bkN | apply bkD | apply bkA)); exact BK142.out)) : gb143 ≠ gb142)); clear HO0_0; clear HO0_1; clear BK142; clear HB; have HO0_0 := n0_; have HO0_1 := n1_; have BK142 := n2_; have HB := n3_; have BK143 := n4_; have GW143 := n5_; have GE143 := n6_; have NB142_143 := n7_; have NB143_142 := n8_; clear n0_ n1_ n2_ n3_ n4_ n5_ n6_ n7_ n8_; clear hb hbox hg; have hnb4 := NB142_143.out; have hnc4 := NB143_142.out; have hcz5_0 : w3.cell? ⟨gb142, 0, none⟩ = some (.slice A0_0 l0_0.length c0_0) := (blk_cell BK142.out 0).trans rfl; have hcz5_1 : w3.cell? ⟨gb142, 1, none⟩ = some (.slice A0_1 l0_1.length c0_1) := (blk_cell BK142.out 1).trans rfl; have hfz5_0 := blk_frozen BK142.out 0; have hfz5_1 := blk_frozen BK142.out 1))
 go_loopg [13] k (fun kq v13 w' => ∃ (x13_1 : Int), v13 = .int .i64 x13_1 ∧ Aside0 (tillerref12_Take.l0 kq (l0_0.length : Int) x13_1 l0_0 l0_1 = some (r1, r2, r3, r4, r5, r6)) ∧ Aside0 (kq ≤ k) ∧ Aside0 (Kd.V k70 70 w' w.heap.size (fun k_ => ((P0_0_ k_ ∨ P0_1_ k_) ∨ w.heap.size ≤ k_) ∧ k_ ≠ gb142 ∧ k_ ≠ gb143) (.slice A0_0 l0_0.length c0_0) l0_0) ∧ Aside0 (Kd.V (Kd.int .i64) 3 w' w.heap.size (fun k_ => ((P0_0_ k_ ∨ P0_1_ k_) ∨ w.heap.size ≤ k_) ∧ k_ ≠ gb142 ∧ k_ ≠ gb143) (.slice A0_1 l0_1.length c0_1) l0_1) ∧ Aside0 (w'.heap[gb142]? = some (.cells #[(.slice A0_0 l0_0.length c0_0), (.slice A0_1 l0_1.length c0_1)] 43 (0, 0))) ∧ Aside0 (w'.heap[gb143]? = some (.cells #[(.slice none 0 0), (.slice none 0 0)] 43 (0, 0))) ∧ Aside0 (Below w.heap.size w w'))
 case atStart => exact ⟨(0), (by first | rfl | (simp; done) | (simp [*]; done)), H', ⟨Nat.le_refl _⟩, ⟨by (with_reducible repeat (first | apply Kd.V_alloc | apply Kd.V_drewN | apply Kd.V_drew)); exact Kd.V_mono HO0_0.out (fun _ hk => ⟨hk.1.1, ⟨hk.1.2, hk.2⟩⟩)⟩, ⟨by (with_reducible repeat (first | apply Kd.V_alloc | apply Kd.V_drewN | apply Kd.V_drew)); exact Kd.V_mono HO0_1.out (fun _ hk => ⟨hk.1.1, ⟨hk.1.2, hk.2⟩⟩)⟩, ⟨by (with_reducible repeat (first | apply bkN | apply bkD | apply bkA)); exact BK142.out⟩, ⟨by (with_reducible repeat (first | apply bkN | apply bkD | apply bkA)); exact BK143.out⟩, ⟨by repeat (first | (with_reducible first | exact HB.out | apply bwA | apply bwN | apply bwD | refine below_set ?_ GE142.out | refine below_set ?_ GE143.out) | exact HB.out)⟩⟩
 case round =>
  clear H'
  try clear c2
  try clear p2
  try clear c4
  try clear hcz5_0
  try clear hcz5_1
  try clear hfz5_0
  try clear hfz5_1
  obtain ⟨x13_1, rfl, HA, HK1, HO_143000, HO_143001, BK142, BK143, HB⟩ := hrel
  cases gk with
  | zero => exact absurd HA.out (by simp [tillerref12_Take.l0])
  | succ k1 =>
   have H := HA.out
   clear HA
   simp only [tillerref12_Take.l0] at H
   by_cases c6 : x13_1 < (l0_0.length : Int)
   ·rw [if_pos c6] at H
    have c6b0 : decide (x13_1 < (l0_0.length : Int)) = true := decide_eq_true c6
    clear c6
    replace H := Option.bind_eq_some_iff.mp H
    obtain ⟨t144, A70, H⟩ := H
    replace H : (if t144 = true then ((tillerref12_with.f l0_0 l0_1 x13_1 1 false 0).bind fun bt145 => (some (bt145.1, bt145.2, x13_1, 0, false, 0))) else (tillerref12_Take.l0 k1 (l0_0.length : Int) (wrap64 (x13_1 + 1)) l0_0 l0_1)) = some (r1, r2, r3, r4, r5, r6) := H
    have A7 := Aside0.mk A70
    clear A70
    by_cases c8 : t144 = true
    ·subst c8
     have H1 : ((tillerref12_with.f l0_0 l0_1 x13_1 1 false 0).bind fun bt145 => (some (bt145.1, bt145.2, x13_1, 0, false, 0))) = some (r1, r2, r3, r4, r5, r6) := by rw [if_pos rfl] at H; exact H
     clear H
     have H := H1
     clear H1
     replace H := Option.bind_eq_some_iff.mp H
     obtain ⟨⟨t145, t148⟩, A90, H⟩ := H
     replace H : (some (t145, t148, x13_1, 0, false, 0)) = some (r1, r2, r3, r4, r5, r6) := H
     have A9 := Aside0.mk A90
     clear A90
     simp only [Option.some.injEq, Prod.mk.injEq] at H
     obtain ⟨rfl, rfl, rfl, rfl, rfl, rfl⟩ := H
     have hnb10 := NB142_143.out
     have hnc10 := NB143_142.out
     have hcz11_0 : wr.cell? ⟨gb142, 0, none⟩ = some (.slice A0_0 l0_0.length c0_0) := (blk_cell BK142.out 0).trans rfl
     have hcz11_1 : wr.cell? ⟨gb142, 1, none⟩ = some (.slice A0_1 l0_1.length c0_1) := (blk_cell BK142.out 1).trans rfl
     have hfz11_0 := blk_frozen BK142.out 0
     have hfz11_1 := blk_frozen BK142.out 1
     go_wp2_with (first | ((with_reducible refine gate_callee (f := 33) rfl ?_); refine goesL_ (some 18) rfl rfl Try.func33 (by kernel_rfl) rfl #[.agg #[.slice A0_0 l0_0.length c0_0, .slice A0_1 l0_1.length c0_1], .int .i64 x13_1] rfl (by (try simp only [List.map_toArray, List.map_cons, List.map_nil]); first | done | rfl | (simp only [List.length_drop, List.length_take]; rfl)) ?_; (with_reducible refine (tillerref12_Free.calls _ _ l0_0 _ _ l0_1 x13_1 true _ ?side1 ?side2 ?side3 ?side4 A7.out).mono ?_); (case side1 => repeat (first | exact (Kd.V_reads' HO_143000.out).2.2 | (with_reducible refine Kd.C_alloc ?_ _) | (with_reducible refine Kd.C_drewN ?_ _) | (with_reducible refine Kd.C_drew ?_))); (case side2 => exact (Kd.V_reads' HO_143000.out).2.1); (case side3 => repeat (first | exact (Kd.V_reads' HO_143001.out).2.2 | (with_reducible refine Kd.C_alloc ?_ _) | (with_reducible refine Kd.C_drewN ?_ _) | (with_reducible refine Kd.C_drew ?_))); (case side4 => exact (Kd.V_reads' HO_143001.out).2.1); rintro e w12 ⟨rfl, hb⟩; refine ⟨_, rfl, ?_⟩; have n0_ := Aside0.mk (Kd.V_below (by (with_reducible repeat (first | apply Kd.V_alloc | apply Kd.V_drewN | apply Kd.V_drew)); exact HO_143000.out) hb); have n1_ := Aside0.mk (Kd.V_below (by (with_reducible repeat (first | apply Kd.V_alloc | apply Kd.V_drewN | apply Kd.V_drew)); exact HO_143001.out) hb); have n2_ := Aside0.mk (blk_below (g := gb142) (o := .cells #[.slice A0_0 l0_0.length c0_0, .slice A0_1 l0_1.length c0_1] 43 (0, 0)) (by (with_reducible repeat (first | apply bkN | apply bkD | apply bkA)); exact BK142.out) hb); have n3_ := Aside0.mk (blk_below (g := gb143) (o := .cells #[.slice none 0 0, .slice none 0 0] 43 (0, 0)) (by (with_reducible repeat (first | apply bkN | apply bkD | apply bkA)); exact BK143.out) hb); have n4_ := Aside0.mk (below_step (by repeat (first | (with_reducible first | exact HB.out | apply bwA | apply bwN | apply bwD | refine below_set ?_ GE142.out | refine below_set ?_ GE143.out) | exact HB.out)) hb); clear HO_143000; clear HO_143001; clear BK142; clear BK143; clear HB; have HO_143000 := n0_; have HO_143001 := n1_; have BK142 := n2_; have BK143 := n3_; have HB := n4_; clear n0_ n1_ n2_ n3_ n4_; (try clear hb); (try clear hb2); (try clear hk); (try clear hi); have hcz13_0 : w12.cell? ⟨gb142, 0, none⟩ = some (.slice A0_0 l0_0.length c0_0) := (blk_cell BK142.out 0).trans rfl; have hcz13_1 : w12.cell? ⟨gb142, 1, none⟩ = some (.slice A0_1 l0_1.length c0_1) := (blk_cell BK142.out 1).trans rfl; have hfz13_0 := blk_frozen BK142.out 0; have hfz13_1 := blk_frozen BK142.out 1) | ((with_reducible refine gate_callee (f := 34) rfl ?_); refine goesL_ (some 22) rfl rfl Try.func34 (by kernel_rfl) rfl #[.agg #[.slice A0_0 l0_0.length c0_0, .slice A0_1 l0_1.length c0_1], .int .i64 x13_1, .agg #[.int .i64 1, .bool false, .int .i64 0]] rfl (by (try simp only [List.map_toArray, List.map_cons, List.map_nil]); first | done | rfl | (simp only [List.length_drop, List.length_take]; rfl)) ?_; (with_reducible refine (tillerref12_with.calls _ _ l0_0 (fun k_ => (((P0_0_ k_ ∨ P0_1_ k_) ∨ w.heap.size ≤ k_) ∧ (k_ ≠ gb142 ∧ k_ ≠ gb143))) _ _ l0_1 x13_1 1 false 0 t145 t148 _ ?side1 ?side2 ?side3 A9.out).mono ?_); (case side1 => repeat (first | exact (Kd.V_reads' HO_143000.out).2.2 | (with_reducible refine Kd.C_alloc ?_ _) | (with_reducible refine Kd.C_drewN ?_ _) | (with_reducible refine Kd.C_drew ?_))); (case side2 => exact (Kd.V_reads' HO_143000.out).2.1); (case side3 => exact HO_143001.out); rintro e w14 ⟨v146, v149, rfl, ho0, ho1, hb⟩; refine ⟨_, rfl, ?_⟩; have n0_ := Aside0.mk (Kd.V_elder' (by (with_reducible repeat (first | apply Kd.V_alloc | apply Kd.V_drewN | apply Kd.V_drew)); exact HO_143000.out) (Kd.R_base ho0) hb); have n1_ := Aside0.mk (Kd.V_elder' (by (with_reducible repeat (first | apply Kd.V_alloc | apply Kd.V_drewN | apply Kd.V_drew)); exact HO_143001.out) (Kd.R_base ho0) hb); have n2_ := Aside0.mk (Kd.R_lower (Kd.R_newM (M := fun k_ => (w.heap.size ≤ k_)) (Kd.R_mono (ok' := fun k_ => True) ho0 (fun _ hk_ => trivial)) (below_size (by repeat (first | (with_reducible first | exact HB.out | apply bwA | apply bwN | apply bwD | refine below_set ?_ GE142.out | refine below_set ?_ GE143.out) | exact HB.out))) (fun k_ h_ => h_)) (below_size (by repeat (first | (with_reducible first | exact HB.out | apply bwA | apply bwN | apply bwD | refine below_set ?_ GE142.out | refine below_set ?_ GE143.out) | exact HB.out)))); have n3_ := Aside0.mk (Kd.V_lower (Kd.V_mono (ok' := fun k_ => ((P0_0_ k_ ∨ P0_1_ k_) ∨ w.heap.size ≤ k_) ∧ some k_ ≠ (v146 : Value).ownBlock ∧ k_ ≠ gb142 ∧ k_ ≠ gb143) ho1 (fun k_ hk_ => ⟨Or.elim hk_.1 (fun hs_ => hs_.1) (fun hn_ => (.inr (Nat.le_trans (below_size (by repeat (first | (with_reducible first | exact HB.out | apply bwA | apply bwN | apply bwD | refine below_set ?_ GE142.out | refine below_set ?_ GE143.out) | exact HB.out))) hn_))), hk_.2, Or.elim hk_.1 (fun hs_ => hs_.2.1) (fun hn_ => (Kd.freshB (g := gb142) (o := .cells #[.slice A0_0 l0_0.length c0_0, .slice A0_1 l0_1.length c0_1] 43 (0, 0)) (by (with_reducible repeat (first | apply bkN | apply bkD | apply bkA)); exact BK142.out) k_ hn_)), Or.elim hk_.1 (fun hs_ => hs_.2.2) (fun hn_ => (Kd.freshB (g := gb143) (o := .cells #[.slice none 0 0, .slice none 0 0] 43 (0, 0)) (by (with_reducible repeat (first | apply bkN | apply bkD | apply bkA)); exact BK143.out) k_ hn_))⟩)) (below_size (by repeat (first | (with_reducible first | exact HB.out | apply bwA | apply bwN | apply bwD | refine below_set ?_ GE142.out | refine below_set ?_ GE143.out) | exact HB.out)))); have n4_ := Aside0.mk (blk_below (g := gb142) (o := .cells #[.slice A0_0 l0_0.length c0_0, .slice A0_1 l0_1.length c0_1] 43 (0, 0)) (by (with_reducible repeat (first | apply bkN | apply bkD | apply bkA)); exact BK142.out) hb); have n5_ := Aside0.mk (blk_below (g := gb143) (o := .cells #[.slice none 0 0, .slice none 0 0] 43 (0, 0)) (by (with_reducible repeat (first | apply bkN | apply bkD | apply bkA)); exact BK143.out) hb); have n6_ := Aside0.mk (below_step (by repeat (first | (with_reducible first | exact HB.out | apply bwA | apply bwN | apply bwD | refine below_set ?_ GE142.out | refine below_set ?_ GE143.out) | exact HB.out)) hb); clear HO_143000; clear HO_143001; clear BK142; clear BK143; clear HB; have HO_143000 := n0_; have HO_143001 := n1_; have HO147 := n2_; have HO150 := n3_; have BK142 := n4_; have BK143 := n5_; have HB := n6_; clear n0_ n1_ n2_ n3_ n4_ n5_ n6_; (try clear hb); (try clear hb2); (try clear hk); (try clear hi); (try clear ho0); (try clear ho1); obtain ⟨Ao15, co15, eo15⟩ := Kd.R_slice HO147.out; subst eo15; have hcz16_0 : w14.cell? ⟨gb143, 0, none⟩ = some (.slice none 0 0) := (blk_cell BK143.out 0).trans rfl; have hcz16_1 : w14.cell? ⟨gb143, 1, none⟩ = some (.slice none 0 0) := (blk_cell BK143.out 1).trans rfl; have hfz16_0 := blk_frozen BK143.out 0; have hfz16_1 := blk_frozen BK143.out 1; obtain ⟨Ao17, co17, eo17⟩ := Kd.V_slice HO150.out; subst eo17))
     refine bodyPost_ret (results_list (rs := [.cell 2 43, .tmp 3, .tmp 4, .tmp 5, .tmp 6]) rfl (by simp) (.cell gb143 43 #[.slice Ao15 t145.length co15, .slice Ao17 t148.length co17] (0, 0) _ rfl (by (with_reducible repeat (first | apply bkN | apply bkD | apply bkA)); refine blk_put (cs := #[.slice Ao15 t145.length co15, .slice none 0 0]) ?_ 1 _ rfl; (with_reducible repeat (first | apply bkN | apply bkD | apply bkA)); refine blk_put (cs := #[.slice none 0 0, .slice none 0 0]) ?_ 0 _ rfl; (with_reducible repeat (first | apply bkN | apply bkD | apply bkA)); exact BK143.out) Try.underlying43 rfl (by kernel_rfl) (.tmp (.tmp (.tmp (.tmp .nil)))))) rfl ?_
     exact ⟨_, _, by first | rfl | (simp [errW_none, errW_some] <;> rfl) | (simp [*, errW_none, errW_some] <;> rfl), Kd.V_mono (Kd.R_V (by (with_reducible repeat (first | apply rwA | apply rwN | apply rwD)); exact Kd.R_mono (Kd.R_far (p := ⟨gb143, 1, none⟩) (Kd.R_far (p := ⟨gb143, 0, none⟩) (Kd.R_types HO147.out BK143.out (by decide)) (fun _ hk => hk.2) (.slice Ao15 t145.length co15)) (fun _ hk => hk.2) (.slice Ao17 t148.length co17)) (fun _ hk => hk.1.1))) (fun k_ hk => by first | exact ⟨(.inr (hk.1)), hk.2⟩ | exact (.inr (hk))), by (with_reducible repeat (first | apply Kd.V_alloc | apply Kd.V_drewN | apply Kd.V_drew)); exact Kd.V_mono (Kd.V_far (p := ⟨gb143, 1, none⟩) (Kd.V_far (p := ⟨gb143, 0, none⟩) (Kd.V_mono HO150.out (fun k_ hk => (⟨hk, hk.2.2.2⟩ : _ ∧ k_ ≠ gb143))) (fun _ hk => hk.2) (.slice Ao15 t145.length co15)) (fun _ hk => hk.2) (.slice Ao17 t148.length co17)) (fun _ hk => hk.1.1), by repeat (first | (with_reducible first | exact HB.out | apply bwA | apply bwN | apply bwD | refine below_set ?_ GE142.out | refine below_set ?_ GE143.out) | exact HB.out)⟩
    ·replace c8 := Bool.eq_false_iff.mpr c8
     subst c8
     have H1 : (tillerref12_Take.l0 k1 (l0_0.length : Int) (wrap64 (x13_1 + 1)) l0_0 l0_1) = some (r1, r2, r3, r4, r5, r6) := by rw [if_neg (show ¬ (false = true) by decide)] at H; exact H
     clear H
     have H := H1
     clear H1
     have H' := Aside0.mk H
     clear H
     have hnb18 := NB142_143.out
     have hnc18 := NB143_142.out
     have hcz19_0 : wr.cell? ⟨gb142, 0, none⟩ = some (.slice A0_0 l0_0.length c0_0) := (blk_cell BK142.out 0).trans rfl
     have hcz19_1 : wr.cell? ⟨gb142, 1, none⟩ = some (.slice A0_1 l0_1.length c0_1) := (blk_cell BK142.out 1).trans rfl
     have hfz19_0 := blk_frozen BK142.out 0
     have hfz19_1 := blk_frozen BK142.out 1
     go_wp2_with (first | ((with_reducible refine gate_callee (f := 33) rfl ?_); refine goesL_ (some 18) rfl rfl Try.func33 (by kernel_rfl) rfl #[.agg #[.slice A0_0 l0_0.length c0_0, .slice A0_1 l0_1.length c0_1], .int .i64 x13_1] rfl (by (try simp only [List.map_toArray, List.map_cons, List.map_nil]); first | done | rfl | (simp only [List.length_drop, List.length_take]; rfl)) ?_; (with_reducible refine (tillerref12_Free.calls _ _ l0_0 _ _ l0_1 x13_1 false _ ?side1 ?side2 ?side3 ?side4 A7.out).mono ?_); (case side1 => repeat (first | exact (Kd.V_reads' HO_143000.out).2.2 | (with_reducible refine Kd.C_alloc ?_ _) | (with_reducible refine Kd.C_drewN ?_ _) | (with_reducible refine Kd.C_drew ?_))); (case side2 => exact (Kd.V_reads' HO_143000.out).2.1); (case side3 => repeat (first | exact (Kd.V_reads' HO_143001.out).2.2 | (with_reducible refine Kd.C_alloc ?_ _) | (with_reducible refine Kd.C_drewN ?_ _) | (with_reducible refine Kd.C_drew ?_))); (case side4 => exact (Kd.V_reads' HO_143001.out).2.1); rintro e w20 ⟨rfl, hb⟩; refine ⟨_, rfl, ?_⟩; have n0_ := Aside0.mk (Kd.V_below (by (with_reducible repeat (first | apply Kd.V_alloc | apply Kd.V_drewN | apply Kd.V_drew)); exact HO_143000.out) hb); have n1_ := Aside0.mk (Kd.V_below (by (with_reducible repeat (first | apply Kd.V_alloc | apply Kd.V_drewN | apply Kd.V_drew)); exact HO_143001.out) hb); have n2_ := Aside0.mk (blk_below (g := gb142) (o := .cells #[.slice A0_0 l0_0.length c0_0, .slice A0_1 l0_1.length c0_1] 43 (0, 0)) (by (with_reducible repeat (first | apply bkN | apply bkD | apply bkA)); exact BK142.out) hb); have n3_ := Aside0.mk (blk_below (g := gb143) (o := .cells #[.slice none 0 0, .slice none 0 0] 43 (0, 0)) (by (with_reducible repeat (first | apply bkN | apply bkD | apply bkA)); exact BK143.out) hb); have n4_ := Aside0.mk (below_step (by repeat (first | (with_reducible first | exact HB.out | apply bwA | apply bwN | apply bwD | refine below_set ?_ GE142.out | refine below_set ?_ GE143.out) | exact HB.out)) hb); clear HO_143000; clear HO_143001; clear BK142; clear BK143; clear HB; have HO_143000 := n0_; have HO_143001 := n1_; have BK142 := n2_; have BK143 := n3_; have HB := n4_; clear n0_ n1_ n2_ n3_ n4_; (try clear hb); (try clear hb2); (try clear hk); (try clear hi)))
     go_roundg k1
     case measure => have := HK1.out; omega
     case rel => exact ⟨(wrap64 (x13_1 + 1)), (by first | rfl | (simp; done) | (simp [*]; done)), H', ⟨by have := HK1.out; omega⟩, ⟨by (with_reducible repeat (first | apply Kd.V_alloc | apply Kd.V_drewN | apply Kd.V_drew)); exact HO_143000.out⟩, ⟨by (with_reducible repeat (first | apply Kd.V_alloc | apply Kd.V_drewN | apply Kd.V_drew)); exact HO_143001.out⟩, ⟨by (with_reducible repeat (first | apply bkN | apply bkD | apply bkA)); exact BK142.out⟩, ⟨by (with_reducible repeat (first | apply bkN | apply bkD | apply bkA)); exact BK143.out⟩, ⟨by repeat (first | (with_reducible first | exact HB.out | apply bwA | apply bwN | apply bwD | refine below_set ?_ GE142.out | refine below_set ?_ GE143.out) | exact HB.out)⟩⟩
   ·rw [if_neg c6] at H
    have c6b0 : decide (x13_1 < (l0_0.length : Int)) = false := decide_eq_false c6
    clear c6
    by_cases c21 : (l0_1.length : Int) = 0
    ·rw [if_pos c21] at H
     have c21b0 : ((l0_1.length : Int) == 0) = true := beq_iff_eq.mpr c21
     have c21b1 : ((l0_1.length : Int) != 0) = false := bne_eq_false_iff_eq.mpr c21
     clear c21
     simp only [Option.some.injEq, Prod.mk.injEq] at H
     obtain ⟨rfl, rfl, rfl, rfl, rfl, rfl⟩ := H
     have hnb22 := NB142_143.out
     have hnc22 := NB143_142.out
     have hcz23_0 : wr.cell? ⟨gb142, 0, none⟩ = some (.slice A0_0 l0_0.length c0_0) := (blk_cell BK142.out 0).trans rfl
     have hcz23_1 : wr.cell? ⟨gb142, 1, none⟩ = some (.slice A0_1 l0_1.length c0_1) := (blk_cell BK142.out 1).trans rfl
     have hfz23_0 := blk_frozen BK142.out 0
     have hfz23_1 := blk_frozen BK142.out 1
     have hcz24_0 : wr.cell? ⟨gb143, 0, none⟩ = some (.slice none 0 0) := (blk_cell BK143.out 0).trans rfl
     have hcz24_1 : wr.cell? ⟨gb143, 1, none⟩ = some (.slice none 0 0) := (blk_cell BK143.out 1).trans rfl
     have hfz24_0 := blk_frozen BK143.out 0
     have hfz24_1 := blk_frozen BK143.out 1
     go_wp2
     refine bodyPost_ret (results_list (rs := [.cell 2 43, .tmp 3, .tmp 4, .tmp 5, .tmp 6]) rfl (by simp) (.cell gb143 43 #[.slice A0_0 l0_0.length c0_0, .slice A0_1 l0_1.length c0_1] (0, 0) _ rfl (by (with_reducible repeat (first | apply bkN | apply bkD | apply bkA)); refine blk_put (cs := #[.slice A0_0 l0_0.length c0_0, .slice none 0 0]) ?_ 1 _ rfl; (with_reducible repeat (first | apply bkN | apply bkD | apply bkA)); refine blk_put (cs := #[.slice none 0 0, .slice none 0 0]) ?_ 0 _ rfl; (with_reducible repeat (first | apply bkN | apply bkD | apply bkA)); exact BK143.out) Try.underlying43 rfl (by kernel_rfl) (.tmp (.tmp (.tmp (.tmp .nil)))))) rfl ?_
     exact ⟨_, _, by first | rfl | (simp [errW_none, errW_some] <;> rfl) | (simp [*, errW_none, errW_some] <;> rfl), by (with_reducible repeat (first | apply Kd.V_alloc | apply Kd.V_drewN | apply Kd.V_drew)); exact Kd.V_mono (Kd.V_far (p := ⟨gb143, 1, none⟩) (Kd.V_far (p := ⟨gb143, 0, none⟩) (Kd.V_mono HO_143000.out (fun k_ hk => (⟨hk, hk.2.2⟩ : _ ∧ k_ ≠ gb143))) (fun _ hk => hk.2) (.slice A0_0 l0_0.length c0_0)) (fun _ hk => hk.2) (.slice A0_1 l0_1.length c0_1)) (fun _ hk => hk.1.1), by (with_reducible repeat (first | apply Kd.V_alloc | apply Kd.V_drewN | apply Kd.V_drew)); exact Kd.V_mono (Kd.V_far (p := ⟨gb143, 1, none⟩) (Kd.V_far (p := ⟨gb143, 0, none⟩) (Kd.V_mono HO_143001.out (fun k_ hk => (⟨hk, hk.2.2⟩ : _ ∧ k_ ≠ gb143))) (fun _ hk => hk.2) (.slice A0_0 l0_0.length c0_0)) (fun _ hk => hk.2) (.slice A0_1 l0_1.length c0_1)) (fun _ hk => hk.1.1), by repeat (first | (with_reducible first | exact HB.out | apply bwA | apply bwN | apply bwD | refine below_set ?_ GE142.out | refine below_set ?_ GE143.out) | exact HB.out)⟩
    ·rw [if_neg c21] at H
     have c21b0 : ((l0_1.length : Int) == 0) = false := beq_eq_false_iff_ne.mpr c21
     have c21b1 : ((l0_1.length : Int) != 0) = true := bne_iff_ne.mpr c21
     have c21b2 : ¬ (l0_1 = []) := fun h_ => c21 (by rw [h_]; rfl)
     by_cases c25 : 0 < (l0_1.length : Int)
     ·rw [if_pos c25] at H
      have c25b0 : decide (0 < (l0_1.length : Int)) = true := decide_eq_true c25
      have c25b1 : decide (0 < l0_1.length) = true := decide_eq_true (by omega)
      clear c25
      by_cases c26 : 0 ≤ (rd l0_1 0)
      ·rw [if_pos c26] at H
       have c26b0 : decide (0 ≤ (rd l0_1 0)) = true := decide_eq_true c26
       clear c26
       by_cases c27 : (rd l0_1 0) < (l0_0.length : Int)
       ·rw [if_pos c27] at H
        have c27b0 : decide ((rd l0_1 0) < (l0_0.length : Int)) = true := decide_eq_true c27
        clear c27
        replace H := Option.bind_eq_some_iff.mp H
        obtain ⟨⟨t153, t156⟩, A280, H⟩ := H
        replace H : ((tillerref12_with.f t153 t156 (rd l0_1 0) 1 false 0).bind fun bt159 => (some (bt159.1, bt159.2, rd l0_1 0, (rd_T70 l0_0 (rd l0_1 0)).f2, true, 0))) = some (r1, r2, r3, r4, r5, r6) := H
        have A28 := Aside0.mk A280
        clear A280
        replace H := Option.bind_eq_some_iff.mp H
        obtain ⟨⟨t159, t162⟩, A290, H⟩ := H
        replace H : (some (t159, t162, rd l0_1 0, (rd_T70 l0_0 (rd l0_1 0)).f2, true, 0)) = some (r1, r2, r3, r4, r5, r6) := H
        have A29 := Aside0.mk A290
        clear A290
        simp only [Option.some.injEq, Prod.mk.injEq] at H
        obtain ⟨rfl, rfl, rfl, rfl, rfl, rfl⟩ := H
        have hnb30 := NB142_143.out
        have hnc30 := NB143_142.out
        have hcz31_0 : wr.cell? ⟨gb142, 0, none⟩ = some (.slice A0_0 l0_0.length c0_0) := (blk_cell BK142.out 0).trans rfl
        have hcz31_1 : wr.cell? ⟨gb142, 1, none⟩ = some (.slice A0_1 l0_1.length c0_1) := (blk_cell BK142.out 1).trans rfl
        have hfz31_0 := blk_frozen BK142.out 0
        have hfz31_1 := blk_frozen BK142.out 1
        have p151 : 0 ≤ (0 : Int) := (by omega)
        have q151 : 0 < (l0_1.length : Int) := ofd_
        (first | obtain ⟨ad151, e151, hx151_0⟩ := Kd.at_int (Kd.V_reads' HO_143001.out).2.2 0 p151 q151 | (obtain ⟨Az_, cz_, ez_⟩ := Kd.V_slice HO_143001.out; subst ez_; obtain ⟨ad151, e151, hx151_0⟩ := Kd.at_int (Kd.V_reads' HO_143001.out).2.2 0 p151 q151))
        cases e151
        have qi151 : (0 < l0_1.length) = True := eq_true (by omega)
        (try rw [show ((0 : Int)).toNat = 0 from rfl] at hx151_0)
        (try rw [Addr.add_zero'] at hx151_0)
        replace p151 := eq_true p151
        replace q151 := eq_true q151
        have p152 : 0 ≤ ((rd l0_1 0) : Int) := ofd_
        have q152 : (rd l0_1 0) < (l0_0.length : Int) := ofd_
        obtain ⟨ad152, e152, hx152_0, hx152_1, hx152_2⟩ := at_T70 (Kd.V_reads' HO_143000.out).2.2 (rd l0_1 0) p152 q152
        cases e152
        replace p152 := eq_true p152
        replace q152 := eq_true q152
        go_wp2_with (first | ((with_reducible refine gate_callee (f := 35) rfl ?_); refine goesL_ (some 42) rfl rfl Try.func35 (by kernel_rfl) rfl #[.agg #[.slice (some ad152) l0_0.length c0_0, .slice (some ad151) l0_1.length c0_1], .int .i64 (rd l0_1 0)] rfl (by (try simp only [List.map_toArray, List.map_cons, List.map_nil]); first | done | rfl | (simp only [List.length_drop, List.length_take]; rfl)) ?_; (with_reducible refine (tillerref12_less.calls k1 (fun k_ => (((P0_0_ k_ ∨ P0_1_ k_) ∨ w.heap.size ≤ k_) ∧ (k_ ≠ gb142 ∧ k_ ≠ gb143))) _ _ l0_0 _ _ l0_1 (rd l0_1 0) t153 t156 _ ?side1 ?side2 ?side3 A28.out).mono ?_); (case side1 => exact HO_143000.out); (case side2 => repeat (first | exact (Kd.V_reads' HO_143001.out).2.2 | (with_reducible refine Kd.C_alloc ?_ _) | (with_reducible refine Kd.C_drewN ?_ _) | (with_reducible refine Kd.C_drew ?_))); (case side3 => exact (Kd.V_reads' HO_143001.out).2.1); rintro e w32 ⟨v154, v157, rfl, ho0, ho1, hb⟩; refine ⟨_, rfl, ?_⟩; have n0_ := Aside0.mk (Kd.V_elder' (by (with_reducible repeat (first | apply Kd.V_alloc | apply Kd.V_drewN | apply Kd.V_drew)); exact HO_143000.out) (Kd.R_base ho1) hb); have n1_ := Aside0.mk (Kd.V_elder' (by (with_reducible repeat (first | apply Kd.V_alloc | apply Kd.V_drewN | apply Kd.V_drew)); exact HO_143001.out) (Kd.R_base ho1) hb); have n2_ := Aside0.mk (Kd.V_lower (Kd.V_mono (ok' := fun k_ => ((P0_0_ k_ ∨ P0_1_ k_) ∨ w.heap.size ≤ k_) ∧ some k_ ≠ (v157 : Value).ownBlock ∧ k_ ≠ gb142 ∧ k_ ≠ gb143) ho0 (fun k_ hk_ => ⟨Or.elim hk_.1 (fun hs_ => hs_.1) (fun hn_ => (.inr (Nat.le_trans (below_size (by repeat (first | (with_reducible first | exact HB.out | apply bwA | apply bwN | apply bwD | refine below_set ?_ GE142.out | refine below_set ?_ GE143.out) | exact HB.out))) hn_))), hk_.2, Or.elim hk_.1 (fun hs_ => hs_.2.1) (fun hn_ => (Kd.freshB (g := gb142) (o := .cells #[.slice (some ad152) l0_0.length c0_0, .slice (some ad151) l0_1.length c0_1] 43 (0, 0)) (by (with_reducible repeat (first | apply bkN | apply bkD | apply bkA)); exact BK142.out) k_ hn_)), Or.elim hk_.1 (fun hs_ => hs_.2.2) (fun hn_ => (Kd.freshB (g := gb143) (o := .cells #[.slice none 0 0, .slice none 0 0] 43 (0, 0)) (by (with_reducible repeat (first | apply bkN | apply bkD | apply bkA)); exact BK143.out) k_ hn_))⟩)) (below_size (by repeat (first | (with_reducible first | exact HB.out | apply bwA | apply bwN | apply bwD | refine below_set ?_ GE142.out | refine below_set ?_ GE143.out) | exact HB.out)))); have n3_ := Aside0.mk (Kd.R_lower (Kd.R_newM (M := fun k_ => (w.heap.size ≤ k_)) (Kd.R_mono (ok' := fun k_ => True) ho1 (fun _ hk_ => trivial)) (below_size (by repeat (first | (with_reducible first | exact HB.out | apply bwA | apply bwN | apply bwD | refine below_set ?_ GE142.out | refine below_set ?_ GE143.out) | exact HB.out))) (fun k_ h_ => h_)) (below_size (by repeat (first | (with_reducible first | exact HB.out | apply bwA | apply bwN | apply bwD | refine below_set ?_ GE142.out | refine below_set ?_ GE143.out) | exact HB.out)))); have n4_ := Aside0.mk (blk_below (g := gb142) (o := .cells #[.slice (some ad152) l0_0.length c0_0, .slice (some ad151) l0_1.length c0_1] 43 (0, 0)) (by (with_reducible repeat (first | apply bkN | apply bkD | apply bkA)); exact BK142.out) hb); have n5_ := Aside0.mk (blk_below (g := gb143) (o := .cells #[.slice none 0 0, .slice none 0 0] 43 (0, 0)) (by (with_reducible repeat (first | apply bkN | apply bkD | apply bkA)); exact BK143.out) hb); have n6_ := Aside0.mk (below_step (by repeat (first | (with_reducible first | exact HB.out | apply bwA | apply bwN | apply bwD | refine below_set ?_ GE142.out | refine below_set ?_ GE143.out) | exact HB.out)) hb); clear HO_143000; clear HO_143001; clear BK142; clear BK143; clear HB; have HO_143000 := n0_; have HO_143001 := n1_; have HO155 := n2_; have HO158 := n3_; have BK142 := n4_; have BK143 := n5_; have HB := n6_; clear n0_ n1_ n2_ n3_ n4_ n5_ n6_; (try clear hb); (try clear hb2); (try clear hk); (try clear hi); (try clear ho0); (try clear ho1); obtain ⟨Ao33, co33, eo33⟩ := Kd.V_slice HO155.out; subst eo33; obtain ⟨Ao34, co34, eo34⟩ := Kd.R_slice HO158.out; subst eo34) | ((with_reducible refine gate_callee (f := 34) rfl ?_); refine goesL_ (some 45) rfl rfl Try.func34 (by kernel_rfl) rfl #[.agg #[.slice Ao33 t153.length co33, .slice Ao34 t156.length co34], .int .i64 (rd l0_1 0), .agg #[.int .i64 1, .bool false, .int .i64 0]] rfl (by (try simp only [List.map_toArray, List.map_cons, List.map_nil]); first | done | rfl | (simp only [List.length_drop, List.length_take]; rfl)) ?_; (with_reducible refine (tillerref12_with.calls _ _ t153 (fun k_ => some k_ = (.slice Ao34 t156.length co34 : Value).ownBlock) _ _ t156 (rd l0_1 0) 1 false 0 t159 t162 _ ?side1 ?side2 ?side3 A29.out).mono ?_); (case side1 => repeat (first | exact (Kd.V_reads' HO155.out).2.2 | (with_reducible refine Kd.C_alloc ?_ _) | (with_reducible refine Kd.C_drewN ?_ _) | (with_reducible refine Kd.C_drew ?_))); (case side2 => exact (Kd.V_reads' HO155.out).2.1); (case side3 => exact Kd.R_V (Kd.R_tight rfl (Kd.R_types (Kd.R_types (HO158.out) BK142.out (by decide)) BK143.out (by decide)))); rintro e w35 ⟨v160, v163, rfl, ho0, ho1, hb⟩; refine ⟨_, rfl, ?_⟩; have n0_ := Aside0.mk (Kd.V_elder' (by (with_reducible repeat (first | apply Kd.V_alloc | apply Kd.V_drewN | apply Kd.V_drew)); exact HO_143000.out) (Kd.R_base ho0) hb); have n1_ := Aside0.mk (Kd.V_elder' (by (with_reducible repeat (first | apply Kd.V_alloc | apply Kd.V_drewN | apply Kd.V_drew)); exact HO_143001.out) (Kd.R_base ho0) hb); have n2_ := Aside0.mk (Kd.V_elder' (by (with_reducible repeat (first | apply Kd.V_alloc | apply Kd.V_drewN | apply Kd.V_drew)); exact HO155.out) (Kd.R_base ho0) hb); have n3_ := Aside0.mk (Kd.R_below (by (with_reducible repeat (first | apply rwA | apply rwN | apply rwD)); exact HO158.out) hb); have n4_ := Aside0.mk (Kd.R_lower (Kd.R_newM (M := fun k_ => (w.heap.size ≤ k_)) (Kd.R_mono (ok' := fun k_ => True) ho0 (fun _ hk_ => trivial)) (below_size (by repeat (first | (with_reducible first | exact HB.out | apply bwA | apply bwN | apply bwD | refine below_set ?_ GE142.out | refine below_set ?_ GE143.out) | exact HB.out))) (fun k_ h_ => h_)) (below_size (by repeat (first | (with_reducible first | exact HB.out | apply bwA | apply bwN | apply bwD | refine below_set ?_ GE142.out | refine below_set ?_ GE143.out) | exact HB.out)))); have n5_ := Aside0.mk (Kd.V_lower (Kd.V_mono (ok' := fun k_ => ((P0_0_ k_ ∨ P0_1_ k_) ∨ w.heap.size ≤ k_) ∧ some k_ ≠ (v160 : Value).ownBlock ∧ k_ ≠ gb142 ∧ k_ ≠ gb143) ho1 (fun k_ hk_ => ⟨Or.elim hk_.1 (fun hs_ => (.inr (((Kd.R_types (Kd.R_types (HO158.out) BK142.out (by decide)) BK143.out (by decide)).1 k_ hs_.symm).1.1.1))) (fun hn_ => (.inr (Nat.le_trans (below_size (by repeat (first | (with_reducible first | exact HB.out | apply bwA | apply bwN | apply bwD | refine below_set ?_ GE142.out | refine below_set ?_ GE143.out) | exact HB.out))) hn_))), hk_.2, Or.elim hk_.1 (fun hs_ => ((Kd.R_types (Kd.R_types (HO158.out) BK142.out (by decide)) BK143.out (by decide)).1 k_ hs_.symm).1.2) (fun hn_ => (Kd.freshB (g := gb142) (o := .cells #[.slice (some ad152) l0_0.length c0_0, .slice (some ad151) l0_1.length c0_1] 43 (0, 0)) (by (with_reducible repeat (first | apply bkN | apply bkD | apply bkA)); exact BK142.out) k_ hn_)), Or.elim hk_.1 (fun hs_ => ((Kd.R_types (Kd.R_types (HO158.out) BK142.out (by decide)) BK143.out (by decide)).1 k_ hs_.symm).2) (fun hn_ => (Kd.freshB (g := gb143) (o := .cells #[.slice none 0 0, .slice none 0 0] 43 (0, 0)) (by (with_reducible repeat (first | apply bkN | apply bkD | apply bkA)); exact BK143.out) k_ hn_))⟩)) (below_size (by repeat (first | (with_reducible first | exact HB.out | apply bwA | apply bwN | apply bwD | refine below_set ?_ GE142.out | refine below_set ?_ GE143.out) | exact HB.out)))); have n6_ := Aside0.mk (blk_below (g := gb142) (o := .cells #[.slice (some ad152) l0_0.length c0_0, .slice (some ad151) l0_1.length c0_1] 43 (0, 0)) (by (with_reducible repeat (first | apply bkN | apply bkD | apply bkA)); exact BK142.out) hb); have n7_ := Aside0.mk (blk_below (g := gb143) (o := .cells #[.slice none 0 0, .slice none 0 0] 43 (0, 0)) (by (with_reducible repeat (first | apply bkN | apply bkD | apply bkA)); exact BK143.out) hb); have n8_ := Aside0.mk (below_step (by repeat (first | (with_reducible first | exact HB.out | apply bwA | apply bwN | apply bwD | refine below_set ?_ GE142.out | refine below_set ?_ GE143.out) | exact HB.out)) hb); clear HO_143000; clear HO_143001; clear HO155; clear HO158; clear BK142; clear BK143; clear HB; have HO_143000 := n0_; have HO_143001 := n1_; have HO155 := n2_; have HO158 := n3_; have HO161 := n4_; have HO164 := n5_; have BK142 := n6_; have BK143 := n7_; have HB := n8_; clear n0_ n1_ n2_ n3_ n4_ n5_ n6_ n7_ n8_; (try clear hb); (try clear hb2); (try clear hk); (try clear hi); (try clear ho0); (try clear ho1); obtain ⟨Ao36, co36, eo36⟩ := Kd.R_slice HO161.out; subst eo36; have hcz37_0 : w35.cell? ⟨gb143, 0, none⟩ = some (.slice none 0 0) := (blk_cell BK143.out 0).trans rfl; have hcz37_1 : w35.cell? ⟨gb143, 1, none⟩ = some (.slice none 0 0) := (blk_cell BK143.out 1).trans rfl; have hfz37_0 := blk_frozen BK143.out 0; have hfz37_1 := blk_frozen BK143.out 1; obtain ⟨Ao38, co38, eo38⟩ := Kd.V_slice HO164.out; subst eo38))
        refine bodyPost_ret (results_list (rs := [.cell 2 43, .tmp 3, .tmp 4, .tmp 5, .tmp 6]) rfl (by simp) (.cell gb143 43 #[.slice Ao36 t159.length co36, .slice Ao38 t162.length co38] (0, 0) _ rfl (by (with_reducible repeat (first | apply bkN | apply bkD | apply bkA)); refine blk_put (cs := #[.slice Ao36 t159.length co36, .slice none 0 0]) ?_ 1 _ rfl; (with_reducible repeat (first | apply bkN | apply bkD | apply bkA)); refine blk_put (cs := #[.slice none 0 0, .slice none 0 0]) ?_ 0 _ rfl; (with_reducible repeat (first | apply bkN | apply bkD | apply bkA)); exact BK143.out) Try.underlying43 rfl (by kernel_rfl) (.tmp (.tmp (.tmp (.tmp .nil)))))) rfl ?_
        exact ⟨_, _, by first | rfl | (simp [errW_none, errW_some] <;> rfl) | (simp [*, errW_none, errW_some] <;> rfl), Kd.V_mono (Kd.R_V (by (with_reducible repeat (first | apply rwA | apply rwN | apply rwD)); exact Kd.R_mono (Kd.R_far (p := ⟨gb143, 1, none⟩) (Kd.R_far (p := ⟨gb143, 0, none⟩) (Kd.R_types HO161.out BK143.out (by decide)) (fun _ hk => hk.2) (.slice Ao36 t159.length co36)) (fun _ hk => hk.2) (.slice Ao38 t162.length co38)) (fun _ hk => hk.1.1))) (fun k_ hk => by first | exact ⟨(.inr (hk.1)), hk.2⟩ | exact (.inr (hk))), by (with_reducible repeat (first | apply Kd.V_alloc | apply Kd.V_drewN | apply Kd.V_drew)); exact Kd.V_mono (Kd.V_far (p := ⟨gb143, 1, none⟩) (Kd.V_far (p := ⟨gb143, 0, none⟩) (Kd.V_mono HO164.out (fun k_ hk => (⟨hk, hk.2.2.2⟩ : _ ∧ k_ ≠ gb143))) (fun _ hk => hk.2) (.slice Ao36 t159.length co36)) (fun _ hk => hk.2) (.slice Ao38 t162.length co38)) (fun _ hk => hk.1.1), by repeat (first | (with_reducible first | exact HB.out | apply bwA | apply bwN | apply bwD | refine below_set ?_ GE142.out | refine below_set ?_ GE143.out) | exact HB.out)⟩
       ·rw [if_neg c27] at H
        exact absurd H (by simp)
      ·rw [if_neg c26] at H
       exact absurd H (by simp)
     ·rw [if_neg c25] at H
      exact absurd H (by simp)

/-! ### tillerref12_There: function 36 -/
def tillerref12_There.f (l0_0 : List (S70)) (l0_1 : List Int) (a1 : Int) : Option (Bool) := if a1 ≥ 0 then (if a1 < (l0_0.length : Int) then ((tillerref12_Free.f l0_0 l0_1 a1).bind fun t166 => (some (!t166))) else (some false)) else (some false)
set_option maxHeartbeats 8000000 in
set_option maxRecDepth 100000 in
theorem tillerref12_There.calls (A0_0 : Option Addr) (c0_0 : Nat) (l0_0 : List (S70)) (A0_1 : Option Addr) (c0_1 : Nat) (l0_1 : List Int) (a1 : Int) (r : Bool) (w : World) (hr0_0 : Kd.C k70 w A0_0 l0_0.length l0_0) (hc0_0 : l0_0.length ≤ c0_0) (hr0_1 : Kd.C (Kd.int .i64) w A0_1 l0_1.length l0_1) (hc0_1 : l0_1.length ≤ c0_1) (h : tillerref12_There.f l0_0 l0_1 a1 = some r) :
  Calls Try.prog 36 #[.agg #[.slice A0_0 l0_0.length c0_0, .slice A0_1 l0_1.length c0_1], .int .i64 a1] w fun e w' => e = .returned (.bool r) ∧ Below w.heap.size w w' := by
 have hu43 := Try.underlying43
 have HR0_0 := Aside0.mk hr0_0
 have HC0_0 := Aside0.mk hc0_0
 clear hr0_0 hc0_0
 have HR0_1 := Aside0.mk hr0_1
 have HC0_1 := Aside0.mk hc0_1
 clear hr0_1 hc0_1
 have HB := Aside0.mk (Below.refl w.heap.size w)
 have H : (if a1 ≥ 0 then (if a1 < (l0_0.length : Int) then ((tillerref12_Free.f l0_0 l0_1 a1).bind fun t166 => (some (!t166))) else (some false)) else (some false)) = some r := h
 clear h
 by_cases c3 : a1 ≥ 0
 ·rw [if_pos c3] at H
  have c3b0 : decide (0 ≤ a1) = true := decide_eq_true c3
  clear c3
  by_cases c4 : a1 < (l0_0.length : Int)
  ·rw [if_pos c4] at H
   have c4b0 : decide (a1 < (l0_0.length : Int)) = true := decide_eq_true c4
   clear c4
   replace H := Option.bind_eq_some_iff.mp H
   obtain ⟨t166, A50, H⟩ := H
   replace H : (some (!t166)) = some r := H
   have A5 := Aside0.mk A50
   clear A50
   obtain rfl := Option.some.inj H
   go_enter Try.func36, Try.ntmps36
   go_wp2_with (first | ((with_reducible refine gate_dst (N := 2) rfl ?_); (try (refine gate_guard (by rfl) ?_; dsimp only)); refine box_event ?hg (N := 2) ?hd (cs := #[.slice A0_0 l0_0.length c0_0, .slice A0_1 l0_1.length c0_1]) (t := 43) ?hr ?_; (case hd => rfl); (case hg => rfl); (case hr => first | (go_simp; done) | (go_simp; rfl)); intro gb165 hg w6 hbox hb; have n0_ := Aside0.mk (below_step (by repeat (first | (with_reducible first | exact HB.out | apply bwA | apply bwN | apply bwD) | exact HB.out)) hb); have n1_ := Aside0.mk (hbox); have n2_ := Aside0.mk ((by rw [hg]; exact (below_size (by repeat (first | (with_reducible first | exact HB.out | apply bwA | apply bwN | apply bwD) | exact HB.out))) : w.heap.size ≤ gb165)); have n3_ := Aside0.mk ((by rw [hg]; exact (below_size (by repeat (first | (with_reducible first | exact HB.out | apply bwA | apply bwN | apply bwD) | exact HB.out))) : w.heap.size ≤ gb165)); clear HB; have HB := n0_; have BK165 := n1_; have GW165 := n2_; have GE165 := n3_; clear n0_ n1_ n2_ n3_; clear hb hbox hg; have hcz7_0 : w6.cell? ⟨gb165, 0, none⟩ = some (.slice A0_0 l0_0.length c0_0) := (blk_cell BK165.out 0).trans rfl; have hcz7_1 : w6.cell? ⟨gb165, 1, none⟩ = some (.slice A0_1 l0_1.length c0_1) := (blk_cell BK165.out 1).trans rfl; have hfz7_0 := blk_frozen BK165.out 0; have hfz7_1 := blk_frozen BK165.out 1) | (go_at_call 33; (with_reducible refine (tillerref12_Free.calls _ _ l0_0 _ _ l0_1 a1 t166 _ ?side1 ?side2 ?side3 ?side4 A5.out).mono ?_); (case side1 => repeat (first | exact (Kd.C_below HR0_0.out HB.out) | (with_reducible refine Kd.C_alloc ?_ _) | (with_reducible refine Kd.C_drewN ?_ _) | (with_reducible refine Kd.C_drew ?_))); (case side2 => exact HC0_0.out); (case side3 => repeat (first | exact (Kd.C_below HR0_1.out HB.out) | (with_reducible refine Kd.C_alloc ?_ _) | (with_reducible refine Kd.C_drewN ?_ _) | (with_reducible refine Kd.C_drew ?_))); (case side4 => exact HC0_1.out); rintro e w8 ⟨rfl, hb⟩; have n0_ := Aside0.mk (blk_below (g := gb165) (o := .cells #[.slice A0_0 l0_0.length c0_0, .slice A0_1 l0_1.length c0_1] 43 (0, 0)) (by (with_reducible repeat (first | apply bkN | apply bkD | apply bkA)); exact BK165.out) hb); have n1_ := Aside0.mk (below_step (by repeat (first | (with_reducible first | exact HB.out | apply bwA | apply bwN | apply bwD | refine below_set ?_ GE165.out) | exact HB.out)) hb); clear BK165; clear HB; have BK165 := n0_; have HB := n1_; clear n0_ n1_; (try clear hb); (try clear hb2); (try clear hk); (try clear hi)))
   go_ret
   exact ⟨by first | rfl | (simp [errW_none, errW_some] <;> rfl) | (simp [*, errW_none, errW_some] <;> rfl), by repeat (first | (with_reducible first | exact HB.out | apply bwA | apply bwN | apply bwD | refine below_set ?_ GE165.out) | exact HB.out)⟩
  ·rw [if_neg c4] at H
   have c4b0 : decide (a1 < (l0_0.length : Int)) = false := decide_eq_false c4
   clear c4
   obtain rfl := Option.some.inj H
   go_enter Try.func36, Try.ntmps36
   go_wp2_with (first | ((with_reducible refine gate_dst (N := 2) rfl ?_); (try (refine gate_guard (by rfl) ?_; dsimp only)); refine box_event ?hg (N := 2) ?hd (cs := #[.slice A0_0 l0_0.length c0_0, .slice A0_1 l0_1.length c0_1]) (t := 43) ?hr ?_; (case hd => rfl); (case hg => rfl); (case hr => first | (go_simp; done) | (go_simp; rfl)); intro gb165 hg w9 hbox hb; have n0_ := Aside0.mk (below_step (by repeat (first | (with_reducible first | exact HB.out | apply bwA | apply bwN | apply bwD) | exact HB.out)) hb); have n1_ := Aside0.mk (hbox); have n2_ := Aside0.mk ((by rw [hg]; exact (below_size (by repeat (first | (with_reducible first | exact HB.out | apply bwA | apply bwN | apply bwD) | exact HB.out))) : w.heap.size ≤ gb165)); have n3_ := Aside0.mk ((by rw [hg]; exact (below_size (by repeat (first | (with_reducible first | exact HB.out | apply bwA | apply bwN | apply bwD) | exact HB.out))) : w.heap.size ≤ gb165)); clear HB; have HB := n0_; have BK165 := n1_; have GW165 := n2_; have GE165 := n3_; clear n0_ n1_ n2_ n3_; clear hb hbox hg; have hcz10_0 : w9.cell? ⟨gb165, 0, none⟩ = some (.slice A0_0 l0_0.length c0_0) := (blk_cell BK165.out 0).trans rfl; have hcz10_1 : w9.cell? ⟨gb165, 1, none⟩ = some (.slice A0_1 l0_1.length c0_1) := (blk_cell BK165.out 1).trans rfl; have hfz10_0 := blk_frozen BK165.out 0; have hfz10_1 := blk_frozen BK165.out 1))
   go_ret
   exact ⟨by first | rfl | (simp [errW_none, errW_some] <;> rfl) | (simp [*, errW_none, errW_some] <;> rfl), by repeat (first | (with_reducible first | exact HB.out | apply bwA | apply bwN | apply bwD | refine below_set ?_ GE165.out) | exact HB.out)⟩
 ·rw [if_neg c3] at H
  have c3b0 : decide (0 ≤ a1) = false := decide_eq_false c3
  clear c3
  obtain rfl := Option.some.inj H
  go_enter Try.func36, Try.ntmps36
  go_wp2_with (first | ((with_reducible refine gate_dst (N := 2) rfl ?_); (try (refine gate_guard (by rfl) ?_; dsimp only)); refine box_event ?hg (N := 2) ?hd (cs := #[.slice A0_0 l0_0.length c0_0, .slice A0_1 l0_1.length c0_1]) (t := 43) ?hr ?_; (case hd => rfl); (case hg => rfl); (case hr => first | (go_simp; done) | (go_simp; rfl)); intro gb165 hg w11 hbox hb; have n0_ := Aside0.mk (below_step (by repeat (first | (with_reducible first | exact HB.out | apply bwA | apply bwN | apply bwD) | exact HB.out)) hb); have n1_ := Aside0.mk (hbox); have n2_ := Aside0.mk ((by rw [hg]; exact (below_size (by repeat (first | (with_reducible first | exact HB.out | apply bwA | apply bwN | apply bwD) | exact HB.out))) : w.heap.size ≤ gb165)); have n3_ := Aside0.mk ((by rw [hg]; exact (below_size (by repeat (first | (with_reducible first | exact HB.out | apply bwA | apply bwN | apply bwD) | exact HB.out))) : w.heap.size ≤ gb165)); clear HB; have HB := n0_; have BK165 := n1_; have GW165 := n2_; have GE165 := n3_; clear n0_ n1_ n2_ n3_; clear hb hbox hg))
  go_ret
  exact ⟨by first | rfl | (simp [errW_none, errW_some] <;> rfl) | (simp [*, errW_none, errW_some] <;> rfl), by repeat (first | (with_reducible first | exact HB.out | apply bwA | apply bwN | apply bwD | refine below_set ?_ GE165.out) | exact HB.out)⟩

end Go.Proofs.Ytmbbaalpeomnlaa.GQ
