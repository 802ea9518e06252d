-- written by this session's program gprint.py
import Derived.Test.YtdlhodbokkaghaaGQx0
import Derived.Test.YtdlhodbokkaghaaWMore
import Derived.Test.YtdlhodbokkaghaaWRepsOne
import Derived.Test.YtdlhodbokkaghaaWWords
namespace Go.Proofs.Ytdlhodbokkaghaa.GQ
open Go.RowKit Go.Proofs.YtdlhodbokkaghaaW.PrintWords Go.Proofs.YtdlhodbokkaghaaW.PrintLast Go.Proofs.YtdlhodbokkaghaaW.PrintMore
attribute [local go_sem] max2_int min2_int max_two min_two max_three min_three max_four min_four   -- for this text's walks alone
set_option linter.unusedVariables false
set_option linter.unusedSimpArgs false

-- NOT PRINTED: function 18 (tillerlaw06_spoil)

-- NOT PRINTED: function 5 (tillerlaw06_ModelCopies)

/-! ### tillerref06_Shape: function 19 -/
mutual
def tillerref06_Shape.l0 : Nat → List Int → List Int → List Int → Int → Int → Int → Int → Int → Int → Int → Option (Int)
 | 0, _, _, _, _, _, _, _, _, _, _ => none
 | k + 1, x3, x4, x5, x22, x23, x511000, x511001, x511002, x511003, x511004 => if x23 < x22 then (if 0 ≤ x23 then (if x23 < (x3.length : Int) then (if x23 < (x4.length : Int) then (if (rd x3 x23) < (rd x4 x23) then (some 1) else (tillerref06_Shape.l0 k x3 x4 x5 x22 (wrap64 (x23 + 1)) x511000 x511001 x511002 x511003 x511004)) else (none)) else (none)) else (none)) else (tillerref06_Shape.l1 k x3 x5 (x3.length : Int) 0 x511000 x511001 x511002 x511003 x511004)
def tillerref06_Shape.l1 : Nat → List Int → List Int → Int → Int → Int → Int → Int → Int → Int → Option (Int)
 | 0, _, _, _, _, _, _, _, _, _ => none
 | k + 1, x3, x5, x37, x38, x511000, x511001, x511002, x511003, x511004 => if x38 < x37 then (if 0 ≤ x38 then (if x38 < (x3.length : Int) then (if x38 < (x5.length : Int) then (if (rd x3 x38) > (rd x5 x38) then (some 2) else (tillerref06_Shape.l1 k x3 x5 x37 (wrap64 (x38 + 1)) x511000 x511001 x511002 x511003 x511004)) else (none)) else (none)) else (none)) else (if x511002 = 0 then (none) else (if (Int.tmod x511001 x511002) > 0 then (some 4) else (some 0)))
end
def tillerref06_Shape.f (k : Nat) (a0_0 : Int) (a0_1 : Int) (a0_2 : Int) (a0_3 : Int) (a0_4 : Int) : Option (Int) := (some (([a0_0, a0_1, a0_2, a0_3, a0_4] : List Int) : List Int)).bind fun y511 => (tillerref06_Shape.l0 k y511 (([2, 1, 1, 1, 1] : List Int)) (([64, 32, 4, 64, 4] : List Int)) (y511.length : Int) 0 a0_0 a0_1 a0_2 a0_3 a0_4)
theorem tillerref06_Shape.mono_l : ∀ k, (∀ y0 y1 y2 y3 y4 y5 y6 y7 y8 y9, LeO (tillerref06_Shape.l0 k y0 y1 y2 y3 y4 y5 y6 y7 y8 y9) (tillerref06_Shape.l0 (k + 1) y0 y1 y2 y3 y4 y5 y6 y7 y8 y9)) ∧ (∀ y0 y1 y2 y3 y4 y5 y6 y7 y8, LeO (tillerref06_Shape.l1 k y0 y1 y2 y3 y4 y5 y6 y7 y8) (tillerref06_Shape.l1 (k + 1) y0 y1 y2 y3 y4 y5 y6 y7 y8))
 | 0 => ⟨fun _ _ _ _ _ _ _ _ _ _ r h => by simp [tillerref06_Shape.l0] at h, fun _ _ _ _ _ _ _ _ _ r h => by simp [tillerref06_Shape.l1] at h⟩
 | k + 1 => by
  obtain ⟨ih0, ih1⟩ := tillerref06_Shape.mono_l k
  refine ⟨?_, ?_⟩
  ·intro y0 y1 y2 y3 y4 y5 y6 y7 y8 y9
   unfold tillerref06_Shape.l0
   repeat' first
   | (with_reducible exact ih0 _ _ _ _ _ _ _ _ _ _)
   | (with_reducible exact ih1 _ _ _ _ _ _ _ _ _)
   | (with_reducible exact LeO.refl _)
   | (with_reducible exact LeO.none _)
   | (with_reducible refine LeO.ite ?_ ?_)
   | (with_reducible refine LeO.bind ?_ (fun _ => ?_))
   | exact ih0 _ _ _ _ _ _ _ _ _ _
   | exact ih1 _ _ _ _ _ _ _ _ _
   | exact LeO.none _
   | refine LeO.ite ?_ ?_
   | refine LeO.bind ?_ (fun _ => ?_)
  ·intro y0 y1 y2 y3 y4 y5 y6 y7 y8
   unfold tillerref06_Shape.l1
   repeat' first
   | (with_reducible exact ih0 _ _ _ _ _ _ _ _ _ _)
   | (with_reducible exact ih1 _ _ _ _ _ _ _ _ _)
   | (with_reducible exact LeO.refl _)
   | (with_reducible exact LeO.none _)
   | (with_reducible refine LeO.ite ?_ ?_)
   | (with_reducible refine LeO.bind ?_ (fun _ => ?_))
   | exact ih0 _ _ _ _ _ _ _ _ _ _
   | exact ih1 _ _ _ _ _ _ _ _ _
   | exact LeO.none _
   | refine LeO.ite ?_ ?_
   | refine LeO.bind ?_ (fun _ => ?_)
theorem tillerref06_Shape.mono : ∀ a0 a1 a2 a3 a4 k, LeO (tillerref06_Shape.f k a0 a1 a2 a3 a4) (tillerref06_Shape.f (k + 1) a0 a1 a2 a3 a4) := by
 intro a0 a1 a2 a3 a4 k
 obtain ⟨ih0, ih1⟩ := tillerref06_Shape.mono_l k
 unfold tillerref06_Shape.f
 repeat' first
   | (with_reducible exact ih0 _ _ _ _ _ _ _ _ _ _)
   | (with_reducible exact ih1 _ _ _ _ _ _ _ _ _)
   | (with_reducible exact LeO.refl _)
   | (with_reducible exact LeO.none _)
   | (with_reducible refine LeO.ite ?_ ?_)
   | (with_reducible refine LeO.bind ?_ (fun _ => ?_))
   | exact ih0 _ _ _ _ _ _ _ _ _ _
   | exact ih1 _ _ _ _ _ _ _ _ _
   | exact LeO.none _
   | refine LeO.ite ?_ ?_
   | refine LeO.bind ?_ (fun _ => ?_)
set_option maxHeartbeats 8000000 in
set_option maxRecDepth 100000 in
theorem tillerref06_Shape.calls (k : Nat) (a0_0 : Int) (a0_1 : Int) (a0_2 : Int) (a0_3 : Int) (a0_4 : Int) (r : Int) (w : World) (h : tillerref06_Shape.f k a0_0 a0_1 a0_2 a0_3 a0_4 = some r) :
  Calls Try.prog 19 #[.agg #[.int .i64 a0_0, .int .i64 a0_1, .int .i64 a0_2, .int .i64 a0_3, .int .i64 a0_4]] w fun e w' => e = .returned (.int .i64 r) ∧ Below w.heap.size w w' := by
 have hu23 := Try.underlying23
 have HB := Aside0.mk (Below.refl w.heap.size w)
 have H : ((some (([a0_0, a0_1, a0_2, a0_3, a0_4] : List Int) : List Int)).bind fun y511 => (tillerref06_Shape.l0 k y511 (([2, 1, 1, 1, 1] : List Int)) (([64, 32, 4, 64, 4] : List Int)) (y511.length : Int) 0 a0_0 a0_1 a0_2 a0_3 a0_4)) = some r := h
 clear h
 obtain ⟨y511, hy511⟩ : ∃ y_ : List Int, y_ = (([a0_0, a0_1, a0_2, a0_3, a0_4] : List Int)) := ⟨_, rfl⟩
 replace H : (tillerref06_Shape.l0 k y511 (([2, 1, 1, 1, 1] : List Int)) (([64, 32, 4, 64, 4] : List Int)) (y511.length : Int) 0 a0_0 a0_1 a0_2 a0_3 a0_4) = some r := by first | (rw [hy511]; with_reducible exact H) | (have H2_ := (Option.bind_some _ _).symm.trans H; rw [hy511]; with_reducible exact H2_) | (have H2_ := (Option.bind_some _ _).symm.trans H; with_reducible exact H2_) | with_reducible exact H | (rw [hy511]; exact H) | exact H
 have Ny511 := Aside0.mk hy511
 clear hy511
 obtain ⟨y514, hy514⟩ : ∃ y_ : List Int, y_ = (([2, 1, 1, 1, 1] : List Int)) := ⟨_, rfl⟩
 replace H : (tillerref06_Shape.l0 k y511 y514 (([64, 32, 4, 64, 4] : List Int)) (y511.length : Int) 0 a0_0 a0_1 a0_2 a0_3 a0_4) = some r := by first | (rw [hy514]; with_reducible exact H) | (have H2_ := (Option.bind_some _ _).symm.trans H; rw [hy514]; with_reducible exact H2_) | (have H2_ := (Option.bind_some _ _).symm.trans H; with_reducible exact H2_) | with_reducible exact H | (rw [hy514]; exact H) | exact H
 have Ny514 := Aside0.mk hy514
 clear hy514
 obtain ⟨y517, hy517⟩ : ∃ y_ : List Int, y_ = (([64, 32, 4, 64, 4] : List Int)) := ⟨_, rfl⟩
 replace H : (tillerref06_Shape.l0 k y511 y514 y517 (y511.length : Int) 0 a0_0 a0_1 a0_2 a0_3 a0_4) = some r := by first | (rw [hy517]; with_reducible exact H) | (have H2_ := (Option.bind_some _ _).symm.trans H; rw [hy517]; with_reducible exact H2_) | (have H2_ := (Option.bind_some _ _).symm.trans H; with_reducible exact H2_) | with_reducible exact H | (rw [hy517]; exact H) | exact H
 have Ny517 := Aside0.mk hy517
 clear hy517
 have H' := Aside0.mk H
 clear H
 go_enter Try.func19, Try.ntmps19
 go_wp2_with (first | ((with_reducible refine gate_dst (N := 1) rfl ?_); refine box_event ?hg (N := 1) ?hd (cs := #[.int .i64 a0_0, .int .i64 a0_1, .int .i64 a0_2, .int .i64 a0_3, .int .i64 a0_4]) (t := 23) ?hr ?_; (case hd => rfl); (case hg => rfl); (case hr => first | (go_simp; done) | (go_simp; rfl)); intro gb510 hg w2 hbox hb; have n0_ := Aside0.mk (below_step (by repeat (first | (with_reducible first | exact HB.out | apply bwA | apply bwN | apply bwD) | exact HB.out)) hb); have n1_ := Aside0.mk (hbox); have n2_ := Aside0.mk ((by rw [hg]; exact (below_size (by repeat (first | (with_reducible first | exact HB.out | apply bwA | apply bwN | apply bwD) | exact HB.out))) : w.heap.size ≤ gb510)); have n3_ := Aside0.mk ((by rw [hg]; exact (below_size (by repeat (first | (with_reducible first | exact HB.out | apply bwA | apply bwN | apply bwD) | exact HB.out))) : w.heap.size ≤ gb510)); clear HB; have HB := n0_; have BK510 := n1_; have GW510 := n2_; have GE510 := n3_; clear n0_ n1_ n2_ n3_; clear hb hbox hg; have hcz3_0 : w2.cell? ⟨gb510, 0, none⟩ = some (.int .i64 a0_0) := (blk_cell BK510.out 0).trans rfl; have hcz3_1 : w2.cell? ⟨gb510, 1, none⟩ = some (.int .i64 a0_1) := (blk_cell BK510.out 1).trans rfl; have hcz3_2 : w2.cell? ⟨gb510, 2, none⟩ = some (.int .i64 a0_2) := (blk_cell BK510.out 2).trans rfl; have hcz3_3 : w2.cell? ⟨gb510, 3, none⟩ = some (.int .i64 a0_3) := (blk_cell BK510.out 3).trans rfl; have hcz3_4 : w2.cell? ⟨gb510, 4, none⟩ = some (.int .i64 a0_4) := (blk_cell BK510.out 4).trans rfl; have hfz3_0 := blk_frozen BK510.out 0; have hfz3_1 := blk_frozen BK510.out 1; have hfz3_2 := blk_frozen BK510.out 2; have hfz3_3 := blk_frozen BK510.out 3; have hfz3_4 := blk_frozen BK510.out 4) | ((with_reducible refine gate_dst (N := 18) rfl ?_); refine Kd.R_lit (Kd.int .i64) _ 3 ?hg (N := 18) ?hd (xs := ([a0_0, a0_1, a0_2, a0_3, a0_4] : List Int)) (inner := [.int .i64 a0_0, .int .i64 a0_1, .int .i64 a0_2, .int .i64 a0_3, .int .i64 a0_4]) (ok := fun _ => True) (okp := fun _ => True) ?hr ?hp (fun _ hk => hk) trivial (Below.refl _ _) (Nat.le_refl _) (by simp) ?_; (case hd => rfl); (case hg => rfl); (case hr => first | (go_simp; done) | (go_simp; rfl)); (case hp => exact (Reps.one (show Kd.M (Kd.int .i64) _ _ _ a0_0 [.int .i64 a0_0] from rfl) (Reps.one (show Kd.M (Kd.int .i64) _ _ _ a0_1 [.int .i64 a0_1] from rfl) (Reps.one (show Kd.M (Kd.int .i64) _ _ _ a0_2 [.int .i64 a0_2] from rfl) (Reps.one (show Kd.M (Kd.int .i64) _ _ _ a0_3 [.int .i64 a0_3] from rfl) (Reps.one (show Kd.M (Kd.int .i64) _ _ _ a0_4 [.int .i64 a0_4] from rfl) (Reps.none _ _))))))); intro v512 w4 ho5 hb hg_ hnew_; clear hg_ hnew_; (first | rw [← Ny511.out] at ho5 | (simp only [Int.reduceToNat] at ho5; rw [← Ny511.out] at ho5)); have n0_ := Aside0.mk (Kd.R_lower ho5 (below_size (by repeat (first | (with_reducible first | exact HB.out | apply bwA | apply bwN | apply bwD | refine below_set ?_ GE510.out) | exact HB.out)))); have n1_ := Aside0.mk (blk_below (g := gb510) (o := .cells #[.int .i64 a0_0, .int .i64 a0_1, .int .i64 a0_2, .int .i64 a0_3, .int .i64 a0_4] 23 (0, 0)) (by (with_reducible repeat (first | apply bkN | apply bkD | apply bkA)); exact BK510.out) hb); have n2_ := Aside0.mk (below_step (by repeat (first | (with_reducible first | exact HB.out | apply bwA | apply bwN | apply bwD | refine below_set ?_ GE510.out) | exact HB.out)) hb); clear BK510; clear HB; have HO513 := n0_; have BK510 := n1_; have HB := n2_; clear n0_ n1_ n2_; clear hb ho5) | ((with_reducible refine gate_dst (N := 19) rfl ?_); refine Kd.R_lit (Kd.int .i64) _ 3 ?hg (N := 19) ?hd (xs := ([2, 1, 1, 1, 1] : List Int)) (inner := [.int .i64 2, .int .i64 1, .int .i64 1, .int .i64 1, .int .i64 1]) (ok := fun _ => True) (okp := fun _ => True) ?hr ?hp (fun _ hk => hk) trivial (Below.refl _ _) (Nat.le_refl _) (by simp) ?_; (case hd => rfl); (case hg => rfl); (case hr => first | (go_simp; done) | (go_simp; rfl)); (case hp => exact (Reps.one (show Kd.M (Kd.int .i64) _ _ _ 2 [.int .i64 2] from rfl) (Reps.one (show Kd.M (Kd.int .i64) _ _ _ 1 [.int .i64 1] from rfl) (Reps.one (show Kd.M (Kd.int .i64) _ _ _ 1 [.int .i64 1] from rfl) (Reps.one (show Kd.M (Kd.int .i64) _ _ _ 1 [.int .i64 1] from rfl) (Reps.one (show Kd.M (Kd.int .i64) _ _ _ 1 [.int .i64 1] from rfl) (Reps.none _ _))))))); intro v515 w6 ho7 hb hg_ hnew_; clear hg_ hnew_; (first | rw [← Ny514.out] at ho7 | (simp only [Int.reduceToNat] at ho7; rw [← Ny514.out] at ho7)); have n0_ := Aside0.mk (Kd.R_elder' (by (with_reducible repeat (first | apply rwA | apply rwN | apply rwD)); exact HO513.out) (Kd.R_base ho7) hb); have n1_ := Aside0.mk (Kd.R_lower (Kd.R_new' ho7 (Kd.R_lt (by (with_reducible repeat (first | apply rwA | apply rwN | apply rwD)); exact HO513.out))) (below_size (by repeat (first | (with_reducible first | exact HB.out | apply bwA | apply bwN | apply bwD | refine below_set ?_ GE510.out) | exact HB.out)))); have n2_ := Aside0.mk (blk_below (g := gb510) (o := .cells #[.int .i64 a0_0, .int .i64 a0_1, .int .i64 a0_2, .int .i64 a0_3, .int .i64 a0_4] 23 (0, 0)) (by (with_reducible repeat (first | apply bkN | apply bkD | apply bkA)); exact BK510.out) hb); have n3_ := Aside0.mk (below_step (by repeat (first | (with_reducible first | exact HB.out | apply bwA | apply bwN | apply bwD | refine below_set ?_ GE510.out) | exact HB.out)) hb); clear HO513; clear BK510; clear HB; have HO513 := n0_; have HO516 := n1_; have BK510 := n2_; have HB := n3_; clear n0_ n1_ n2_ n3_; clear hb ho7) | ((with_reducible refine gate_dst (N := 20) rfl ?_); refine Kd.R_lit (Kd.int .i64) _ 3 ?hg (N := 20) ?hd (xs := ([64, 32, 4, 64, 4] : List Int)) (inner := [.int .i64 64, .int .i64 32, .int .i64 4, .int .i64 64, .int .i64 4]) (ok := fun _ => True) (okp := fun _ => True) ?hr ?hp (fun _ hk => hk) trivial (Below.refl _ _) (Nat.le_refl _) (by simp) ?_; (case hd => rfl); (case hg => rfl); (case hr => first | (go_simp; done) | (go_simp; rfl)); (case hp => exact (Reps.one (show Kd.M (Kd.int .i64) _ _ _ 64 [.int .i64 64] from rfl) (Reps.one (show Kd.M (Kd.int .i64) _ _ _ 32 [.int .i64 32] from rfl) (Reps.one (show Kd.M (Kd.int .i64) _ _ _ 4 [.int .i64 4] from rfl) (Reps.one (show Kd.M (Kd.int .i64) _ _ _ 64 [.int .i64 64] from rfl) (Reps.one (show Kd.M (Kd.int .i64) _ _ _ 4 [.int .i64 4] from rfl) (Reps.none _ _))))))); intro v518 w8 ho9 hb hg_ hnew_; clear hg_ hnew_; (first | rw [← Ny517.out] at ho9 | (simp only [Int.reduceToNat] at ho9; rw [← Ny517.out] at ho9)); have n0_ := Aside0.mk (Kd.R_elder' (by (with_reducible repeat (first | apply rwA | apply rwN | apply rwD)); exact HO513.out) (Kd.R_base ho9) hb); have n1_ := Aside0.mk (Kd.R_elder' (by (with_reducible repeat (first | apply rwA | apply rwN | apply rwD)); exact HO516.out) (Kd.R_base ho9) hb); have n2_ := Aside0.mk (Kd.R_lower (Kd.R_new' (Kd.R_new' ho9 (Kd.R_lt (by (with_reducible repeat (first | apply rwA | apply rwN | apply rwD)); exact HO513.out))) (Kd.R_lt (by (with_reducible repeat (first | apply rwA | apply rwN | apply rwD)); exact HO516.out))) (below_size (by repeat (first | (with_reducible first | exact HB.out | apply bwA | apply bwN | apply bwD | refine below_set ?_ GE510.out) | exact HB.out)))); have n3_ := Aside0.mk (blk_below (g := gb510) (o := .cells #[.int .i64 a0_0, .int .i64 a0_1, .int .i64 a0_2, .int .i64 a0_3, .int .i64 a0_4] 23 (0, 0)) (by (with_reducible repeat (first | apply bkN | apply bkD | apply bkA)); exact BK510.out) hb); have n4_ := Aside0.mk (below_step (by repeat (first | (with_reducible first | exact HB.out | apply bwA | apply bwN | apply bwD | refine below_set ?_ GE510.out) | exact HB.out)) hb); clear HO513; clear HO516; clear BK510; clear HB; have HO513 := n0_; have HO516 := n1_; have HO519 := n2_; have BK510 := n3_; have HB := n4_; clear n0_ n1_ n2_ n3_ n4_; clear hb ho9; obtain ⟨Ao10, co10, eo10⟩ := Kd.R_slice HO513.out; subst eo10))
 repeat (go_quiet (first | ((with_reducible refine gate_dst (N := 1) rfl ?_); refine box_event ?hg (N := 1) ?hd (cs := #[.int .i64 a0_0, .int .i64 a0_1, .int .i64 a0_2, .int .i64 a0_3, .int .i64 a0_4]) (t := 23) ?hr ?_; (case hd => rfl); (case hg => rfl); (case hr => first | (go_simp; done) | (go_simp; rfl)); intro gb510 hg w2 hbox hb; have n0_ := Aside0.mk (below_step (by repeat (first | (with_reducible first | exact HB.out | apply bwA | apply bwN | apply bwD) | exact HB.out)) hb); have n1_ := Aside0.mk (hbox); have n2_ := Aside0.mk ((by rw [hg]; exact (below_size (by repeat (first | (with_reducible first | exact HB.out | apply bwA | apply bwN | apply bwD) | exact HB.out))) : w.heap.size ≤ gb510)); have n3_ := Aside0.mk ((by rw [hg]; exact (below_size (by repeat (first | (with_reducible first | exact HB.out | apply bwA | apply bwN | apply bwD) | exact HB.out))) : w.heap.size ≤ gb510)); clear HB; have HB := n0_; have BK510 := n1_; have GW510 := n2_; have GE510 := n3_; clear n0_ n1_ n2_ n3_; clear hb hbox hg; have hcz3_0 : w2.cell? ⟨gb510, 0, none⟩ = some (.int .i64 a0_0) := (blk_cell BK510.out 0).trans rfl; have hcz3_1 : w2.cell? ⟨gb510, 1, none⟩ = some (.int .i64 a0_1) := (blk_cell BK510.out 1).trans rfl; have hcz3_2 : w2.cell? ⟨gb510, 2, none⟩ = some (.int .i64 a0_2) := (blk_cell BK510.out 2).trans rfl; have hcz3_3 : w2.cell? ⟨gb510, 3, none⟩ = some (.int .i64 a0_3) := (blk_cell BK510.out 3).trans rfl; have hcz3_4 : w2.cell? ⟨gb510, 4, none⟩ = some (.int .i64 a0_4) := (blk_cell BK510.out 4).trans rfl; have hfz3_0 := blk_frozen BK510.out 0; have hfz3_1 := blk_frozen BK510.out 1; have hfz3_2 := blk_frozen BK510.out 2; have hfz3_3 := blk_frozen BK510.out 3; have hfz3_4 := blk_frozen BK510.out 4) | ((with_reducible refine gate_dst (N := 18) rfl ?_); refine Kd.R_lit (Kd.int .i64) _ 3 ?hg (N := 18) ?hd (xs := ([a0_0, a0_1, a0_2, a0_3, a0_4] : List Int)) (inner := [.int .i64 a0_0, .int .i64 a0_1, .int .i64 a0_2, .int .i64 a0_3, .int .i64 a0_4]) (ok := fun _ => True) (okp := fun _ => True) ?hr ?hp (fun _ hk => hk) trivial (Below.refl _ _) (Nat.le_refl _) (by simp) ?_; (case hd => rfl); (case hg => rfl); (case hr => first | (go_simp; done) | (go_simp; rfl)); (case hp => exact (Reps.one (show Kd.M (Kd.int .i64) _ _ _ a0_0 [.int .i64 a0_0] from rfl) (Reps.one (show Kd.M (Kd.int .i64) _ _ _ a0_1 [.int .i64 a0_1] from rfl) (Reps.one (show Kd.M (Kd.int .i64) _ _ _ a0_2 [.int .i64 a0_2] from rfl) (Reps.one (show Kd.M (Kd.int .i64) _ _ _ a0_3 [.int .i64 a0_3] from rfl) (Reps.one (show Kd.M (Kd.int .i64) _ _ _ a0_4 [.int .i64 a0_4] from rfl) (Reps.none _ _))))))); intro v512 w4 ho5 hb hg_ hnew_; clear hg_ hnew_; (first | rw [← Ny511.out] at ho5 | (simp only [Int.reduceToNat] at ho5; rw [← Ny511.out] at ho5)); have n0_ := Aside0.mk (Kd.R_lower ho5 (below_size (by repeat (first | (with_reducible first | exact HB.out | apply bwA | apply bwN | apply bwD | refine below_set ?_ GE510.out) | exact HB.out)))); have n1_ := Aside0.mk (blk_below (g := gb510) (o := .cells #[.int .i64 a0_0, .int .i64 a0_1, .int .i64 a0_2, .int .i64 a0_3, .int .i64 a0_4] 23 (0, 0)) (by (with_reducible repeat (first | apply bkN | apply bkD | apply bkA)); exact BK510.out) hb); have n2_ := Aside0.mk (below_step (by repeat (first | (with_reducible first | exact HB.out | apply bwA | apply bwN | apply bwD | refine below_set ?_ GE510.out) | exact HB.out)) hb); clear BK510; clear HB; have HO513 := n0_; have BK510 := n1_; have HB := n2_; clear n0_ n1_ n2_; clear hb ho5) | ((with_reducible refine gate_dst (N := 19) rfl ?_); refine Kd.R_lit (Kd.int .i64) _ 3 ?hg (N := 19) ?hd (xs := ([2, 1, 1, 1, 1] : List Int)) (inner := [.int .i64 2, .int .i64 1, .int .i64 1, .int .i64 1, .int .i64 1]) (ok := fun _ => True) (okp := fun _ => True) ?hr ?hp (fun _ hk => hk) trivial (Below.refl _ _) (Nat.le_refl _) (by simp) ?_; (case hd => rfl); (case hg => rfl); (case hr => first | (go_simp; done) | (go_simp; rfl)); (case hp => exact (Reps.one (show Kd.M (Kd.int .i64) _ _ _ 2 [.int .i64 2] from rfl) (Reps.one (show Kd.M (Kd.int .i64) _ _ _ 1 [.int .i64 1] from rfl) (Reps.one (show Kd.M (Kd.int .i64) _ _ _ 1 [.int .i64 1] from rfl) (Reps.one (show Kd.M (Kd.int .i64) _ _ _ 1 [.int .i64 1] from rfl) (Reps.one (show Kd.M (Kd.int .i64) _ _ _ 1 [.int .i64 1] from rfl) (Reps.none _ _))))))); intro v515 w6 ho7 hb hg_ hnew_; clear hg_ hnew_; (first | rw [← Ny514.out] at ho7 | (simp only [Int.reduceToNat] at ho7; rw [← Ny514.out] at ho7)); have n0_ := Aside0.mk (Kd.R_elder' (by (with_reducible repeat (first | apply rwA | apply rwN | apply rwD)); exact HO513.out) (Kd.R_base ho7) hb); have n1_ := Aside0.mk (Kd.R_lower (Kd.R_new' ho7 (Kd.R_lt (by (with_reducible repeat (first | apply rwA | apply rwN | apply rwD)); exact HO513.out))) (below_size (by repeat (first | (with_reducible first | exact HB.out | apply bwA | apply bwN | apply bwD | refine below_set ?_ GE510.out) | exact HB.out)))); have n2_ := Aside0.mk (blk_below (g := gb510) (o := .cells #[.int .i64 a0_0, .int .i64 a0_1, .int .i64 a0_2, .int .i64 a0_3, .int .i64 a0_4] 23 (0, 0)) (by (with_reducible repeat (first | apply bkN | apply bkD | apply bkA)); exact BK510.out) hb); have n3_ := Aside0.mk (below_step (by repeat (first | (with_reducible first | exact HB.out | apply bwA | apply bwN | apply bwD | refine below_set ?_ GE510.out) | exact HB.out)) hb); clear HO513; clear BK510; clear HB; have HO513 := n0_; have HO516 := n1_; have BK510 := n2_; have HB := n3_; clear n0_ n1_ n2_ n3_; clear hb ho7) | ((with_reducible refine gate_dst (N := 20) rfl ?_); refine Kd.R_lit (Kd.int .i64) _ 3 ?hg (N := 20) ?hd (xs := ([64, 32, 4, 64, 4] : List Int)) (inner := [.int .i64 64, .int .i64 32, .int .i64 4, .int .i64 64, .int .i64 4]) (ok := fun _ => True) (okp := fun _ => True) ?hr ?hp (fun _ hk => hk) trivial (Below.refl _ _) (Nat.le_refl _) (by simp) ?_; (case hd => rfl); (case hg => rfl); (case hr => first | (go_simp; done) | (go_simp; rfl)); (case hp => exact (Reps.one (show Kd.M (Kd.int .i64) _ _ _ 64 [.int .i64 64] from rfl) (Reps.one (show Kd.M (Kd.int .i64) _ _ _ 32 [.int .i64 32] from rfl) (Reps.one (show Kd.M (Kd.int .i64) _ _ _ 4 [.int .i64 4] from rfl) (Reps.one (show Kd.M (Kd.int .i64) _ _ _ 64 [.int .i64 64] from rfl) (Reps.one (show Kd.M (Kd.int .i64) _ _ _ 4 [.int .i64 4] from rfl) (Reps.none _ _))))))); intro v518 w8 ho9 hb hg_ hnew_; clear hg_ hnew_; (first | rw [← Ny517.out] at ho9 | (simp only [Int.reduceToNat] at ho9; rw [← Ny517.out] at ho9)); have n0_ := Aside0.mk (Kd.R_elder' (by (with_reducible repeat (first | apply rwA | apply rwN | apply rwD)); exact HO513.out) (Kd.R_base ho9) hb); have n1_ := Aside0.mk (Kd.R_elder' (by (with_reducible repeat (first | apply rwA | apply rwN | apply rwD)); exact HO516.out) (Kd.R_base ho9) hb); have n2_ := Aside0.mk (Kd.R_lower (Kd.R_new' (Kd.R_new' ho9 (Kd.R_lt (by (with_reducible repeat (first | apply rwA | apply rwN | apply rwD)); exact HO513.out))) (Kd.R_lt (by (with_reducible repeat (first | apply rwA | apply rwN | apply rwD)); exact HO516.out))) (below_size (by repeat (first | (with_reducible first | exact HB.out | apply bwA | apply bwN | apply bwD | refine below_set ?_ GE510.out) | exact HB.out)))); have n3_ := Aside0.mk (blk_below (g := gb510) (o := .cells #[.int .i64 a0_0, .int .i64 a0_1, .int .i64 a0_2, .int .i64 a0_3, .int .i64 a0_4] 23 (0, 0)) (by (with_reducible repeat (first | apply bkN | apply bkD | apply bkA)); exact BK510.out) hb); have n4_ := Aside0.mk (below_step (by repeat (first | (with_reducible first | exact HB.out | apply bwA | apply bwN | apply bwD | refine below_set ?_ GE510.out) | exact HB.out)) hb); clear HO513; clear HO516; clear BK510; clear HB; have HO513 := n0_; have HO516 := n1_; have HO519 := n2_; have BK510 := n3_; have HB := n4_; clear n0_ n1_ n2_ n3_ n4_; clear hb ho9; obtain ⟨Ao10, co10, eo10⟩ := Kd.R_slice HO513.out; subst eo10)); try go_wp2_with (first | ((with_reducible refine gate_dst (N := 1) rfl ?_); refine box_event ?hg (N := 1) ?hd (cs := #[.int .i64 a0_0, .int .i64 a0_1, .int .i64 a0_2, .int .i64 a0_3, .int .i64 a0_4]) (t := 23) ?hr ?_; (case hd => rfl); (case hg => rfl); (case hr => first | (go_simp; done) | (go_simp; rfl)); intro gb510 hg w2 hbox hb; have n0_ := Aside0.mk (below_step (by repeat (first | (with_reducible first | exact HB.out | apply bwA | apply bwN | apply bwD) | exact HB.out)) hb); have n1_ := Aside0.mk (hbox); have n2_ := Aside0.mk ((by rw [hg]; exact (below_size (by repeat (first | (with_reducible first | exact HB.out | apply bwA | apply bwN | apply bwD) | exact HB.out))) : w.heap.size ≤ gb510)); have n3_ := Aside0.mk ((by rw [hg]; exact (below_size (by repeat (first | (with_reducible first | exact HB.out | apply bwA | apply bwN | apply bwD) | exact HB.out))) : w.heap.size ≤ gb510)); clear HB; have HB := n0_; have BK510 := n1_; have GW510 := n2_; have GE510 := n3_; clear n0_ n1_ n2_ n3_; clear hb hbox hg; have hcz3_0 : w2.cell? ⟨gb510, 0, none⟩ = some (.int .i64 a0_0) := (blk_cell BK510.out 0).trans rfl; have hcz3_1 : w2.cell? ⟨gb510, 1, none⟩ = some (.int .i64 a0_1) := (blk_cell BK510.out 1).trans rfl; have hcz3_2 : w2.cell? ⟨gb510, 2, none⟩ = some (.int .i64 a0_2) := (blk_cell BK510.out 2).trans rfl; have hcz3_3 : w2.cell? ⟨gb510, 3, none⟩ = some (.int .i64 a0_3) := (blk_cell BK510.out 3).trans rfl; have hcz3_4 : w2.cell? ⟨gb510, 4, none⟩ = some (.int .i64 a0_4) := (blk_cell BK510.out 4).trans rfl; have hfz3_0 := blk_frozen BK510.out 0; have hfz3_1 := blk_frozen BK510.out 1; have hfz3_2 := blk_frozen BK510.out 2; have hfz3_3 := blk_frozen BK510.out 3; have hfz3_4 := blk_frozen BK510.out 4) | ((with_reducible refine gate_dst (N := 18) rfl ?_); refine Kd.R_lit (Kd.int .i64) _ 3 ?hg (N := 18) ?hd (xs := ([a0_0, a0_1, a0_2, a0_3, a0_4] : List Int)) (inner := [.int .i64 a0_0, .int .i64 a0_1, .int .i64 a0_2, .int .i64 a0_3, .int .i64 a0_4]) (ok := fun _ => True) (okp := fun _ => True) ?hr ?hp (fun _ hk => hk) trivial (Below.refl _ _) (Nat.le_refl _) (by simp) ?_; (case hd => rfl); (case hg => rfl); (case hr => first | (go_simp; done) | (go_simp; rfl)); (case hp => exact (Reps.one (show Kd.M (Kd.int .i64) _ _ _ a0_0 [.int .i64 a0_0] from rfl) (Reps.one (show Kd.M (Kd.int .i64) _ _ _ a0_1 [.int .i64 a0_1] from rfl) (Reps.one (show Kd.M (Kd.int .i64) _ _ _ a0_2 [.int .i64 a0_2] from rfl) (Reps.one (show Kd.M (Kd.int .i64) _ _ _ a0_3 [.int .i64 a0_3] from rfl) (Reps.one (show Kd.M (Kd.int .i64) _ _ _ a0_4 [.int .i64 a0_4] from rfl) (Reps.none _ _))))))); intro v512 w4 ho5 hb hg_ hnew_; clear hg_ hnew_; (first | rw [← Ny511.out] at ho5 | (simp only [Int.reduceToNat] at ho5; rw [← Ny511.out] at ho5)); have n0_ := Aside0.mk (Kd.R_lower ho5 (below_size (by repeat (first | (with_reducible first | exact HB.out | apply bwA | apply bwN | apply bwD | refine below_set ?_ GE510.out) | exact HB.out)))); have n1_ := Aside0.mk (blk_below (g := gb510) (o := .cells #[.int .i64 a0_0, .int .i64 a0_1, .int .i64 a0_2, .int .i64 a0_3, .int .i64 a0_4] 23 (0, 0)) (by (with_reducible repeat (first | apply bkN | apply bkD | apply bkA)); exact BK510.out) hb); have n2_ := Aside0.mk (below_step (by repeat (first | (with_reducible first | exact HB.out | apply bwA | apply bwN | apply bwD | refine below_set ?_ GE510.out) | exact HB.out)) hb); clear BK510; clear HB; have HO513 := n0_; have BK510 := n1_; have HB := n2_; clear n0_ n1_ n2_; clear hb ho5) | ((with_reducible refine gate_dst (N := 19) rfl ?_); refine Kd.R_lit (Kd.int .i64) _ 3 ?hg (N := 19) ?hd (xs := ([2, 1, 1, 1, 1] : List Int)) (inner := [.int .i64 2, .int .i64 1, .int .i64 1, .int .i64 1, .int .i64 1]) (ok := fun _ => True) (okp := fun _ => True) ?hr ?hp (fun _ hk => hk) trivial (Below.refl _ _) (Nat.le_refl _) (by simp) ?_; (case hd => rfl); (case hg => rfl); (case hr => first | (go_simp; done) | (go_simp; rfl)); (case hp => exact (Reps.one (show Kd.M (Kd.int .i64) _ _ _ 2 [.int .i64 2] from rfl) (Reps.one (show Kd.M (Kd.int .i64) _ _ _ 1 [.int .i64 1] from rfl) (Reps.one (show Kd.M (Kd.int .i64) _ _ _ 1 [.int .i64 1] from rfl) (Reps.one (show Kd.M (Kd.int .i64) _ _ _ 1 [.int .i64 1] from rfl) (Reps.one (show Kd.M (Kd.int .i64) _ _ _ 1 [.int .i64 1] from rfl) (Reps.none _ _))))))); intro v515 w6 ho7 hb hg_ hnew_; clear hg_ hnew_; (first | rw [← Ny514.out] at ho7 | (simp only [Int.reduceToNat] at ho7; rw [← Ny514.out] at ho7)); have n0_ := Aside0.mk (Kd.R_elder' (by (with_reducible repeat (first | apply rwA | apply rwN | apply rwD)); exact HO513.out) (Kd.R_base ho7) hb); have n1_ := Aside0.mk (Kd.R_lower (Kd.R_new' ho7 (Kd.R_lt (by (with_reducible repeat (first | apply rwA | apply rwN | apply rwD)); exact HO513.out))) (below_size (by repeat (first | (with_reducible first | exact HB.out | apply bwA | apply bwN | apply bwD | refine below_set ?_ GE510.out) | exact HB.out)))); have n2_ := Aside0.mk (blk_below (g := gb510) (o := .cells #[.int .i64 a0_0, .int .i64 a0_1, .int .i64 a0_2, .int .i64 a0_3, .int .i64 a0_4] 23 (0, 0)) (by (with_reducible repeat (first | apply bkN | apply bkD | apply bkA)); exact BK510.out) hb); have n3_ := Aside0.mk (below_step (by repeat (first | (with_reducible first | exact HB.out | apply bwA | apply bwN | apply bwD | refine below_set ?_ GE510.out) | exact HB.out)) hb); clear HO513; clear BK510; clear HB; have HO513 := n0_; have HO516 := n1_; have BK510 := n2_; have HB := n3_; clear n0_ n1_ n2_ n3_; clear hb ho7) | ((with_reducible refine gate_dst (N := 20) rfl ?_); refine Kd.R_lit (Kd.int .i64) _ 3 ?hg (N := 20) ?hd (xs := ([64, 32, 4, 64, 4] : List Int)) (inner := [.int .i64 64, .int .i64 32, .int .i64 4, .int .i64 64, .int .i64 4]) (ok := fun _ => True) (okp := fun _ => True) ?hr ?hp (fun _ hk => hk) trivial (Below.refl _ _) (Nat.le_refl _) (by simp) ?_; (case hd => rfl); (case hg => rfl); (case hr => first | (go_simp; done) | (go_simp; rfl)); (case hp => exact (Reps.one (show Kd.M (Kd.int .i64) _ _ _ 64 [.int .i64 64] from rfl) (Reps.one (show Kd.M (Kd.int .i64) _ _ _ 32 [.int .i64 32] from rfl) (Reps.one (show Kd.M (Kd.int .i64) _ _ _ 4 [.int .i64 4] from rfl) (Reps.one (show Kd.M (Kd.int .i64) _ _ _ 64 [.int .i64 64] from rfl) (Reps.one (show Kd.M (Kd.int .i64) _ _ _ 4 [.int .i64 4] from rfl) (Reps.none _ _))))))); intro v518 w8 ho9 hb hg_ hnew_; clear hg_ hnew_; (first | rw [← Ny517.out] at ho9 | (simp only [Int.reduceToNat] at ho9; rw [← Ny517.out] at ho9)); have n0_ := Aside0.mk (Kd.R_elder' (by (with_reducible repeat (first | apply rwA | apply rwN | apply rwD)); exact HO513.out) (Kd.R_base ho9) hb); have n1_ := Aside0.mk (Kd.R_elder' (by (with_reducible repeat (first | apply rwA | apply rwN | apply rwD)); exact HO516.out) (Kd.R_base ho9) hb); have n2_ := Aside0.mk (Kd.R_lower (Kd.R_new' (Kd.R_new' ho9 (Kd.R_lt (by (with_reducible repeat (first | apply rwA | apply rwN | apply rwD)); exact HO513.out))) (Kd.R_lt (by (with_reducible repeat (first | apply rwA | apply rwN | apply rwD)); exact HO516.out))) (below_size (by repeat (first | (with_reducible first | exact HB.out | apply bwA | apply bwN | apply bwD | refine below_set ?_ GE510.out) | exact HB.out)))); have n3_ := Aside0.mk (blk_below (g := gb510) (o := .cells #[.int .i64 a0_0, .int .i64 a0_1, .int .i64 a0_2, .int .i64 a0_3, .int .i64 a0_4] 23 (0, 0)) (by (with_reducible repeat (first | apply bkN | apply bkD | apply bkA)); exact BK510.out) hb); have n4_ := Aside0.mk (below_step (by repeat (first | (with_reducible first | exact HB.out | apply bwA | apply bwN | apply bwD | refine below_set ?_ GE510.out) | exact HB.out)) hb); clear HO513; clear HO516; clear BK510; clear HB; have HO513 := n0_; have HO516 := n1_; have HO519 := n2_; have BK510 := n3_; have HB := n4_; clear n0_ n1_ n2_ n3_ n4_; clear hb ho9; obtain ⟨Ao10, co10, eo10⟩ := Kd.R_slice HO513.out; subst eo10)))
 go_loopg [23] k (fun kq v23 w' => ∃ (x23_1 : Int), v23 = .int .i64 x23_1 ∧ Aside0 (tillerref06_Shape.l0 kq y511 y514 y517 (y511.length : Int) x23_1 a0_0 a0_1 a0_2 a0_3 a0_4 = some r) ∧ Aside0 (kq ≤ k) ∧ Aside0 (Kd.R (Kd.int .i64) 3 w' w.heap.size (fun k_ => some k_ ≠ (v515 : Value).ownBlock ∧ some k_ ≠ (v518 : Value).ownBlock) (.slice Ao10 y511.length co10) y511) ∧ Aside0 (Kd.R (Kd.int .i64) 3 w' w.heap.size (fun k_ => some k_ ≠ ((.slice Ao10 y511.length co10) : Value).ownBlock ∧ some k_ ≠ (v518 : Value).ownBlock) v515 y514) ∧ Aside0 (Kd.R (Kd.int .i64) 3 w' w.heap.size (fun k_ => some k_ ≠ ((.slice Ao10 y511.length co10) : Value).ownBlock ∧ some k_ ≠ (v515 : Value).ownBlock) v518 y517) ∧ Aside0 (w'.heap[gb510]? = some (.cells #[.int .i64 a0_0, .int .i64 a0_1, .int .i64 a0_2, .int .i64 a0_3, .int .i64 a0_4] 23 (0, 0))) ∧ Aside0 (Below w.heap.size w w'))
 case atStart => exact ⟨(0), (by first | rfl | (simp; done) | (simp [*]; done)), H', ⟨Nat.le_refl _⟩, ⟨by (with_reducible repeat (first | apply rwA | apply rwN | apply rwD)); exact Kd.R_mono HO513.out (fun _ hk => ⟨hk.1.2, hk.2⟩)⟩, ⟨by (with_reducible repeat (first | apply rwA | apply rwN | apply rwD)); exact Kd.R_mono HO516.out (fun _ hk => ⟨hk.1.2, hk.2⟩)⟩, ⟨by (with_reducible repeat (first | apply rwA | apply rwN | apply rwD)); exact Kd.R_mono HO519.out (fun _ hk => ⟨hk.1.2, hk.2⟩)⟩, ⟨by (with_reducible repeat (first | apply bkN | apply bkD | apply bkA)); exact BK510.out⟩, ⟨by repeat (first | (with_reducible first | exact HB.out | apply bwA | apply bwN | apply bwD | refine below_set ?_ GE510.out) | exact HB.out)⟩⟩
 case round =>
  clear H'
  try clear c1
  try clear p2
  try clear hcz3_0
  try clear hcz3_1
  try clear hcz3_2
  try clear hcz3_3
  try clear hcz3_4
  try clear hfz3_0
  try clear hfz3_1
  try clear hfz3_2
  try clear hfz3_3
  try clear hfz3_4
  obtain ⟨x23_1, rfl, HA, HK1, HO_3, HO_4, HO_5, BK510, HB⟩ := hrel
  cases gk with
  | zero => exact absurd HA.out (by simp [tillerref06_Shape.l0])
  | succ k1 =>
   have H := HA.out
   clear HA
   simp only [tillerref06_Shape.l0] at H
   by_cases c11 : x23_1 < (y511.length : Int)
   ·rw [if_pos c11] at H
    have c11b0 : decide (x23_1 < (y511.length : Int)) = true := decide_eq_true c11
    clear c11
    by_cases c12 : 0 ≤ x23_1
    ·rw [if_pos c12] at H
     have c12b0 : decide (0 ≤ x23_1) = true := decide_eq_true c12
     clear c12
     by_cases c13 : x23_1 < (y511.length : Int)
     ·rw [if_pos c13] at H
      have c13b0 : decide (x23_1 < (y511.length : Int)) = true := decide_eq_true c13
      clear c13
      by_cases c14 : x23_1 < (y514.length : Int)
      ·rw [if_pos c14] at H
       have c14b0 : decide (x23_1 < (y514.length : Int)) = true := decide_eq_true c14
       clear c14
       by_cases c15 : (rd y511 x23_1) < (rd y514 x23_1)
       ·rw [if_pos c15] at H
        have c15b0 : decide ((rd y511 x23_1) < (rd y514 x23_1)) = true := decide_eq_true c15
        clear c15
        obtain rfl := Option.some.inj H
        have p520 : 0 ≤ (x23_1 : Int) := ofd_
        have q520 : x23_1 < (y511.length : Int) := ofd_
        (first | obtain ⟨ad520, e520, hx520_0⟩ := Kd.at_int (Kd.R_reads' HO_3.out).2.2 x23_1 p520 q520 | (obtain ⟨Az_, cz_, ez_⟩ := Kd.R_slice HO_3.out; subst ez_; obtain ⟨ad520, e520, hx520_0⟩ := Kd.at_int (Kd.R_reads' HO_3.out).2.2 x23_1 p520 q520))
        cases e520
        replace p520 := eq_true p520
        replace q520 := eq_true q520
        obtain ⟨Ao16, co16, eo16⟩ := Kd.R_slice HO_4.out
        subst eo16
        have p521 : 0 ≤ (x23_1 : Int) := ofd_
        have q521 : x23_1 < (y514.length : Int) := ofd_
        (first | obtain ⟨ad521, e521, hx521_0⟩ := Kd.at_int (Kd.R_reads' HO_4.out).2.2 x23_1 p521 q521 | (obtain ⟨Az_, cz_, ez_⟩ := Kd.R_slice HO_4.out; subst ez_; obtain ⟨ad521, e521, hx521_0⟩ := Kd.at_int (Kd.R_reads' HO_4.out).2.2 x23_1 p521 q521))
        cases e521
        replace p521 := eq_true p521
        replace q521 := eq_true q521
        go_wp2
        repeat (go_quiet (fail); try go_wp2)
        go_ret
        exact ⟨by first | rfl | (simp [errW_none, errW_some] <;> rfl) | (simp [*, errW_none, errW_some] <;> rfl), by repeat (first | (with_reducible first | exact HB.out | apply bwA | apply bwN | apply bwD | refine below_set ?_ GE510.out) | exact HB.out)⟩
       ·rw [if_neg c15] at H
        have c15b0 : decide ((rd y511 x23_1) < (rd y514 x23_1)) = false := decide_eq_false c15
        clear c15
        have H' := Aside0.mk H
        clear H
        have p520 : 0 ≤ (x23_1 : Int) := ofd_
        have q520 : x23_1 < (y511.length : Int) := ofd_
        (first | obtain ⟨ad520, e520, hx520_0⟩ := Kd.at_int (Kd.R_reads' HO_3.out).2.2 x23_1 p520 q520 | (obtain ⟨Az_, cz_, ez_⟩ := Kd.R_slice HO_3.out; subst ez_; obtain ⟨ad520, e520, hx520_0⟩ := Kd.at_int (Kd.R_reads' HO_3.out).2.2 x23_1 p520 q520))
        cases e520
        replace p520 := eq_true p520
        replace q520 := eq_true q520
        obtain ⟨Ao17, co17, eo17⟩ := Kd.R_slice HO_4.out
        subst eo17
        have p521 : 0 ≤ (x23_1 : Int) := ofd_
        have q521 : x23_1 < (y514.length : Int) := ofd_
        (first | obtain ⟨ad521, e521, hx521_0⟩ := Kd.at_int (Kd.R_reads' HO_4.out).2.2 x23_1 p521 q521 | (obtain ⟨Az_, cz_, ez_⟩ := Kd.R_slice HO_4.out; subst ez_; obtain ⟨ad521, e521, hx521_0⟩ := Kd.at_int (Kd.R_reads' HO_4.out).2.2 x23_1 p521 q521))
        cases e521
        replace p521 := eq_true p521
        replace q521 := eq_true q521
        go_wp2
        repeat (go_quiet (fail); try go_wp2)
        go_roundg k1
        case measure => have := HK1.out; omega
        case rel => exact ⟨(wrap64 (x23_1 + 1)), (by first | rfl | (simp; done) | (simp [*]; done)), H', ⟨by have := HK1.out; omega⟩, ⟨by (with_reducible repeat (first | apply rwA | apply rwN | apply rwD)); exact HO_3.out⟩, ⟨by (with_reducible repeat (first | apply rwA | apply rwN | apply rwD)); exact HO_4.out⟩, ⟨by (with_reducible repeat (first | apply rwA | apply rwN | apply rwD)); exact HO_5.out⟩, ⟨by (with_reducible repeat (first | apply bkN | apply bkD | apply bkA)); exact BK510.out⟩, ⟨by repeat (first | (with_reducible first | exact HB.out | apply bwA | apply bwN | apply bwD | refine below_set ?_ GE510.out) | exact HB.out)⟩⟩
      ·rw [if_neg c14] at H
       exact absurd H (by simp)
     ·rw [if_neg c13] at H
      exact absurd H (by simp)
    ·rw [if_neg c12] at H
     exact absurd H (by simp)
   ·rw [if_neg c11] at H
    have c11b0 : decide (x23_1 < (y511.length : Int)) = false := decide_eq_false c11
    clear c11
    have H' := Aside0.mk H
    clear H
    go_wp2
    repeat (go_quiet (fail); try go_wp2)
    go_loopg [38] k1 (fun kq v38 w' => ∃ (x38_2 : Int), v38 = .int .i64 x38_2 ∧ Aside0 (tillerref06_Shape.l1 kq y511 y517 (y511.length : Int) x38_2 a0_0 a0_1 a0_2 a0_3 a0_4 = some r) ∧ Aside0 (kq ≤ k1) ∧ Aside0 (Kd.R (Kd.int .i64) 3 w' w.heap.size (fun k_ => some k_ ≠ (v518 : Value).ownBlock) (.slice Ao10 y511.length co10) y511) ∧ Aside0 (Kd.R (Kd.int .i64) 3 w' w.heap.size (fun k_ => some k_ ≠ ((.slice Ao10 y511.length co10) : Value).ownBlock) v518 y517) ∧ Aside0 (w'.heap[gb510]? = some (.cells #[.int .i64 a0_0, .int .i64 a0_1, .int .i64 a0_2, .int .i64 a0_3, .int .i64 a0_4] 23 (0, 0))) ∧ Aside0 (Below w.heap.size w w'))
    case atStart => exact ⟨(0), (by first | rfl | (simp; done) | (simp [*]; done)), H', ⟨Nat.le_refl _⟩, ⟨by (with_reducible repeat (first | apply rwA | apply rwN | apply rwD)); exact Kd.R_mono HO_3.out (fun _ hk => hk.2)⟩, ⟨by (with_reducible repeat (first | apply rwA | apply rwN | apply rwD)); exact Kd.R_mono HO_5.out (fun _ hk => hk.1)⟩, ⟨by (with_reducible repeat (first | apply bkN | apply bkD | apply bkA)); exact BK510.out⟩, ⟨by repeat (first | (with_reducible first | exact HB.out | apply bwA | apply bwN | apply bwD | refine below_set ?_ GE510.out) | exact HB.out)⟩⟩
    case round =>
     clear H'
     try clear c1
     try clear p2
     try clear p5
     try clear q5
     try clear hx5
     try clear p6
     try clear c11
     try clear c11b0
     try clear c12
     try clear c12b0
     try clear c13
     try clear c13b0
     try clear c14
     try clear c14b0
     try clear c15
     try clear c15b0
     try clear hcz3_0
     try clear hcz3_1
     try clear hcz3_2
     try clear hcz3_3
     try clear hcz3_4
     try clear hfz3_0
     try clear hfz3_1
     try clear hfz3_2
     try clear hfz3_3
     try clear hfz3_4
     try clear hx520_0
     try clear hx521_0
     try clear p2
     try clear p520
     try clear p521
     try clear q520
     try clear q521
     obtain ⟨x38_2, rfl, HA, HK2, HO_3, HO_5, BK510, HB⟩ := hrel
     cases gk with
     | zero => exact absurd HA.out (by simp [tillerref06_Shape.l1])
     | succ k2 =>
      have H := HA.out
      clear HA
      simp only [tillerref06_Shape.l1] at H
      by_cases c18 : x38_2 < (y511.length : Int)
      ·rw [if_pos c18] at H
       have c18b0 : decide (x38_2 < (y511.length : Int)) = true := decide_eq_true c18
       clear c18
       by_cases c19 : 0 ≤ x38_2
       ·rw [if_pos c19] at H
        have c19b0 : decide (0 ≤ x38_2) = true := decide_eq_true c19
        clear c19
        by_cases c20 : x38_2 < (y511.length : Int)
        ·rw [if_pos c20] at H
         have c20b0 : decide (x38_2 < (y511.length : Int)) = true := decide_eq_true c20
         clear c20
         by_cases c21 : x38_2 < (y517.length : Int)
         ·rw [if_pos c21] at H
          have c21b0 : decide (x38_2 < (y517.length : Int)) = true := decide_eq_true c21
          clear c21
          by_cases c22 : (rd y511 x38_2) > (rd y517 x38_2)
          ·rw [if_pos c22] at H
           have c22b0 : decide ((rd y517 x38_2) < (rd y511 x38_2)) = true := decide_eq_true c22
           clear c22
           obtain rfl := Option.some.inj H
           have p522 : 0 ≤ (x38_2 : Int) := ofd_
           have q522 : x38_2 < (y511.length : Int) := ofd_
           (first | obtain ⟨ad522, e522, hx522_0⟩ := Kd.at_int (Kd.R_reads' HO_3.out).2.2 x38_2 p522 q522 | (obtain ⟨Az_, cz_, ez_⟩ := Kd.R_slice HO_3.out; subst ez_; obtain ⟨ad522, e522, hx522_0⟩ := Kd.at_int (Kd.R_reads' HO_3.out).2.2 x38_2 p522 q522))
           cases e522
           replace p522 := eq_true p522
           replace q522 := eq_true q522
           obtain ⟨Ao23, co23, eo23⟩ := Kd.R_slice HO_5.out
           subst eo23
           have p523 : 0 ≤ (x38_2 : Int) := ofd_
           have q523 : x38_2 < (y517.length : Int) := ofd_
           (first | obtain ⟨ad523, e523, hx523_0⟩ := Kd.at_int (Kd.R_reads' HO_5.out).2.2 x38_2 p523 q523 | (obtain ⟨Az_, cz_, ez_⟩ := Kd.R_slice HO_5.out; subst ez_; obtain ⟨ad523, e523, hx523_0⟩ := Kd.at_int (Kd.R_reads' HO_5.out).2.2 x38_2 p523 q523))
           cases e523
           replace p523 := eq_true p523
           replace q523 := eq_true q523
           go_wp2
           repeat (go_quiet (fail); try go_wp2)
           go_ret
           exact ⟨by first | rfl | (simp [errW_none, errW_some] <;> rfl) | (simp [*, errW_none, errW_some] <;> rfl), by repeat (first | (with_reducible first | exact HB.out | apply bwA | apply bwN | apply bwD | refine below_set ?_ GE510.out) | exact HB.out)⟩
          ·rw [if_neg c22] at H
           have c22b0 : decide ((rd y517 x38_2) < (rd y511 x38_2)) = false := decide_eq_false c22
           clear c22
           have H' := Aside0.mk H
           clear H
           have p522 : 0 ≤ (x38_2 : Int) := ofd_
           have q522 : x38_2 < (y511.length : Int) := ofd_
           (first | obtain ⟨ad522, e522, hx522_0⟩ := Kd.at_int (Kd.R_reads' HO_3.out).2.2 x38_2 p522 q522 | (obtain ⟨Az_, cz_, ez_⟩ := Kd.R_slice HO_3.out; subst ez_; obtain ⟨ad522, e522, hx522_0⟩ := Kd.at_int (Kd.R_reads' HO_3.out).2.2 x38_2 p522 q522))
           cases e522
           replace p522 := eq_true p522
           replace q522 := eq_true q522
           obtain ⟨Ao24, co24, eo24⟩ := Kd.R_slice HO_5.out
           subst eo24
           have p523 : 0 ≤ (x38_2 : Int) := ofd_
           have q523 : x38_2 < (y517.length : Int) := ofd_
           (first | obtain ⟨ad523, e523, hx523_0⟩ := Kd.at_int (Kd.R_reads' HO_5.out).2.2 x38_2 p523 q523 | (obtain ⟨Az_, cz_, ez_⟩ := Kd.R_slice HO_5.out; subst ez_; obtain ⟨ad523, e523, hx523_0⟩ := Kd.at_int (Kd.R_reads' HO_5.out).2.2 x38_2 p523 q523))
           cases e523
           replace p523 := eq_true p523
           replace q523 := eq_true q523
           go_wp2
           repeat (go_quiet (fail); try go_wp2)
           go_roundg k2
           case measure => have := HK1.out; have := HK2.out; omega
           case rel => exact ⟨(wrap64 (x38_2 + 1)), (by first | rfl | (simp; done) | (simp [*]; done)), H', ⟨by have := HK1.out; have := HK2.out; omega⟩, ⟨by (with_reducible repeat (first | apply rwA | apply rwN | apply rwD)); exact HO_3.out⟩, ⟨by (with_reducible repeat (first | apply rwA | apply rwN | apply rwD)); exact HO_5.out⟩, ⟨by (with_reducible repeat (first | apply bkN | apply bkD | apply bkA)); exact BK510.out⟩, ⟨by repeat (first | (with_reducible first | exact HB.out | apply bwA | apply bwN | apply bwD | refine below_set ?_ GE510.out) | exact HB.out)⟩⟩
         ·rw [if_neg c21] at H
          exact absurd H (by simp)
        ·rw [if_neg c20] at H
         exact absurd H (by simp)
       ·rw [if_neg c19] at H
        exact absurd H (by simp)
      ·rw [if_neg c18] at H
       have c18b0 : decide (x38_2 < (y511.length : Int)) = false := decide_eq_false c18
       clear c18
       by_cases c25 : a0_2 = 0
       ·rw [if_pos c25] at H
        exact absurd H (by simp)
       ·rw [if_neg c25] at H
        have c25b0 : (a0_2 == 0) = false := beq_eq_false_iff_ne.mpr c25
        have c25b1 : (a0_2 != 0) = true := bne_iff_ne.mpr c25
        by_cases c26 : (Int.tmod a0_1 a0_2) > 0
        ·rw [if_pos c26] at H
         have c26b0 : decide (0 < (Int.tmod a0_1 a0_2)) = true := decide_eq_true c26
         clear c26
         obtain rfl := Option.some.inj H
         have hcz27_0 : wr.cell? ⟨gb510, 0, none⟩ = some (.int .i64 a0_0) := (blk_cell BK510.out 0).trans rfl
         have hcz27_1 : wr.cell? ⟨gb510, 1, none⟩ = some (.int .i64 a0_1) := (blk_cell BK510.out 1).trans rfl
         have hcz27_2 : wr.cell? ⟨gb510, 2, none⟩ = some (.int .i64 a0_2) := (blk_cell BK510.out 2).trans rfl
         have hcz27_3 : wr.cell? ⟨gb510, 3, none⟩ = some (.int .i64 a0_3) := (blk_cell BK510.out 3).trans rfl
         have hcz27_4 : wr.cell? ⟨gb510, 4, none⟩ = some (.int .i64 a0_4) := (blk_cell BK510.out 4).trans rfl
         have hfz27_0 := blk_frozen BK510.out 0
         have hfz27_1 := blk_frozen BK510.out 1
         have hfz27_2 := blk_frozen BK510.out 2
         have hfz27_3 := blk_frozen BK510.out 3
         have hfz27_4 := blk_frozen BK510.out 4
         go_wp2
         repeat (go_quiet (fail); try go_wp2)
         go_ret
         exact ⟨by first | rfl | (simp [errW_none, errW_some] <;> rfl) | (simp [*, errW_none, errW_some] <;> rfl), by repeat (first | (with_reducible first | exact HB.out | apply bwA | apply bwN | apply bwD | refine below_set ?_ GE510.out) | exact HB.out)⟩
        ·rw [if_neg c26] at H
         have c26b0 : decide (0 < (Int.tmod a0_1 a0_2)) = false := decide_eq_false c26
         clear c26
         obtain rfl := Option.some.inj H
         have hcz28_0 : wr.cell? ⟨gb510, 0, none⟩ = some (.int .i64 a0_0) := (blk_cell BK510.out 0).trans rfl
         have hcz28_1 : wr.cell? ⟨gb510, 1, none⟩ = some (.int .i64 a0_1) := (blk_cell BK510.out 1).trans rfl
         have hcz28_2 : wr.cell? ⟨gb510, 2, none⟩ = some (.int .i64 a0_2) := (blk_cell BK510.out 2).trans rfl
         have hcz28_3 : wr.cell? ⟨gb510, 3, none⟩ = some (.int .i64 a0_3) := (blk_cell BK510.out 3).trans rfl
         have hcz28_4 : wr.cell? ⟨gb510, 4, none⟩ = some (.int .i64 a0_4) := (blk_cell BK510.out 4).trans rfl
         have hfz28_0 := blk_frozen BK510.out 0
         have hfz28_1 := blk_frozen BK510.out 1
         have hfz28_2 := blk_frozen BK510.out 2
         have hfz28_3 := blk_frozen BK510.out 3
         have hfz28_4 := blk_frozen BK510.out 4
         go_wp2
         repeat (go_quiet (fail); try go_wp2)
         go_ret
         exact ⟨by first | rfl | (simp [errW_none, errW_some] <;> rfl) | (simp [*, errW_none, errW_some] <;> rfl), by repeat (first | (with_reducible first | exact HB.out | apply bwA | apply bwN | apply bwD | refine below_set ?_ GE510.out) | exact HB.out)⟩

end Go.Proofs.Ytdlhodbokkaghaa.GQ
