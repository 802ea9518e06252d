-- written by this session's program gprint.py
import Derived.Test.YtdlhodbokkaghaaGQx0
import Derived.Test.YtdlhodbokkaghaaGQx6
import Derived.Test.YtdlhodbokkaghaaWLast
import Derived.Test.YtdlhodbokkaghaaWMore
import Derived.Test.YtdlhodbokkaghaaWWords
namespace Go.Proofs.Ytdlhodbokkaghaa.GQ
open Go.RowKit Go.Proofs.YtdlhodbokkaghaaW.PrintWords Go.Proofs.YtdlhodbokkaghaaW.PrintLast Go.Proofs.YtdlhodbokkaghaaW.PrintMore
attribute [local go_sem] max2_int min2_int max_two min_two max_three min_three max_four min_four   -- for this text's walks alone
set_option linter.unusedVariables false
set_option linter.unusedSimpArgs false

/-! ### tillerref06_row: function 36 -/
def tillerref06_row.l0 : Nat → Int → Int → Int → Int → Int → List Int → Int → Option (List Int × Int)
 | 0, _, _, _, _, _, _, _ => none
 | k + 1, x0, x1, x2, x3, x4, x12, x13 => if x13 < x2 then ((tillerref06_Random.f x0 (wrap64 (x1 + x13)) x3).bind fun t543 => (if x12.length < 35184372088832 then (tillerref06_row.l0 k x0 x1 x2 x3 x4 (x12 ++ [wrap32 (t543 + (wrap32 (x4)))]) (wrap64 (x13 + 1))) else (none))) else (some (x12, wrap64 (x1 + x2)))
def tillerref06_row.f (k : Nat) (a0 : Int) (a1 : Int) (a2 : Int) (a3 : Int) (a4 : Int) : Option (List Int × Int) := tillerref06_row.l0 k a0 a1 a2 a3 a4 (([] : List Int)) 0
theorem tillerref06_row.mono_l : ∀ k, (∀ y0 y1 y2 y3 y4 y5 y6, LeO (tillerref06_row.l0 k y0 y1 y2 y3 y4 y5 y6) (tillerref06_row.l0 (k + 1) y0 y1 y2 y3 y4 y5 y6))
 | 0 => fun _ _ _ _ _ _ _ r h => by simp [tillerref06_row.l0] at h
 | k + 1 => by
  have ih0 := tillerref06_row.mono_l k
  ·intro y0 y1 y2 y3 y4 y5 y6
   unfold tillerref06_row.l0
   repeat' first
   | (with_reducible exact ih0 _ _ _ _ _ _ _)
   | (with_reducible exact LeO.refl _)
   | (with_reducible exact LeO.none _)
   | (with_reducible refine LeO.ite ?_ ?_)
   | (with_reducible refine LeO.bind ?_ (fun _ => ?_))
   | exact ih0 _ _ _ _ _ _ _
   | exact LeO.none _
   | refine LeO.ite ?_ ?_
   | refine LeO.bind ?_ (fun _ => ?_)
theorem tillerref06_row.mono : ∀ a0 a1 a2 a3 a4 k, LeO (tillerref06_row.f k a0 a1 a2 a3 a4) (tillerref06_row.f (k + 1) a0 a1 a2 a3 a4) := by
 intro a0 a1 a2 a3 a4 k
 have ih0 := tillerref06_row.mono_l k
 unfold tillerref06_row.f
 repeat' first
   | (with_reducible exact ih0 _ _ _ _ _ _ _)
   | (with_reducible exact LeO.refl _)
   | (with_reducible exact LeO.none _)
   | (with_reducible refine LeO.ite ?_ ?_)
   | (with_reducible refine LeO.bind ?_ (fun _ => ?_))
   | exact ih0 _ _ _ _ _ _ _
   | exact LeO.none _
   | refine LeO.ite ?_ ?_
   | refine LeO.bind ?_ (fun _ => ?_)
set_option maxHeartbeats 8000000 in
set_option maxRecDepth 100000 in
theorem tillerref06_row.calls (k : Nat) (a0 : Int) (a1 : Int) (a2 : Int) (a3 : Int) (a4 : Int) (r1 : List Int) (r2 : Int) (w : World) (h : tillerref06_row.f k a0 a1 a2 a3 a4 = some (r1, r2)) :
  Calls Try.prog 36 #[.int .u64 a0, .int .i64 a1, .int .i64 a2, .int .i64 a3, .int .i64 a4] w fun e w' => ∃ v0_ : Value, e = .returned (.tuple #[v0_, .int .i64 r2]) ∧ Kd.R (Kd.int .i32) 35 w' w.heap.size (fun _ => True) v0_ r1 ∧ Below w.heap.size w w' := by
 have HB := Aside0.mk (Below.refl w.heap.size w)
 have H : (tillerref06_row.l0 k a0 a1 a2 a3 a4 (([] : List Int)) 0) = some (r1, r2) := h
 clear h
 obtain ⟨y540, hy540⟩ : ∃ y_ : List Int, y_ = (([] : List Int)) := ⟨_, rfl⟩
 replace H : (tillerref06_row.l0 k a0 a1 a2 a3 a4 y540 0) = some (r1, r2) := by first | (rw [hy540]; with_reducible exact H) | (have H2_ := (Option.bind_some _ _).symm.trans H; rw [hy540]; with_reducible exact H2_) | (have H2_ := (Option.bind_some _ _).symm.trans H; with_reducible exact H2_) | with_reducible exact H | (rw [hy540]; exact H) | exact H
 have Ny540 := Aside0.mk hy540
 clear hy540
 have H' := Aside0.mk H
 clear H
 go_enter Try.func36, Try.ntmps36
 go_wp2_with (first | ((with_reducible refine gate_dst (N := 14) rfl ?_); refine Kd.R_lit (Kd.int .i32) _ 35 ?hg (N := 14) ?hd (xs := ([] : List Int)) (inner := []) (ok := fun _ => True) (okp := fun _ => True) ?hr ?hp (fun _ hk => hk) trivial (Below.refl _ _) (Nat.le_refl _) (by simp) ?_; (case hd => rfl); (case hg => rfl); (case hr => first | (go_simp; done) | (go_simp; rfl)); (case hp => exact (Reps.none _ _)); intro v541 w6 ho7 hb hg_ hnew_; clear hg_ hnew_; (first | rw [← Ny540.out] at ho7 | (simp only [Int.reduceToNat] at ho7; rw [← Ny540.out] at ho7)); have n0_ := Aside0.mk (Kd.R_lower ho7 (below_size (by repeat (first | (with_reducible first | exact HB.out | apply bwA | apply bwN | apply bwD) | exact HB.out)))); have n1_ := Aside0.mk (below_step (by repeat (first | (with_reducible first | exact HB.out | apply bwA | apply bwN | apply bwD) | exact HB.out)) hb); clear HB; have HO542 := n0_; have HB := n1_; clear n0_ n1_; clear hb ho7))
 go_loopg [12, 13] k (fun kq v12 v13 w' => ∃ (x12_1 : List Int) (x13_1 : Int), v13 = .int .i64 x13_1 ∧ Aside0 (tillerref06_row.l0 kq a0 a1 a2 a3 a4 x12_1 x13_1 = some (r1, r2)) ∧ Aside0 (kq ≤ k) ∧ Aside0 (Kd.R (Kd.int .i32) 35 w' w.heap.size (fun _ => True) v12 x12_1) ∧ Aside0 (Below w.heap.size w w'))
 case atStart => exact ⟨(y540), (0), (by first | rfl | (simp; done) | (simp [*]; done)), H', ⟨Nat.le_refl _⟩, ⟨by (with_reducible repeat (first | apply rwA | apply rwN | apply rwD)); exact HO542.out⟩, ⟨by repeat (first | (with_reducible first | exact HB.out | apply bwA | apply bwN | apply bwD) | exact HB.out)⟩⟩
 case round =>
  clear H'
  try clear p2
  try clear c3
  obtain ⟨x12_1, x13_1, rfl, HA, HK1, HO_12, HB⟩ := hrel
  cases gk with
  | zero => exact absurd HA.out (by simp [tillerref06_row.l0])
  | succ k1 =>
   have H := HA.out
   clear HA
   simp only [tillerref06_row.l0] at H
   by_cases c8 : x13_1 < a2
   ·rw [if_pos c8] at H
    have c8b0 : decide (x13_1 < a2) = true := decide_eq_true c8
    clear c8
    replace H := Option.bind_eq_some_iff.mp H
    obtain ⟨t543, A90, H⟩ := H
    replace H : (if x12_1.length < 35184372088832 then (tillerref06_row.l0 k1 a0 a1 a2 a3 a4 (x12_1 ++ [wrap32 (t543 + (wrap32 (a4)))]) (wrap64 (x13_1 + 1))) else (none)) = some (r1, r2) := H
    have A9 := Aside0.mk A90
    clear A90
    by_cases c10 : x12_1.length < 35184372088832
    ·rw [if_pos c10] at H
     have LMc10 := Aside0.mk c10
     clear c10
     obtain ⟨y544, hy544⟩ : ∃ y_ : List Int, y_ = (x12_1 ++ [wrap32 (t543 + (wrap32 (a4)))]) := ⟨_, rfl⟩
     replace H : (tillerref06_row.l0 k1 a0 a1 a2 a3 a4 y544 (wrap64 (x13_1 + 1))) = some (r1, r2) := by first | (rw [hy544]; with_reducible exact H) | (have H2_ := (Option.bind_some _ _).symm.trans H; rw [hy544]; with_reducible exact H2_) | (have H2_ := (Option.bind_some _ _).symm.trans H; with_reducible exact H2_) | with_reducible exact H | (rw [hy544]; exact H) | exact H
     have Ny544 := Aside0.mk hy544
     clear hy544
     have H' := Aside0.mk H
     clear H
     go_wp2_with (first | ((with_reducible refine gate_callee (f := 14) rfl ?_); refine goesL_ (some 26) rfl rfl Try.func14 (by kernel_rfl) rfl #[.int .u64 a0, .int .i64 (wrap64 (a1 + x13_1)), .int .i64 a3] rfl (by (try simp only [List.map_toArray, List.map_cons, List.map_nil]); first | done | rfl | (simp only [List.length_drop, List.length_take]; rfl)) ?_; (with_reducible refine (tillerref06_Random.calls a0 (wrap64 (a1 + x13_1)) a3 t543 _ A9.out).mono ?_); rintro e w' ⟨rfl, ⟨nd, rfl⟩⟩; refine ⟨_, rfl, ?_⟩) | ((with_reducible refine gate_builtin (b := .append) (xs := #[.tmp 20, .tmp 30]) rfl ?_); at_builtin; refine Kd.R_append (Kd.int .i32) (w0 := w) w.heap.size rfl (.tmp 20) (.tmp 30) 25 35 (.int .i32 0) 4 rfl Try.underlying25 info35 rfl (by decide) (by omega) u12 x12_1 (wrap32 (t543 + (wrap32 (a4)))) [.int .i32 (wrap32 (t543 + (wrap32 (a4))))] (fun _ => True) (fun _ => False) rfl rfl ?aP (fun _ hk => hk.elim) ?aF ?aO ?aB ?aS ?aL ?_; (case aP => exact rfl); (case aB => exact (by repeat (first | (with_reducible first | exact HB.out | apply bwA | apply bwN | apply bwD) | exact HB.out))); (case aF => exact (fun _ _ => trivial)); (case aO => exact (by (with_reducible repeat (first | apply rwA | apply rwN | apply rwD)); exact HO_12.out)); (case aS => exact (below_size (by repeat (first | (with_reducible first | exact HB.out | apply bwA | apply bwN | apply bwD) | exact HB.out)))); (case aL => have := LMc10.out; omega); intro v545 w11 ho hb hg hat; rw [← Ny544.out] at ho; have n0_ := Aside0.mk (hb); have n1_ := Aside0.mk (ho); clear HB; clear HO_12; have HB := n0_; have HO546 := n1_; clear n0_ n1_; clear ho hb hg hat))
     go_roundg k1
     case measure => have := HK1.out; omega
     case rel => exact ⟨(y544), (wrap64 (x13_1 + 1)), (by first | rfl | (simp; done) | (simp [*]; done)), H', ⟨by have := HK1.out; omega⟩, ⟨by (with_reducible repeat (first | apply rwA | apply rwN | apply rwD)); exact HO546.out⟩, ⟨by repeat (first | (with_reducible first | exact HB.out | apply bwA | apply bwN | apply bwD) | exact HB.out)⟩⟩
    ·rw [if_neg c10] at H
     exact absurd H (by simp)
   ·rw [if_neg c8] at H
    have c8b0 : decide (x13_1 < a2) = false := decide_eq_false c8
    clear c8
    simp only [Option.some.injEq, Prod.mk.injEq] at H
    obtain ⟨rfl, rfl⟩ := H
    go_wp2
    go_ret2
    exact ⟨_, by first | rfl | (simp [errW_none, errW_some] <;> rfl) | (simp [*, errW_none, errW_some] <;> rfl), by (with_reducible repeat (first | apply rwA | apply rwN | apply rwD)); exact HO_12.out, by repeat (first | (with_reducible first | exact HB.out | apply bwA | apply bwN | apply bwD) | exact HB.out)⟩

/-! ### tillerref06_square: function 35 -/
def tillerref06_square.f (k : Nat) (a0 : Int) (a1 : Int) (a2 : Int) (a3 : Int) (a4 : Int) : Option (Int × Int × List Int × Int) := (tillerref06_row.f k a0 a1 (wrap64 (a2 * a3)) a4 0).bind fun bt548 => (some (a2, a3, bt548.1, bt548.2))
theorem tillerref06_square.mono : ∀ a0 a1 a2 a3 a4 k, LeO (tillerref06_square.f k a0 a1 a2 a3 a4) (tillerref06_square.f (k + 1) a0 a1 a2 a3 a4) := by
 intro a0 a1 a2 a3 a4 k
 unfold tillerref06_square.f
 repeat' first
   | (with_reducible exact tillerref06_row.mono _ _ _ _ _ _)
   | (with_reducible exact LeO.refl _)
   | (with_reducible exact LeO.none _)
   | (with_reducible refine LeO.ite ?_ ?_)
   | (with_reducible refine LeO.bind ?_ (fun _ => ?_))
   | exact tillerref06_row.mono _ _ _ _ _ _
   | exact LeO.none _
   | refine LeO.ite ?_ ?_
   | refine LeO.bind ?_ (fun _ => ?_)
set_option maxHeartbeats 8000000 in
set_option maxRecDepth 100000 in
theorem tillerref06_square.calls (k : Nat) (a0 : Int) (a1 : Int) (a2 : Int) (a3 : Int) (a4 : Int) (r1 : Int) (r2 : Int) (r3 : List Int) (r4 : Int) (w : World) (h : tillerref06_square.f k a0 a1 a2 a3 a4 = some (r1, r2, r3, r4)) :
  Calls Try.prog 35 #[.int .u64 a0, .int .i64 a1, .int .i64 a2, .int .i64 a3, .int .i64 a4] w fun e w' => ∃ v2_ : Value, e = .returned (.tuple #[.agg #[.int .i64 r1, .int .i64 r2, v2_], .int .i64 r4]) ∧ Kd.R (Kd.int .i32) 35 w' w.heap.size (fun _ => True) v2_ r3 ∧ Below w.heap.size w w' := by
 have hu27 := Try.underlying27
 have HB := Aside0.mk (Below.refl w.heap.size w)
 have H : ((tillerref06_row.f k a0 a1 (wrap64 (a2 * a3)) a4 0).bind fun bt548 => (some (a2, a3, bt548.1, bt548.2))) = some (r1, r2, r3, r4) := h
 clear h
 replace H := Option.bind_eq_some_iff.mp H
 obtain ⟨⟨t548, t549⟩, A60, H⟩ := H
 replace H : (some (a2, a3, t548, t549)) = some (r1, r2, r3, r4) := H
 have A6 := Aside0.mk A60
 clear A60
 simp only [Option.some.injEq, Prod.mk.injEq] at H
 obtain ⟨rfl, rfl, rfl, rfl⟩ := H
 go_enter Try.func35, Try.ntmps35
 go_wp2_with (first | ((with_reducible refine gate_dst (N := 10) rfl ?_); refine box_event ?hg (N := 10) ?hd (cs := #[.int .i64 0, .int .i64 0, .slice none 0 0]) (t := 27) ?hr ?_; (case hd => rfl); (case hg => rfl); (case hr => first | (go_simp; done) | (go_simp; rfl)); intro gb547 hg w7 hbox hb; have n0_ := Aside0.mk (below_step (by repeat (first | (with_reducible first | exact HB.out | apply bwA | apply bwN | apply bwD) | exact HB.out)) hb); have n1_ := Aside0.mk (hbox); have n2_ := Aside0.mk ((by rw [hg]; exact (below_size (by repeat (first | (with_reducible first | exact HB.out | apply bwA | apply bwN | apply bwD) | exact HB.out))) : w.heap.size ≤ gb547)); have n3_ := Aside0.mk ((by rw [hg]; exact (below_size (by repeat (first | (with_reducible first | exact HB.out | apply bwA | apply bwN | apply bwD) | exact HB.out))) : w.heap.size ≤ gb547)); clear HB; have HB := n0_; have BK547 := n1_; have GW547 := n2_; have GE547 := n3_; clear n0_ n1_ n2_ n3_; clear hb hbox hg) | ((with_reducible refine gate_callee (f := 36) rfl ?_); refine goesL_ (some 21) rfl rfl Try.func36 (by kernel_rfl) rfl #[.int .u64 a0, .int .i64 a1, .int .i64 (wrap64 (a2 * a3)), .int .i64 a4, .int .i64 0] rfl (by (try simp only [List.map_toArray, List.map_cons, List.map_nil]); first | done | rfl | (simp only [List.length_drop, List.length_take]; rfl)) ?_; (with_reducible refine (tillerref06_row.calls k a0 a1 (wrap64 (a2 * a3)) a4 0 t548 t549 _ A6.out).mono ?_); rintro e w8 ⟨v550, rfl, ho0, hb⟩; refine ⟨_, rfl, ?_⟩; have n0_ := Aside0.mk (Kd.R_lower ho0 (below_size (by repeat (first | (with_reducible first | exact HB.out | apply bwA | apply bwN | apply bwD | refine below_set ?_ GE547.out) | exact HB.out)))); have n1_ := Aside0.mk (blk_below (g := gb547) (o := .cells #[.int .i64 0, .int .i64 0, .slice none 0 0] 27 (0, 0)) (by (with_reducible repeat (first | apply bkN | apply bkD | apply bkA)); exact BK547.out) hb); have n2_ := Aside0.mk (below_step (by repeat (first | (with_reducible first | exact HB.out | apply bwA | apply bwN | apply bwD | refine below_set ?_ GE547.out) | exact HB.out)) hb); clear BK547; clear HB; have HO551 := n0_; have BK547 := n1_; have HB := n2_; clear n0_ n1_ n2_; (try clear hb); (try clear hb2); (try clear hk); (try clear hi); (try clear ho0); obtain ⟨Ao9, co9, eo9⟩ := Kd.R_slice HO551.out; subst eo9; have hcz10_0 : w8.cell? ⟨gb547, 0, none⟩ = some (.int .i64 0) := (blk_cell BK547.out 0).trans rfl; have hcz10_1 : w8.cell? ⟨gb547, 1, none⟩ = some (.int .i64 0) := (blk_cell BK547.out 1).trans rfl; have hcz10_2 : w8.cell? ⟨gb547, 2, none⟩ = some (.slice none 0 0) := (blk_cell BK547.out 2).trans rfl; have hfz10_0 := blk_frozen BK547.out 0; have hfz10_1 := blk_frozen BK547.out 1; have hfz10_2 := blk_frozen BK547.out 2))
 refine bodyPost_ret (results_ct rfl _ _ gb547 27 #[.int .i64 a2, .int .i64 a3, .slice Ao9 t548.length co9] (0, 0) _ rfl (by (with_reducible repeat (first | apply bkN | apply bkD | apply bkA)); refine blk_put (cs := #[.int .i64 a2, .int .i64 a3, .slice none 0 0]) ?_ 2 _ rfl; (with_reducible repeat (first | apply bkN | apply bkD | apply bkA)); refine blk_put (cs := #[.int .i64 a2, .int .i64 0, .slice none 0 0]) ?_ 1 _ rfl; (with_reducible repeat (first | apply bkN | apply bkD | apply bkA)); refine blk_put (cs := #[.int .i64 0, .int .i64 0, .slice none 0 0]) ?_ 0 _ rfl; (with_reducible repeat (first | apply bkN | apply bkD | apply bkA)); exact BK547.out) Try.underlying27 rfl (by kernel_rfl)) rfl ?_
 exact ⟨_, by first | rfl | (simp [errW_none, errW_some] <;> rfl) | (simp [*, errW_none, errW_some] <;> rfl), by (with_reducible repeat (first | apply rwA | apply rwN | apply rwD)); exact Kd.R_mono (Kd.R_far (p := ⟨gb547, 2, none⟩) (Kd.R_far (p := ⟨gb547, 1, none⟩) (Kd.R_far (p := ⟨gb547, 0, none⟩) (Kd.R_types HO551.out BK547.out (by decide)) (fun _ hk => hk.2) (.int .i64 a2)) (fun _ hk => hk.2) (.int .i64 a3)) (fun _ hk => hk.2) (.slice Ao9 t548.length co9)) (fun _ hk => trivial), by repeat (first | (with_reducible first | exact HB.out | apply bwA | apply bwN | apply bwD | refine below_set ?_ GE547.out) | exact HB.out)⟩

end Go.Proofs.Ytdlhodbokkaghaa.GQ
