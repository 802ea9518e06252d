-- written by this session's program gprint.py
import Derived.Test.YtfnogcppbhggpaaGQx0
import Derived.Test.YtfnogcppbhggpaaGQx13
import Derived.Test.YtfnogcppbhggpaaWMore
import Derived.Test.YtfnogcppbhggpaaWN
import Derived.Test.YtfnogcppbhggpaaWNEv
import Derived.Test.YtfnogcppbhggpaaWWords
namespace Go.Proofs.Ytfnogcppbhggpaa.GQ
open Go.RowKit Go.Proofs.YtfnogcppbhggpaaW.PrintWords Go.Proofs.YtfnogcppbhggpaaW.PrintLast Go.Proofs.YtfnogcppbhggpaaW.PrintMore
attribute [local go_sem] max2_int min2_int max_two min_two max_three min_three max_four min_four   -- for this text's walks alone
set_option linter.unusedVariables false
set_option linter.unusedSimpArgs false

/-! ### tillerref13_Without: function 22 -/
def tillerref13_Without.l0 : Nat → List (S49) → List Int → Bool → Int → List (S49) → List (S49) → Int → Int → Option ((List (S49)))
 | 0, _, _, _, _, _, _, _, _ => none
 | k + 1, x0, x1, x2, x3, x9, x13, x14, x15 => if x15 < x14 then (if 0 ≤ x15 then (if x15 < (x13.length : Int) then (if x2 = true then (if ((rd_T49 x13 x15).f1) = x3 then (tillerref13_Without.l0 k x0 x1 x2 x3 x9 x13 x14 (wrap64 (x15 + 1))) else (if x9.length < 4398046511104 then (tillerref13_Without.l0 k x0 x1 x2 x3 (x9 ++ [(⟨(rd_T49 x13 x15).f0, (rd_T49 x13 x15).f1⟩ : S49)]) x13 x14 (wrap64 (x15 + 1))) else (none))) else ((tillerref13_Find.f k x0 x1).bind fun t292 => (if x15 = t292 then (tillerref13_Without.l0 k x0 x1 x2 x3 x9 x13 x14 (wrap64 (x15 + 1))) else (if x9.length < 4398046511104 then (tillerref13_Without.l0 k x0 x1 x2 x3 (x9 ++ [(⟨(rd_T49 x13 x15).f0, (rd_T49 x13 x15).f1⟩ : S49)]) x13 x14 (wrap64 (x15 + 1))) else (none))))) else (none)) else (none)) else (some x9)
def tillerref13_Without.f (k : Nat) (l0 : List (S49)) (l1 : List Int) (a2 : Bool) (a3 : Int) : Option ((List (S49))) := tillerref13_Without.l0 k l0 l1 a2 a3 (([] : List (S49))) l0 (l0.length : Int) 0
theorem tillerref13_Without.mono_l : ∀ k, (∀ y0 y1 y2 y3 y4 y5 y6 y7, LeO (tillerref13_Without.l0 k y0 y1 y2 y3 y4 y5 y6 y7) (tillerref13_Without.l0 (k + 1) y0 y1 y2 y3 y4 y5 y6 y7))
 | 0 => fun _ _ _ _ _ _ _ _ r h => by simp [tillerref13_Without.l0] at h
 | k + 1 => by
  have ih0 := tillerref13_Without.mono_l k
  ·intro y0 y1 y2 y3 y4 y5 y6 y7
   unfold tillerref13_Without.l0
   repeat' first
   | (with_reducible exact ih0 _ _ _ _ _ _ _ _)
   | (with_reducible exact tillerref13_Find.mono _ _ _)
   | (with_reducible exact LeO.refl _)
   | (with_reducible exact LeO.none _)
   | (with_reducible refine LeO.ite ?_ ?_)
   | (with_reducible refine LeO.bind ?_ (fun _ => ?_))
   | exact ih0 _ _ _ _ _ _ _ _
   | exact tillerref13_Find.mono _ _ _
   | exact LeO.none _
   | refine LeO.ite ?_ ?_
   | refine LeO.bind ?_ (fun _ => ?_)
theorem tillerref13_Without.mono : ∀ a0 a1 a2 a3 k, LeO (tillerref13_Without.f k a0 a1 a2 a3) (tillerref13_Without.f (k + 1) a0 a1 a2 a3) := by
 intro a0 a1 a2 a3 k
 have ih0 := tillerref13_Without.mono_l k
 unfold tillerref13_Without.f
 repeat' first
   | (with_reducible exact ih0 _ _ _ _ _ _ _ _)
   | (with_reducible exact tillerref13_Find.mono _ _ _)
   | (with_reducible exact LeO.refl _)
   | (with_reducible exact LeO.none _)
   | (with_reducible refine LeO.ite ?_ ?_)
   | (with_reducible refine LeO.bind ?_ (fun _ => ?_))
   | exact ih0 _ _ _ _ _ _ _ _
   | exact tillerref13_Find.mono _ _ _
   | exact LeO.none _
   | refine LeO.ite ?_ ?_
   | refine LeO.bind ?_ (fun _ => ?_)
set_option maxHeartbeats 8000000 in
set_option maxRecDepth 100000 in
theorem tillerref13_Without.calls (k : Nat) (P0_ : Nat → Prop) (A0 : Option Addr) (c0 : Nat) (l0 : List (S49)) (A1 : Option Addr) (c1 : Nat) (l1 : List Int) (a2 : Bool) (a3 : Int) (r : List (S49)) (w : World) (hs0 : Kd.V k49 49 w w.heap.size (fun k_ => P0_ k_) (.slice A0 l0.length c0) l0) (hr1 : Kd.C (Kd.int .i64) w A1 l1.length l1) (hc1 : l1.length ≤ c1) (h : tillerref13_Without.f k l0 l1 a2 a3 = some r) :
  Calls Try.prog 22 #[.slice A0 l0.length c0, .slice A1 l1.length c1, .bool a2, .int .i64 a3] w fun e w' => ∃ v0_ : Value, e = .returned (v0_) ∧ Kd.N k49 49 w' w.heap.size (fun k_ => (P0_ k_ ∨ w.heap.size ≤ k_)) v0_ r ∧ Below w.heap.size w w' := by
 have hu49 := Try.underlying49
 have HO0 := Aside0.mk (show Kd.V k49 49 w w.heap.size (fun k_ => (P0_ k_ ∨ w.heap.size ≤ k_)) (.slice A0 l0.length c0) l0 from Kd.V_mono hs0 (fun k_ hk => .inl hk))
 have HR1 := Aside0.mk hr1
 have HC1 := Aside0.mk hc1
 clear hr1 hc1
 have HB := Aside0.mk (Below.refl w.heap.size w)
 have H : (tillerref13_Without.l0 k l0 l1 a2 a3 (([] : List (S49))) l0 (l0.length : Int) 0) = some r := h
 clear h
 obtain ⟨y284, hy284⟩ : ∃ y_ : List (S49), y_ = (([] : List (S49))) := ⟨_, rfl⟩
 replace H : (tillerref13_Without.l0 k l0 l1 a2 a3 y284 l0 (l0.length : Int) 0) = some r := by first | (rw [hy284]; with_reducible exact H) | (have H2_ := (Option.bind_some _ _).symm.trans H; rw [hy284]; with_reducible exact H2_) | (have H2_ := (Option.bind_some _ _).symm.trans H; with_reducible exact H2_) | with_reducible exact H | (rw [hy284]; exact H) | exact H
 have Ny284 := Aside0.mk hy284
 clear hy284
 have H' := Aside0.mk H
 clear H
 go_enter Try.func22, Try.ntmps22
 go_wp2_with (first | ((with_reducible refine gate_dst (N := 12) rfl ?_); refine Kd.N_lit k49 _ 49 ?hg (N' := 12) ?hd (xs := ([] : List (S49))) (inner := []) (ok := (fun k_ => (P0_ k_ ∨ w.heap.size ≤ k_))) (okp := (fun k_ => (P0_ k_ ∨ w.heap.size ≤ k_))) ?hr ?hp (fun _ hk => hk) ((show ∀ k_, w.heap.size ≤ k_ → (fun k_ => (P0_ k_ ∨ w.heap.size ≤ k_)) k_ from fun k_ hk => (.inr (Nat.le_trans (below_size (by repeat (first | (with_reducible first | exact HB.out | apply bwA | apply bwN | apply bwD) | exact HB.out))) hk))) _ (Nat.le_refl _)) (Below.refl _ _) (Nat.le_refl _) (by simp) ?_; (case hd => rfl); (case hg => rfl); (case hr => first | (go_simp; done) | (go_simp; rfl)); (case hp => exact (Reps.none _ _)); intro v285 w5 ho6 hb hg_ hnew_; clear hg_ hnew_; (first | rw [← Ny284.out] at ho6 | (simp only [Int.reduceToNat] at ho6; rw [← Ny284.out] at ho6)); have n0_ := Aside0.mk (Kd.V_elder' (by (with_reducible repeat (first | apply Kd.V_alloc | apply Kd.V_drewN | apply Kd.V_drew)); exact HO0.out) (Kd.N_base ho6) hb); have n1_ := Aside0.mk (Kd.N_lower ho6 (below_size (by repeat (first | (with_reducible first | exact HB.out | apply bwA | apply bwN | apply bwD) | exact HB.out)))); have n2_ := Aside0.mk (below_step (by repeat (first | (with_reducible first | exact HB.out | apply bwA | apply bwN | apply bwD) | exact HB.out)) hb); clear HO0; clear HB; have HO0 := n0_; have HO286 := n1_; have HB := n2_; clear n0_ n1_ n2_; clear hb ho6))
 go_loopg [9, 15] k (fun kq v9 v15 w' => ∃ (x9_1 : List (S49)) (x15_1 : Int), v15 = .int .i64 x15_1 ∧ Aside0 (tillerref13_Without.l0 kq l0 l1 a2 a3 x9_1 l0 (l0.length : Int) x15_1 = some r) ∧ Aside0 (kq ≤ k) ∧ Aside0 (Kd.V k49 49 w' w.heap.size (fun k_ => (P0_ k_ ∨ w.heap.size ≤ k_) ∧ some k_ ≠ (v9 : Value).ownBlock) (.slice A0 l0.length c0) l0) ∧ Aside0 (Kd.N k49 49 w' w.heap.size (fun k_ => (P0_ k_ ∨ w.heap.size ≤ k_)) v9 x9_1) ∧ Aside0 (Kd.V k49 49 w' w.heap.size (fun k_ => (P0_ k_ ∨ w.heap.size ≤ k_) ∧ some k_ ≠ (v9 : Value).ownBlock) (.slice A0 l0.length c0) l0) ∧ Aside0 (Below w.heap.size w w'))
 case atStart => exact ⟨(y284), (0), (by first | rfl | (simp; done) | (simp [*]; done)), H', ⟨Nat.le_refl _⟩, ⟨by (with_reducible repeat (first | apply Kd.V_alloc | apply Kd.V_drewN | apply Kd.V_drew)); exact HO0.out⟩, ⟨by (with_reducible repeat (first | apply Kd.N_alloc | apply Kd.N_drewN | apply Kd.N_drew)); exact HO286.out⟩, ⟨by (with_reducible repeat (first | apply Kd.V_alloc | apply Kd.V_drewN | apply Kd.V_drew)); exact HO0.out⟩, ⟨by repeat (first | (with_reducible first | exact HB.out | apply bwA | apply bwN | apply bwD) | exact HB.out)⟩⟩
 case round =>
  clear H'
  try clear c1
  try clear c2
  try clear p2
  obtain ⟨x9_1, x15_1, rfl, HA, HK1, HO_0, HO_9, HO_13, HB⟩ := hrel
  cases gk with
  | zero => exact absurd HA.out (by simp [tillerref13_Without.l0])
  | succ k1 =>
   have H := HA.out
   clear HA
   simp only [tillerref13_Without.l0] at H
   by_cases c7 : x15_1 < (l0.length : Int)
   ·rw [if_pos c7] at H
    have c7b0 : decide (x15_1 < (l0.length : Int)) = true := decide_eq_true c7
    clear c7
    by_cases c8 : 0 ≤ x15_1
    ·rw [if_pos c8] at H
     have c8b0 : decide (0 ≤ x15_1) = true := decide_eq_true c8
     clear c8
     by_cases c9 : x15_1 < (l0.length : Int)
     ·rw [if_pos c9] at H
      have c9b0 : decide (x15_1 < (l0.length : Int)) = true := decide_eq_true c9
      clear c9
      by_cases c10 : a2 = true
      ·subst c10
       have H1 : (if ((rd_T49 l0 x15_1).f1) = a3 then (tillerref13_Without.l0 k1 l0 l1 true a3 x9_1 l0 (l0.length : Int) (wrap64 (x15_1 + 1))) else (if x9_1.length < 4398046511104 then (tillerref13_Without.l0 k1 l0 l1 true a3 (x9_1 ++ [(⟨(rd_T49 l0 x15_1).f0, (rd_T49 l0 x15_1).f1⟩ : S49)]) l0 (l0.length : Int) (wrap64 (x15_1 + 1))) else (none))) = some r := by rw [if_pos rfl] at H; exact H
       clear H
       have H := H1
       clear H1
       by_cases c11 : ((rd_T49 l0 x15_1).f1) = a3
       ·rw [if_pos c11] at H
        have c11b0 : (((rd_T49 l0 x15_1).f1) == a3) = true := beq_iff_eq.mpr c11
        have c11b1 : (((rd_T49 l0 x15_1).f1) != a3) = false := bne_eq_false_iff_eq.mpr c11
        clear c11
        have H' := Aside0.mk H
        clear H
        have p287 : 0 ≤ (x15_1 : Int) := ofd_
        have q287 : x15_1 < (l0.length : Int) := ofd_
        obtain ⟨ad287, A287_0, c287_0, e287, hx287_0, hx287_1, hl287_0, hi287_0⟩ := at_T49 (Kd.V_reads' HO_13.out).2.2 x15_1 p287 q287
        cases e287
        obtain ⟨ce287, hce287, hMe287, hcc287⟩ := Kd.V_get HO_13.out z49 x15_1 p287 (by first | exact q287 | exact ofd_ | (have e_ := (Kd.V_reads' HO_13.out).1; omega))
        obtain ⟨ua287_0, uc287_0, rfl, ul287_0, ge287_0⟩ := k49_openF hMe287
        have hv287_0 := hcc287 0 _ rfl
        rw [Nat.add_zero] at hv287_0
        replace hv287_0 := Option.some.inj (hv287_0.symm.trans hx287_0)
        injection hv287_0 with hva_ hvn_ hvc_
        rw [hva_] at ge287_0
        rw [hvc_] at ul287_0
        have HL287_0 := Aside0.mk (show Kd.V (Kd.int .i64) 3 _ w.heap.size _ _ ((rd_T49 l0 x15_1).f0) from Kd.V_mk ul287_0 ge287_0)
        clear hva_ hvn_ hvc_ ge287_0 ul287_0
        clear hcc287 hce287
        have HR287_0 := Aside0.mk hi287_0
        have HC287_0 := Aside0.mk hl287_0
        clear hi287_0 hl287_0
        replace p287 := eq_true p287
        replace q287 := eq_true q287
        go_wp2_with (first | ((with_reducible refine gate_dst (N := 11) rfl ?_); refine box_event ?hg (N := 11) ?hd (cs := #[.slice none 0 0, .int .i64 0]) (t := 49) ?hr ?_; (case hd => rfl); (case hg => rfl); (case hr => first | (go_simp; done) | (go_simp; rfl)); intro gb288 hg w12 hbox hb; have n0_ := Aside0.mk (Kd.V_below (Kd.V_elderB (by (with_reducible repeat (first | apply Kd.V_alloc | apply Kd.V_drewN | apply Kd.V_drew)); exact HO_0.out) gb288 (Nat.le_of_eq hg.symm)) hb); have n1_ := Aside0.mk (Kd.N_below (Kd.N_elderB (by (with_reducible repeat (first | apply Kd.N_alloc | apply Kd.N_drewN | apply Kd.N_drew)); exact HO_9.out) gb288 (Nat.le_of_eq hg.symm)) hb); have n2_ := Aside0.mk (Kd.V_below (Kd.V_elderB (by (with_reducible repeat (first | apply Kd.V_alloc | apply Kd.V_drewN | apply Kd.V_drew)); exact HO_13.out) gb288 (Nat.le_of_eq hg.symm)) hb); have n3_ := Aside0.mk (Kd.V_below (Kd.V_elderB (by (with_reducible repeat (first | apply Kd.V_alloc | apply Kd.V_drewN | apply Kd.V_drew)); exact HL287_0.out) gb288 (Nat.le_of_eq hg.symm)) hb); have n4_ := Aside0.mk (Kd.C_below (by repeat (first | (with_reducible exact HR287_0.out) | (with_reducible refine Kd.C_alloc ?_ _) | (with_reducible refine Kd.C_drewN ?_ _) | (with_reducible refine Kd.C_drew ?_) | exact HR287_0.out)) hb); have n5_ := Aside0.mk (below_step (by repeat (first | (with_reducible first | exact HB.out | apply bwA | apply bwN | apply bwD) | exact HB.out)) hb); have n6_ := Aside0.mk (hbox); have n7_ := Aside0.mk ((by rw [hg]; exact (below_size (by repeat (first | (with_reducible first | exact HB.out | apply bwA | apply bwN | apply bwD) | exact HB.out))) : w.heap.size ≤ gb288)); have n8_ := Aside0.mk ((by rw [hg]; exact (below_size (by repeat (first | (with_reducible first | exact HB.out | apply bwA | apply bwN | apply bwD) | exact HB.out))) : w.heap.size ≤ gb288)); clear HO_0; clear HO_9; clear HO_13; clear HL287_0; clear HR287_0; clear HB; have HO_0 := n0_; have HO_9 := n1_; have HO_13 := n2_; have HL287_0 := n3_; have HR287_0 := n4_; have HB := n5_; have BK288 := n6_; have GW288 := n7_; have GE288 := n8_; clear n0_ n1_ n2_ n3_ n4_ n5_ n6_ n7_ n8_; clear hb hbox hg; have hcz13_0 : w12.cell? ⟨gb288, 0, none⟩ = some (.slice none 0 0) := (blk_cell BK288.out 0).trans rfl; have hcz13_1 : w12.cell? ⟨gb288, 1, none⟩ = some (.int .i64 0) := (blk_cell BK288.out 1).trans rfl; have hfz13_0 := blk_frozen BK288.out 0; have hfz13_1 := blk_frozen BK288.out 1))
        go_roundg k1
        case measure => have := HK1.out; omega
        case rel => exact ⟨(x9_1), (wrap64 (x15_1 + 1)), (by first | rfl | (simp; done) | (simp [*]; done)), H', ⟨by have := HK1.out; omega⟩, ⟨by (with_reducible repeat (first | apply Kd.V_alloc | apply Kd.V_drewN | apply Kd.V_drew)); exact Kd.V_mono (Kd.V_far (p := ⟨gb288, 1, none⟩) (Kd.V_far (p := ⟨gb288, 0, none⟩) (Kd.V_mono HO_0.out (fun k_ hk => (⟨hk, hk.2⟩ : _ ∧ k_ ≠ gb288))) (fun _ hk => hk.2) (.slice A287_0 ((rd_T49 l0 x15_1).f0).length c287_0)) (fun _ hk => hk.2) (.int .i64 ((rd_T49 l0 x15_1).f1))) (fun _ hk => ⟨hk.1.1.1, hk.1.1.2⟩)⟩, ⟨by (with_reducible repeat (first | apply Kd.N_alloc | apply Kd.N_drewN | apply Kd.N_drew)); exact Kd.N_mono (Kd.N_far (p := ⟨gb288, 1, none⟩) (Kd.N_far (p := ⟨gb288, 0, none⟩) (Kd.N_mono HO_9.out (fun k_ hk => (⟨hk, hk.2⟩ : _ ∧ k_ ≠ gb288))) (fun _ hk => hk.2) (.slice A287_0 ((rd_T49 l0 x15_1).f0).length c287_0)) (fun _ hk => hk.2) (.int .i64 ((rd_T49 l0 x15_1).f1))) (fun _ hk => hk.1.1)⟩, ⟨by (with_reducible repeat (first | apply Kd.V_alloc | apply Kd.V_drewN | apply Kd.V_drew)); exact Kd.V_mono (Kd.V_far (p := ⟨gb288, 1, none⟩) (Kd.V_far (p := ⟨gb288, 0, none⟩) (Kd.V_mono HO_13.out (fun k_ hk => (⟨hk, hk.2⟩ : _ ∧ k_ ≠ gb288))) (fun _ hk => hk.2) (.slice A287_0 ((rd_T49 l0 x15_1).f0).length c287_0)) (fun _ hk => hk.2) (.int .i64 ((rd_T49 l0 x15_1).f1))) (fun _ hk => ⟨hk.1.1.1, hk.1.1.2⟩)⟩, ⟨by repeat (first | (with_reducible first | exact HB.out | apply bwA | apply bwN | apply bwD | refine below_set ?_ GE288.out) | exact HB.out)⟩⟩
       ·rw [if_neg c11] at H
        have c11b0 : (((rd_T49 l0 x15_1).f1) == a3) = false := beq_eq_false_iff_ne.mpr c11
        have c11b1 : (((rd_T49 l0 x15_1).f1) != a3) = true := bne_iff_ne.mpr c11
        by_cases c14 : x9_1.length < 4398046511104
        ·rw [if_pos c14] at H
         have LMc14 := Aside0.mk c14
         clear c14
         obtain ⟨y289, hy289⟩ : ∃ y_ : List (S49), y_ = (x9_1 ++ [(⟨(rd_T49 l0 x15_1).f0, (rd_T49 l0 x15_1).f1⟩ : S49)]) := ⟨_, rfl⟩
         replace H : (tillerref13_Without.l0 k1 l0 l1 true a3 y289 l0 (l0.length : Int) (wrap64 (x15_1 + 1))) = some r := by first | (rw [hy289]; with_reducible exact H) | (have H2_ := (Option.bind_some _ _).symm.trans H; rw [hy289]; with_reducible exact H2_) | (have H2_ := (Option.bind_some _ _).symm.trans H; with_reducible exact H2_) | with_reducible exact H | (rw [hy289]; exact H) | exact H
         have Ny289 := Aside0.mk hy289
         clear hy289
         have H' := Aside0.mk H
         clear H
         have p287 : 0 ≤ (x15_1 : Int) := ofd_
         have q287 : x15_1 < (l0.length : Int) := ofd_
         obtain ⟨ad287, A287_0, c287_0, e287, hx287_0, hx287_1, hl287_0, hi287_0⟩ := at_T49 (Kd.V_reads' HO_13.out).2.2 x15_1 p287 q287
         cases e287
         obtain ⟨ce287, hce287, hMe287, hcc287⟩ := Kd.V_get HO_13.out z49 x15_1 p287 (by first | exact q287 | exact ofd_ | (have e_ := (Kd.V_reads' HO_13.out).1; omega))
         obtain ⟨ua287_0, uc287_0, rfl, ul287_0, ge287_0⟩ := k49_openF hMe287
         have hv287_0 := hcc287 0 _ rfl
         rw [Nat.add_zero] at hv287_0
         replace hv287_0 := Option.some.inj (hv287_0.symm.trans hx287_0)
         injection hv287_0 with hva_ hvn_ hvc_
         rw [hva_] at ge287_0
         rw [hvc_] at ul287_0
         have HL287_0 := Aside0.mk (show Kd.V (Kd.int .i64) 3 _ w.heap.size _ _ ((rd_T49 l0 x15_1).f0) from Kd.V_mk ul287_0 ge287_0)
         clear hva_ hvn_ hvc_ ge287_0 ul287_0
         clear hcc287 hce287
         have HR287_0 := Aside0.mk hi287_0
         have HC287_0 := Aside0.mk hl287_0
         clear hi287_0 hl287_0
         replace p287 := eq_true p287
         replace q287 := eq_true q287
         go_wp2_with (first | ((with_reducible refine gate_dst (N := 11) rfl ?_); refine box_event ?hg (N := 11) ?hd (cs := #[.slice none 0 0, .int .i64 0]) (t := 49) ?hr ?_; (case hd => rfl); (case hg => rfl); (case hr => first | (go_simp; done) | (go_simp; rfl)); intro gb288 hg w15 hbox hb; have n0_ := Aside0.mk (Kd.V_below (Kd.V_elderB (by (with_reducible repeat (first | apply Kd.V_alloc | apply Kd.V_drewN | apply Kd.V_drew)); exact HO_0.out) gb288 (Nat.le_of_eq hg.symm)) hb); have n1_ := Aside0.mk (Kd.N_below (Kd.N_elderB (by (with_reducible repeat (first | apply Kd.N_alloc | apply Kd.N_drewN | apply Kd.N_drew)); exact HO_9.out) gb288 (Nat.le_of_eq hg.symm)) hb); have n2_ := Aside0.mk (Kd.V_below (Kd.V_elderB (by (with_reducible repeat (first | apply Kd.V_alloc | apply Kd.V_drewN | apply Kd.V_drew)); exact HO_13.out) gb288 (Nat.le_of_eq hg.symm)) hb); have n3_ := Aside0.mk (Kd.V_below (Kd.V_elderB (by (with_reducible repeat (first | apply Kd.V_alloc | apply Kd.V_drewN | apply Kd.V_drew)); exact HL287_0.out) gb288 (Nat.le_of_eq hg.symm)) hb); have n4_ := Aside0.mk (Kd.C_below (by repeat (first | (with_reducible exact HR287_0.out) | (with_reducible refine Kd.C_alloc ?_ _) | (with_reducible refine Kd.C_drewN ?_ _) | (with_reducible refine Kd.C_drew ?_) | exact HR287_0.out)) hb); have n5_ := Aside0.mk (below_step (by repeat (first | (with_reducible first | exact HB.out | apply bwA | apply bwN | apply bwD) | exact HB.out)) hb); have n6_ := Aside0.mk (hbox); have n7_ := Aside0.mk ((by rw [hg]; exact (below_size (by repeat (first | (with_reducible first | exact HB.out | apply bwA | apply bwN | apply bwD) | exact HB.out))) : w.heap.size ≤ gb288)); have n8_ := Aside0.mk ((by rw [hg]; exact (below_size (by repeat (first | (with_reducible first | exact HB.out | apply bwA | apply bwN | apply bwD) | exact HB.out))) : w.heap.size ≤ gb288)); clear HO_0; clear HO_9; clear HO_13; clear HL287_0; clear HR287_0; clear HB; have HO_0 := n0_; have HO_9 := n1_; have HO_13 := n2_; have HL287_0 := n3_; have HR287_0 := n4_; have HB := n5_; have BK288 := n6_; have GW288 := n7_; have GE288 := n8_; clear n0_ n1_ n2_ n3_ n4_ n5_ n6_ n7_ n8_; clear hb hbox hg; have hcz16_0 : w15.cell? ⟨gb288, 0, none⟩ = some (.slice none 0 0) := (blk_cell BK288.out 0).trans rfl; have hcz16_1 : w15.cell? ⟨gb288, 1, none⟩ = some (.int .i64 0) := (blk_cell BK288.out 1).trans rfl; have hfz16_0 := blk_frozen BK288.out 0; have hfz16_1 := blk_frozen BK288.out 1) | ((with_reducible refine gate_store (t := 49) (p := 11) rfl ?_); refine store_event (t := 49) (p := 11) (v := ?vo_w17) (w1 := ((w15.setCell ⟨gb288, 0, none⟩ (.slice A287_0 ((rd_T49 l0 x15_1).f0).length c287_0)).setCell ⟨gb288, 1, none⟩ (.int .i64 ((rd_T49 l0 x15_1).f1)))) ?hg ?ho ?hn ?hr ?_; (case ho => rfl); (case hg => rfl); (case hn => rfl); (case hr => first | (go_simp; done) | (go_simp; rfl)); intro w17 hw; have n0_ : Aside0 (Kd.V k49 49 w17 w.heap.size (fun k_ => (P0_ k_ ∨ w.heap.size ≤ k_) ∧ some k_ ≠ (u9 : Value).ownBlock ∧ k_ ≠ gb288) (.slice (some ad287) l0.length c0) l0) := ⟨(by rw [hw]; exact (by (with_reducible repeat (first | apply Kd.V_alloc | apply Kd.V_drewN | apply Kd.V_drew)); exact Kd.V_mono (Kd.V_far (p := ⟨gb288, 1, none⟩) (Kd.V_far (p := ⟨gb288, 0, none⟩) (Kd.V_mono HO_0.out (fun k_ hk => (⟨hk, hk.2⟩ : _ ∧ k_ ≠ gb288))) (fun _ hk => hk.2) (.slice A287_0 ((rd_T49 l0 x15_1).f0).length c287_0)) (fun _ hk => hk.2) (.int .i64 ((rd_T49 l0 x15_1).f1))) (fun _ hk => ⟨hk.1.1.1, ⟨hk.1.1.2, hk.1.2⟩⟩)))⟩; have n1_ : Aside0 (Kd.N k49 49 w17 w.heap.size (fun k_ => (P0_ k_ ∨ w.heap.size ≤ k_) ∧ k_ ≠ gb288) u9 x9_1) := ⟨(by rw [hw]; exact (by (with_reducible repeat (first | apply Kd.N_alloc | apply Kd.N_drewN | apply Kd.N_drew)); exact Kd.N_mono (Kd.N_far (p := ⟨gb288, 1, none⟩) (Kd.N_far (p := ⟨gb288, 0, none⟩) (Kd.N_mono HO_9.out (fun k_ hk => (⟨hk, hk.2⟩ : _ ∧ k_ ≠ gb288))) (fun _ hk => hk.2) (.slice A287_0 ((rd_T49 l0 x15_1).f0).length c287_0)) (fun _ hk => hk.2) (.int .i64 ((rd_T49 l0 x15_1).f1))) (fun _ hk => ⟨hk.1.1, hk.1.2⟩)))⟩; have n2_ : Aside0 (Kd.V k49 49 w17 w.heap.size (fun k_ => (P0_ k_ ∨ w.heap.size ≤ k_) ∧ some k_ ≠ (u9 : Value).ownBlock ∧ k_ ≠ gb288) (.slice (some ad287) l0.length c0) l0) := ⟨(by rw [hw]; exact (by (with_reducible repeat (first | apply Kd.V_alloc | apply Kd.V_drewN | apply Kd.V_drew)); exact Kd.V_mono (Kd.V_far (p := ⟨gb288, 1, none⟩) (Kd.V_far (p := ⟨gb288, 0, none⟩) (Kd.V_mono HO_13.out (fun k_ hk => (⟨hk, hk.2⟩ : _ ∧ k_ ≠ gb288))) (fun _ hk => hk.2) (.slice A287_0 ((rd_T49 l0 x15_1).f0).length c287_0)) (fun _ hk => hk.2) (.int .i64 ((rd_T49 l0 x15_1).f1))) (fun _ hk => ⟨hk.1.1.1, ⟨hk.1.1.2, hk.1.2⟩⟩)))⟩; have n3_ : Aside0 (Kd.V (Kd.int .i64) 3 w17 w.heap.size (fun k_ => (P0_ k_ ∨ w.heap.size ≤ k_) ∧ some k_ ≠ (u9 : Value).ownBlock ∧ k_ ≠ gb288) (.slice A287_0 ((rd_T49 l0 x15_1).f0).length c287_0) ((rd_T49 l0 x15_1).f0)) := ⟨(by rw [hw]; exact (by (with_reducible repeat (first | apply Kd.V_alloc | apply Kd.V_drewN | apply Kd.V_drew)); exact Kd.V_mono (Kd.V_far (p := ⟨gb288, 1, none⟩) (Kd.V_far (p := ⟨gb288, 0, none⟩) (Kd.V_mono HL287_0.out (fun k_ hk => (⟨hk, hk.2⟩ : _ ∧ k_ ≠ gb288))) (fun _ hk => hk.2) (.slice A287_0 ((rd_T49 l0 x15_1).f0).length c287_0)) (fun _ hk => hk.2) (.int .i64 ((rd_T49 l0 x15_1).f1))) (fun _ hk => ⟨hk.1.1.1, ⟨hk.1.1.2, hk.1.2⟩⟩)))⟩; have n4_ : Aside0 (w17.heap[gb288]? = some (.cells #[.slice A287_0 ((rd_T49 l0 x15_1).f0).length c287_0, .int .i64 ((rd_T49 l0 x15_1).f1)] 49 (0, 0))) := ⟨(by rw [hw]; exact (by (with_reducible repeat (first | apply bkN | apply bkD | apply bkA)); refine blk_put (cs := #[.slice A287_0 ((rd_T49 l0 x15_1).f0).length c287_0, .int .i64 0]) ?_ 1 _ rfl; (with_reducible repeat (first | apply bkN | apply bkD | apply bkA)); refine blk_put (cs := #[.slice none 0 0, .int .i64 0]) ?_ 0 _ rfl; (with_reducible repeat (first | apply bkN | apply bkD | apply bkA)); exact BK288.out))⟩; have n5_ : Aside0 (Below w.heap.size w w17) := ⟨(by rw [hw]; exact (by repeat (first | (with_reducible first | exact HB.out | apply bwA | apply bwN | apply bwD | refine below_set ?_ GE288.out) | exact HB.out)))⟩; clear hw; clear HO_0; clear HO_9; clear HO_13; clear HL287_0; clear BK288; clear HB; have HO_0 := n0_; have HO_9 := n1_; have HO_13 := n2_; have HL287_0 := n3_; have BK288 := n4_; have HB := n5_; clear n0_ n1_ n2_ n3_ n4_ n5_; have hcz18_0 : w17.cell? ⟨gb288, 0, none⟩ = some (.slice A287_0 ((rd_T49 l0 x15_1).f0).length c287_0) := (blk_cell BK288.out 0).trans rfl; have hcz18_1 : w17.cell? ⟨gb288, 1, none⟩ = some (.int .i64 ((rd_T49 l0 x15_1).f1)) := (blk_cell BK288.out 1).trans rfl; have hfz18_0 := blk_frozen BK288.out 0; have hfz18_1 := blk_frozen BK288.out 1) | ((with_reducible refine gate_builtin (b := .append) (xs := #[.tmp 38, .tmp 40]) rfl ?_); at_builtin; refine Kd.N_append k49 (w0 := w) w.heap.size rfl (.tmp 38) (.tmp 40) 46 49 (.agg #[(.slice none 0 0), (.int .i64 0)]) 32 rfl Try.underlying46 info49 rfl (by decide) (by omega) u9 x9_1 (⟨(rd_T49 l0 x15_1).f0, (rd_T49 l0 x15_1).f1⟩ : S49) [.slice A287_0 ((rd_T49 l0 x15_1).f0).length c287_0, .int .i64 ((rd_T49 l0 x15_1).f1)] (fun k_ => (P0_ k_ ∨ w.heap.size ≤ k_) ∧ k_ ≠ gb288) (fun k_ => ((fun k_ => (P0_ k_ ∨ w.heap.size ≤ k_) ∧ k_ ≠ gb288)) k_ ∧ some k_ ≠ (u9 : Value).ownBlock) rfl rfl ?aP (fun _ hk => hk) ?aF ?aO ?aB ?aS ?aL ?_; (case aP => exact (k49_mkF _ _ (⟨(rd_T49 l0 x15_1).f0, (rd_T49 l0 x15_1).f1⟩ : S49) (Kd.V_reads' (Kd.V_mono (ok' := (fun k_ => ((fun k_ => (P0_ k_ ∨ w.heap.size ≤ k_) ∧ k_ ≠ gb288)) k_ ∧ some k_ ≠ (u9 : Value).ownBlock)) (HL287_0.out) (fun k_ hk => ⟨⟨hk.1, hk.2.2⟩, hk.2.1⟩))).2.1 (Kd.V_F (Kd.V_mono (ok' := (fun k_ => ((fun k_ => (P0_ k_ ∨ w.heap.size ≤ k_) ∧ k_ ≠ gb288)) k_ ∧ some k_ ≠ (u9 : Value).ownBlock)) (HL287_0.out) (fun k_ hk => ⟨⟨hk.1, hk.2.2⟩, hk.2.1⟩))))); (case aB => exact (by repeat (first | (with_reducible first | exact HB.out | apply bwA | apply bwN | apply bwD | refine below_set ?_ GE288.out) | exact HB.out))); (case aF => exact (fun k_ hk => ⟨(.inr (Nat.le_trans (below_size (by repeat (first | (with_reducible first | exact HB.out | apply bwA | apply bwN | apply bwD | refine below_set ?_ GE288.out) | exact HB.out))) hk)), Kd.freshB (g := gb288) (o := .cells #[.slice A287_0 ((rd_T49 l0 x15_1).f0).length c287_0, .int .i64 ((rd_T49 l0 x15_1).f1)] 49 (0, 0)) (by (with_reducible repeat (first | apply bkN | apply bkD | apply bkA)); exact BK288.out) k_ hk⟩)); (case aO => exact (by (with_reducible repeat (first | apply Kd.N_alloc | apply Kd.N_drewN | apply Kd.N_drew)); exact HO_9.out)); (case aS => exact (below_size (by repeat (first | (with_reducible first | exact HB.out | apply bwA | apply bwN | apply bwD | refine below_set ?_ GE288.out) | exact HB.out)))); (case aL => have := LMc14.out; omega); intro v290 w19 ho hb hg hat; rw [← Ny289.out] at ho; have n0_ := Aside0.mk (Kd.V_afterv (ok := (fun k_ => (P0_ k_ ∨ w.heap.size ≤ k_) ∧ k_ ≠ gb288)) (by (with_reducible repeat (first | apply Kd.V_alloc | apply Kd.V_drewN | apply Kd.V_drew)); exact Kd.V_mono HO_0.out (fun _ hk => ⟨⟨hk.1, hk.2.2⟩, hk.2.1⟩)) hg hat); have n1_ := Aside0.mk (Kd.V_afterv (ok := (fun k_ => (P0_ k_ ∨ w.heap.size ≤ k_) ∧ k_ ≠ gb288)) (by (with_reducible repeat (first | apply Kd.V_alloc | apply Kd.V_drewN | apply Kd.V_drew)); exact Kd.V_mono HO_13.out (fun _ hk => ⟨⟨hk.1, hk.2.2⟩, hk.2.1⟩)) hg hat); have n2_ := Aside0.mk (Kd.V_afterv (ok := (fun k_ => (P0_ k_ ∨ w.heap.size ≤ k_) ∧ k_ ≠ gb288)) (by (with_reducible repeat (first | apply Kd.V_alloc | apply Kd.V_drewN | apply Kd.V_drew)); exact Kd.V_mono HL287_0.out (fun _ hk => ⟨⟨hk.1, hk.2.2⟩, hk.2.1⟩)) hg hat); have n3_ := Aside0.mk (blk_grown (g := gb288) (o := .cells #[.slice A287_0 ((rd_T49 l0 x15_1).f0).length c287_0, .int .i64 ((rd_T49 l0 x15_1).f1)] 49 (0, 0)) (by (with_reducible repeat (first | apply bkN | apply bkD | apply bkA)); exact BK288.out) hg (Kd.N_away HO_9.out (fun _ hk => hk.2))); have n4_ := Aside0.mk (hb); have n5_ := Aside0.mk (ho); clear HO_0; clear HO_13; clear HL287_0; clear BK288; clear HB; clear HO_9; have HO_0 := n0_; have HO_13 := n1_; have HL287_0 := n2_; have BK288 := n3_; have HB := n4_; have HO291 := n5_; clear n0_ n1_ n2_ n3_ n4_ n5_; clear ho hb hg hat))
         go_roundg k1
         case measure => have := HK1.out; omega
         case rel => exact ⟨(y289), (wrap64 (x15_1 + 1)), (by first | rfl | (simp; done) | (simp [*]; done)), H', ⟨by have := HK1.out; omega⟩, ⟨by (with_reducible repeat (first | apply Kd.V_alloc | apply Kd.V_drewN | apply Kd.V_drew)); exact Kd.V_mono HO_0.out (fun _ hk => ⟨hk.1.1, hk.2⟩)⟩, ⟨by (with_reducible repeat (first | apply Kd.N_alloc | apply Kd.N_drewN | apply Kd.N_drew)); exact Kd.N_mono HO291.out (fun _ hk => hk.1)⟩, ⟨by (with_reducible repeat (first | apply Kd.V_alloc | apply Kd.V_drewN | apply Kd.V_drew)); exact Kd.V_mono HO_13.out (fun _ hk => ⟨hk.1.1, hk.2⟩)⟩, ⟨by repeat (first | (with_reducible first | exact HB.out | apply bwA | apply bwN | apply bwD | refine below_set ?_ GE288.out) | exact HB.out)⟩⟩
        ·rw [if_neg c14] at H
         exact absurd H (by simp)
      ·replace c10 := Bool.eq_false_iff.mpr c10
       subst c10
       have H1 : ((tillerref13_Find.f k1 l0 l1).bind fun t292 => (if x15_1 = t292 then (tillerref13_Without.l0 k1 l0 l1 false a3 x9_1 l0 (l0.length : Int) (wrap64 (x15_1 + 1))) else (if x9_1.length < 4398046511104 then (tillerref13_Without.l0 k1 l0 l1 false a3 (x9_1 ++ [(⟨(rd_T49 l0 x15_1).f0, (rd_T49 l0 x15_1).f1⟩ : S49)]) l0 (l0.length : Int) (wrap64 (x15_1 + 1))) else (none)))) = some r := by rw [if_neg (show ¬ (false = true) by decide)] at H; exact H
       clear H
       have H := H1
       clear H1
       replace H := Option.bind_eq_some_iff.mp H
       obtain ⟨t292, A200, H⟩ := H
       replace H : (if x15_1 = t292 then (tillerref13_Without.l0 k1 l0 l1 false a3 x9_1 l0 (l0.length : Int) (wrap64 (x15_1 + 1))) else (if x9_1.length < 4398046511104 then (tillerref13_Without.l0 k1 l0 l1 false a3 (x9_1 ++ [(⟨(rd_T49 l0 x15_1).f0, (rd_T49 l0 x15_1).f1⟩ : S49)]) l0 (l0.length : Int) (wrap64 (x15_1 + 1))) else (none))) = some r := H
       have A20 := Aside0.mk A200
       clear A200
       by_cases c21 : x15_1 = t292
       ·rw [if_pos c21] at H
        have c21b0 : (x15_1 == t292) = true := beq_iff_eq.mpr c21
        have c21b1 : (x15_1 != t292) = false := bne_eq_false_iff_eq.mpr c21
        clear c21
        have H' := Aside0.mk H
        clear H
        have p287 : 0 ≤ (x15_1 : Int) := ofd_
        have q287 : x15_1 < (l0.length : Int) := ofd_
        obtain ⟨ad287, A287_0, c287_0, e287, hx287_0, hx287_1, hl287_0, hi287_0⟩ := at_T49 (Kd.V_reads' HO_13.out).2.2 x15_1 p287 q287
        cases e287
        obtain ⟨ce287, hce287, hMe287, hcc287⟩ := Kd.V_get HO_13.out z49 x15_1 p287 (by first | exact q287 | exact ofd_ | (have e_ := (Kd.V_reads' HO_13.out).1; omega))
        obtain ⟨ua287_0, uc287_0, rfl, ul287_0, ge287_0⟩ := k49_openF hMe287
        have hv287_0 := hcc287 0 _ rfl
        rw [Nat.add_zero] at hv287_0
        replace hv287_0 := Option.some.inj (hv287_0.symm.trans hx287_0)
        injection hv287_0 with hva_ hvn_ hvc_
        rw [hva_] at ge287_0
        rw [hvc_] at ul287_0
        have HL287_0 := Aside0.mk (show Kd.V (Kd.int .i64) 3 _ w.heap.size _ _ ((rd_T49 l0 x15_1).f0) from Kd.V_mk ul287_0 ge287_0)
        clear hva_ hvn_ hvc_ ge287_0 ul287_0
        clear hcc287 hce287
        have HR287_0 := Aside0.mk hi287_0
        have HC287_0 := Aside0.mk hl287_0
        clear hi287_0 hl287_0
        replace p287 := eq_true p287
        replace q287 := eq_true q287
        go_wp2_with (first | ((with_reducible refine gate_dst (N := 11) rfl ?_); refine box_event ?hg (N := 11) ?hd (cs := #[.slice none 0 0, .int .i64 0]) (t := 49) ?hr ?_; (case hd => rfl); (case hg => rfl); (case hr => first | (go_simp; done) | (go_simp; rfl)); intro gb288 hg w22 hbox hb; have n0_ := Aside0.mk (Kd.V_below (Kd.V_elderB (by (with_reducible repeat (first | apply Kd.V_alloc | apply Kd.V_drewN | apply Kd.V_drew)); exact HO_0.out) gb288 (Nat.le_of_eq hg.symm)) hb); have n1_ := Aside0.mk (Kd.N_below (Kd.N_elderB (by (with_reducible repeat (first | apply Kd.N_alloc | apply Kd.N_drewN | apply Kd.N_drew)); exact HO_9.out) gb288 (Nat.le_of_eq hg.symm)) hb); have n2_ := Aside0.mk (Kd.V_below (Kd.V_elderB (by (with_reducible repeat (first | apply Kd.V_alloc | apply Kd.V_drewN | apply Kd.V_drew)); exact HO_13.out) gb288 (Nat.le_of_eq hg.symm)) hb); have n3_ := Aside0.mk (Kd.V_below (Kd.V_elderB (by (with_reducible repeat (first | apply Kd.V_alloc | apply Kd.V_drewN | apply Kd.V_drew)); exact HL287_0.out) gb288 (Nat.le_of_eq hg.symm)) hb); have n4_ := Aside0.mk (Kd.C_below (by repeat (first | (with_reducible exact HR287_0.out) | (with_reducible refine Kd.C_alloc ?_ _) | (with_reducible refine Kd.C_drewN ?_ _) | (with_reducible refine Kd.C_drew ?_) | exact HR287_0.out)) hb); have n5_ := Aside0.mk (below_step (by repeat (first | (with_reducible first | exact HB.out | apply bwA | apply bwN | apply bwD) | exact HB.out)) hb); have n6_ := Aside0.mk (hbox); have n7_ := Aside0.mk ((by rw [hg]; exact (below_size (by repeat (first | (with_reducible first | exact HB.out | apply bwA | apply bwN | apply bwD) | exact HB.out))) : w.heap.size ≤ gb288)); have n8_ := Aside0.mk ((by rw [hg]; exact (below_size (by repeat (first | (with_reducible first | exact HB.out | apply bwA | apply bwN | apply bwD) | exact HB.out))) : w.heap.size ≤ gb288)); clear HO_0; clear HO_9; clear HO_13; clear HL287_0; clear HR287_0; clear HB; have HO_0 := n0_; have HO_9 := n1_; have HO_13 := n2_; have HL287_0 := n3_; have HR287_0 := n4_; have HB := n5_; have BK288 := n6_; have GW288 := n7_; have GE288 := n8_; clear n0_ n1_ n2_ n3_ n4_ n5_ n6_ n7_ n8_; clear hb hbox hg; have hcz23_0 : w22.cell? ⟨gb288, 0, none⟩ = some (.slice none 0 0) := (blk_cell BK288.out 0).trans rfl; have hcz23_1 : w22.cell? ⟨gb288, 1, none⟩ = some (.int .i64 0) := (blk_cell BK288.out 1).trans rfl; have hfz23_0 := blk_frozen BK288.out 0; have hfz23_1 := blk_frozen BK288.out 1) | (go_at_call 21; (with_reducible refine (tillerref13_Find.calls k1 _ _ l0 _ _ l1 t292 _ ?side1 ?side2 ?side3 ?side4 A20.out).mono ?_); (case side1 => refine (Kd.V_reads' (e := 49) (base := w.heap.size) (ok := fun k_ => (((P0_ k_ ∨ w.heap.size ≤ k_) ∧ some k_ ≠ (u9 : Value).ownBlock) ∧ k_ ≠ gb288)) (n := l0.length) (c := c0) ?_).2.2; exact (by (with_reducible repeat (first | apply Kd.V_alloc | apply Kd.V_drewN | apply Kd.V_drew)); exact (Kd.V_mono (Kd.V_far (p := ⟨gb288, 1, none⟩) (Kd.V_far (p := ⟨gb288, 0, none⟩) (Kd.V_mono HO_0.out (fun k_ hk => (⟨hk, hk.2⟩ : _ ∧ k_ ≠ gb288))) (fun _ hk => hk.2) (.slice A287_0 ((rd_T49 l0 x15_1).f0).length c287_0)) (fun _ hk => hk.2) (.int .i64 ((rd_T49 l0 x15_1).f1))) (fun _ h_ => h_.1)))); (case side2 => exact (Kd.V_reads' HO_0.out).2.1); (case side3 => exact Kd.C_below HR1.out (by repeat (first | (with_reducible first | exact HB.out | apply bwA | apply bwN | apply bwD | refine below_set ?_ GE288.out) | exact HB.out))); (case side4 => exact HC1.out); rintro e w24 ⟨rfl, hb⟩; have n0_ := Aside0.mk (Kd.V_below (by (with_reducible repeat (first | apply Kd.V_alloc | apply Kd.V_drewN | apply Kd.V_drew)); exact (Kd.V_mono (Kd.V_far (p := ⟨gb288, 1, none⟩) (Kd.V_far (p := ⟨gb288, 0, none⟩) (Kd.V_mono HO_0.out (fun k_ hk => (⟨hk, hk.2⟩ : _ ∧ k_ ≠ gb288))) (fun _ hk => hk.2) (.slice A287_0 ((rd_T49 l0 x15_1).f0).length c287_0)) (fun _ hk => hk.2) (.int .i64 ((rd_T49 l0 x15_1).f1))) (fun _ h_ => h_.1))) hb); have n1_ := Aside0.mk (Kd.N_below (by (with_reducible repeat (first | apply Kd.N_alloc | apply Kd.N_drewN | apply Kd.N_drew)); exact (Kd.N_mono (Kd.N_far (p := ⟨gb288, 1, none⟩) (Kd.N_far (p := ⟨gb288, 0, none⟩) (Kd.N_mono HO_9.out (fun k_ hk => (⟨hk, hk.2⟩ : _ ∧ k_ ≠ gb288))) (fun _ hk => hk.2) (.slice A287_0 ((rd_T49 l0 x15_1).f0).length c287_0)) (fun _ hk => hk.2) (.int .i64 ((rd_T49 l0 x15_1).f1))) (fun _ h_ => h_.1))) hb); have n2_ := Aside0.mk (Kd.V_below (by (with_reducible repeat (first | apply Kd.V_alloc | apply Kd.V_drewN | apply Kd.V_drew)); exact (Kd.V_mono (Kd.V_far (p := ⟨gb288, 1, none⟩) (Kd.V_far (p := ⟨gb288, 0, none⟩) (Kd.V_mono HO_13.out (fun k_ hk => (⟨hk, hk.2⟩ : _ ∧ k_ ≠ gb288))) (fun _ hk => hk.2) (.slice A287_0 ((rd_T49 l0 x15_1).f0).length c287_0)) (fun _ hk => hk.2) (.int .i64 ((rd_T49 l0 x15_1).f1))) (fun _ h_ => h_.1))) hb); have n3_ := Aside0.mk (Kd.V_below (by (with_reducible repeat (first | apply Kd.V_alloc | apply Kd.V_drewN | apply Kd.V_drew)); exact (Kd.V_mono (Kd.V_far (p := ⟨gb288, 1, none⟩) (Kd.V_far (p := ⟨gb288, 0, none⟩) (Kd.V_mono HL287_0.out (fun k_ hk => (⟨hk, hk.2⟩ : _ ∧ k_ ≠ gb288))) (fun _ hk => hk.2) (.slice A287_0 ((rd_T49 l0 x15_1).f0).length c287_0)) (fun _ hk => hk.2) (.int .i64 ((rd_T49 l0 x15_1).f1))) (fun _ h_ => h_.1))) hb); have n4_ := Aside0.mk (Kd.C_below ((Kd.V_reads' (by (with_reducible repeat (first | apply Kd.V_alloc | apply Kd.V_drewN | apply Kd.V_drew)); exact (Kd.V_mono (Kd.V_far (p := ⟨gb288, 1, none⟩) (Kd.V_far (p := ⟨gb288, 0, none⟩) (Kd.V_mono HL287_0.out (fun k_ hk => (⟨hk, hk.2⟩ : _ ∧ k_ ≠ gb288))) (fun _ hk => hk.2) (.slice A287_0 ((rd_T49 l0 x15_1).f0).length c287_0)) (fun _ hk => hk.2) (.int .i64 ((rd_T49 l0 x15_1).f1))) (fun _ h_ => h_.1)))).2.2) hb); have n5_ := Aside0.mk (blk_below (g := gb288) (o := .cells #[.slice A287_0 ((rd_T49 l0 x15_1).f0).length c287_0, .int .i64 ((rd_T49 l0 x15_1).f1)] 49 (0, 0)) (by (with_reducible repeat (first | apply bkN | apply bkD | apply bkA)); refine blk_put (cs := #[.slice A287_0 ((rd_T49 l0 x15_1).f0).length c287_0, .int .i64 0]) ?_ 1 _ rfl; (with_reducible repeat (first | apply bkN | apply bkD | apply bkA)); refine blk_put (cs := #[.slice none 0 0, .int .i64 0]) ?_ 0 _ rfl; (with_reducible repeat (first | apply bkN | apply bkD | apply bkA)); exact BK288.out) hb); have n6_ := Aside0.mk (below_step (by repeat (first | (with_reducible first | exact HB.out | apply bwA | apply bwN | apply bwD | refine below_set ?_ GE288.out) | exact HB.out)) hb); clear HO_0; clear HO_9; clear HO_13; clear HL287_0; clear HR287_0; clear BK288; clear HB; have HO_0 := n0_; have HO_9 := n1_; have HO_13 := n2_; have HL287_0 := n3_; have HR287_0 := n4_; have BK288 := n5_; have HB := n6_; clear n0_ n1_ n2_ n3_ n4_ n5_ n6_; (try clear hb); (try clear hb2); (try clear hk); (try clear hi)))
        go_roundg k1
        case measure => have := HK1.out; omega
        case rel => exact ⟨(x9_1), (wrap64 (x15_1 + 1)), (by first | rfl | (simp; done) | (simp [*]; done)), H', ⟨by have := HK1.out; omega⟩, ⟨by (with_reducible repeat (first | apply Kd.V_alloc | apply Kd.V_drewN | apply Kd.V_drew)); exact Kd.V_mono HO_0.out (fun _ hk => ⟨hk.1.1, hk.1.2⟩)⟩, ⟨by (with_reducible repeat (first | apply Kd.N_alloc | apply Kd.N_drewN | apply Kd.N_drew)); exact Kd.N_mono HO_9.out (fun _ hk => hk.1)⟩, ⟨by (with_reducible repeat (first | apply Kd.V_alloc | apply Kd.V_drewN | apply Kd.V_drew)); exact Kd.V_mono HO_13.out (fun _ hk => ⟨hk.1.1, hk.1.2⟩)⟩, ⟨by repeat (first | (with_reducible first | exact HB.out | apply bwA | apply bwN | apply bwD | refine below_set ?_ GE288.out) | exact HB.out)⟩⟩
       ·rw [if_neg c21] at H
        have c21b0 : (x15_1 == t292) = false := beq_eq_false_iff_ne.mpr c21
        have c21b1 : (x15_1 != t292) = true := bne_iff_ne.mpr c21
        by_cases c25 : x9_1.length < 4398046511104
        ·rw [if_pos c25] at H
         have LMc25 := Aside0.mk c25
         clear c25
         obtain ⟨y293, hy293⟩ : ∃ y_ : List (S49), y_ = (x9_1 ++ [(⟨(rd_T49 l0 x15_1).f0, (rd_T49 l0 x15_1).f1⟩ : S49)]) := ⟨_, rfl⟩
         replace H : (tillerref13_Without.l0 k1 l0 l1 false a3 y293 l0 (l0.length : Int) (wrap64 (x15_1 + 1))) = some r := by first | (rw [hy293]; with_reducible exact H) | (have H2_ := (Option.bind_some _ _).symm.trans H; rw [hy293]; with_reducible exact H2_) | (have H2_ := (Option.bind_some _ _).symm.trans H; with_reducible exact H2_) | with_reducible exact H | (rw [hy293]; exact H) | exact H
         have Ny293 := Aside0.mk hy293
         clear hy293
         have H' := Aside0.mk H
         clear H
         have p287 : 0 ≤ (x15_1 : Int) := ofd_
         have q287 : x15_1 < (l0.length : Int) := ofd_
         obtain ⟨ad287, A287_0, c287_0, e287, hx287_0, hx287_1, hl287_0, hi287_0⟩ := at_T49 (Kd.V_reads' HO_13.out).2.2 x15_1 p287 q287
         cases e287
         obtain ⟨ce287, hce287, hMe287, hcc287⟩ := Kd.V_get HO_13.out z49 x15_1 p287 (by first | exact q287 | exact ofd_ | (have e_ := (Kd.V_reads' HO_13.out).1; omega))
         obtain ⟨ua287_0, uc287_0, rfl, ul287_0, ge287_0⟩ := k49_openF hMe287
         have hv287_0 := hcc287 0 _ rfl
         rw [Nat.add_zero] at hv287_0
         replace hv287_0 := Option.some.inj (hv287_0.symm.trans hx287_0)
         injection hv287_0 with hva_ hvn_ hvc_
         rw [hva_] at ge287_0
         rw [hvc_] at ul287_0
         have HL287_0 := Aside0.mk (show Kd.V (Kd.int .i64) 3 _ w.heap.size _ _ ((rd_T49 l0 x15_1).f0) from Kd.V_mk ul287_0 ge287_0)
         clear hva_ hvn_ hvc_ ge287_0 ul287_0
         clear hcc287 hce287
         have HR287_0 := Aside0.mk hi287_0
         have HC287_0 := Aside0.mk hl287_0
         clear hi287_0 hl287_0
         replace p287 := eq_true p287
         replace q287 := eq_true q287
         go_wp2_with (first | ((with_reducible refine gate_dst (N := 11) rfl ?_); refine box_event ?hg (N := 11) ?hd (cs := #[.slice none 0 0, .int .i64 0]) (t := 49) ?hr ?_; (case hd => rfl); (case hg => rfl); (case hr => first | (go_simp; done) | (go_simp; rfl)); intro gb288 hg w26 hbox hb; have n0_ := Aside0.mk (Kd.V_below (Kd.V_elderB (by (with_reducible repeat (first | apply Kd.V_alloc | apply Kd.V_drewN | apply Kd.V_drew)); exact HO_0.out) gb288 (Nat.le_of_eq hg.symm)) hb); have n1_ := Aside0.mk (Kd.N_below (Kd.N_elderB (by (with_reducible repeat (first | apply Kd.N_alloc | apply Kd.N_drewN | apply Kd.N_drew)); exact HO_9.out) gb288 (Nat.le_of_eq hg.symm)) hb); have n2_ := Aside0.mk (Kd.V_below (Kd.V_elderB (by (with_reducible repeat (first | apply Kd.V_alloc | apply Kd.V_drewN | apply Kd.V_drew)); exact HO_13.out) gb288 (Nat.le_of_eq hg.symm)) hb); have n3_ := Aside0.mk (Kd.V_below (Kd.V_elderB (by (with_reducible repeat (first | apply Kd.V_alloc | apply Kd.V_drewN | apply Kd.V_drew)); exact HL287_0.out) gb288 (Nat.le_of_eq hg.symm)) hb); have n4_ := Aside0.mk (Kd.C_below (by repeat (first | (with_reducible exact HR287_0.out) | (with_reducible refine Kd.C_alloc ?_ _) | (with_reducible refine Kd.C_drewN ?_ _) | (with_reducible refine Kd.C_drew ?_) | exact HR287_0.out)) hb); have n5_ := Aside0.mk (below_step (by repeat (first | (with_reducible first | exact HB.out | apply bwA | apply bwN | apply bwD) | exact HB.out)) hb); have n6_ := Aside0.mk (hbox); have n7_ := Aside0.mk ((by rw [hg]; exact (below_size (by repeat (first | (with_reducible first | exact HB.out | apply bwA | apply bwN | apply bwD) | exact HB.out))) : w.heap.size ≤ gb288)); have n8_ := Aside0.mk ((by rw [hg]; exact (below_size (by repeat (first | (with_reducible first | exact HB.out | apply bwA | apply bwN | apply bwD) | exact HB.out))) : w.heap.size ≤ gb288)); clear HO_0; clear HO_9; clear HO_13; clear HL287_0; clear HR287_0; clear HB; have HO_0 := n0_; have HO_9 := n1_; have HO_13 := n2_; have HL287_0 := n3_; have HR287_0 := n4_; have HB := n5_; have BK288 := n6_; have GW288 := n7_; have GE288 := n8_; clear n0_ n1_ n2_ n3_ n4_ n5_ n6_ n7_ n8_; clear hb hbox hg; have hcz27_0 : w26.cell? ⟨gb288, 0, none⟩ = some (.slice none 0 0) := (blk_cell BK288.out 0).trans rfl; have hcz27_1 : w26.cell? ⟨gb288, 1, none⟩ = some (.int .i64 0) := (blk_cell BK288.out 1).trans rfl; have hfz27_0 := blk_frozen BK288.out 0; have hfz27_1 := blk_frozen BK288.out 1) | (go_at_call 21; (with_reducible refine (tillerref13_Find.calls k1 _ _ l0 _ _ l1 t292 _ ?side1 ?side2 ?side3 ?side4 A20.out).mono ?_); (case side1 => refine (Kd.V_reads' (e := 49) (base := w.heap.size) (ok := fun k_ => (((P0_ k_ ∨ w.heap.size ≤ k_) ∧ some k_ ≠ (u9 : Value).ownBlock) ∧ k_ ≠ gb288)) (n := l0.length) (c := c0) ?_).2.2; exact (by (with_reducible repeat (first | apply Kd.V_alloc | apply Kd.V_drewN | apply Kd.V_drew)); exact (Kd.V_mono (Kd.V_far (p := ⟨gb288, 1, none⟩) (Kd.V_far (p := ⟨gb288, 0, none⟩) (Kd.V_mono HO_0.out (fun k_ hk => (⟨hk, hk.2⟩ : _ ∧ k_ ≠ gb288))) (fun _ hk => hk.2) (.slice A287_0 ((rd_T49 l0 x15_1).f0).length c287_0)) (fun _ hk => hk.2) (.int .i64 ((rd_T49 l0 x15_1).f1))) (fun _ h_ => h_.1)))); (case side2 => exact (Kd.V_reads' HO_0.out).2.1); (case side3 => exact Kd.C_below HR1.out (by repeat (first | (with_reducible first | exact HB.out | apply bwA | apply bwN | apply bwD | refine below_set ?_ GE288.out) | exact HB.out))); (case side4 => exact HC1.out); rintro e w28 ⟨rfl, hb⟩; have n0_ := Aside0.mk (Kd.V_below (by (with_reducible repeat (first | apply Kd.V_alloc | apply Kd.V_drewN | apply Kd.V_drew)); exact (Kd.V_mono (Kd.V_far (p := ⟨gb288, 1, none⟩) (Kd.V_far (p := ⟨gb288, 0, none⟩) (Kd.V_mono HO_0.out (fun k_ hk => (⟨hk, hk.2⟩ : _ ∧ k_ ≠ gb288))) (fun _ hk => hk.2) (.slice A287_0 ((rd_T49 l0 x15_1).f0).length c287_0)) (fun _ hk => hk.2) (.int .i64 ((rd_T49 l0 x15_1).f1))) (fun _ h_ => h_.1))) hb); have n1_ := Aside0.mk (Kd.N_below (by (with_reducible repeat (first | apply Kd.N_alloc | apply Kd.N_drewN | apply Kd.N_drew)); exact (Kd.N_mono (Kd.N_far (p := ⟨gb288, 1, none⟩) (Kd.N_far (p := ⟨gb288, 0, none⟩) (Kd.N_mono HO_9.out (fun k_ hk => (⟨hk, hk.2⟩ : _ ∧ k_ ≠ gb288))) (fun _ hk => hk.2) (.slice A287_0 ((rd_T49 l0 x15_1).f0).length c287_0)) (fun _ hk => hk.2) (.int .i64 ((rd_T49 l0 x15_1).f1))) (fun _ h_ => h_.1))) hb); have n2_ := Aside0.mk (Kd.V_below (by (with_reducible repeat (first | apply Kd.V_alloc | apply Kd.V_drewN | apply Kd.V_drew)); exact (Kd.V_mono (Kd.V_far (p := ⟨gb288, 1, none⟩) (Kd.V_far (p := ⟨gb288, 0, none⟩) (Kd.V_mono HO_13.out (fun k_ hk => (⟨hk, hk.2⟩ : _ ∧ k_ ≠ gb288))) (fun _ hk => hk.2) (.slice A287_0 ((rd_T49 l0 x15_1).f0).length c287_0)) (fun _ hk => hk.2) (.int .i64 ((rd_T49 l0 x15_1).f1))) (fun _ h_ => h_.1))) hb); have n3_ := Aside0.mk (Kd.V_below (by (with_reducible repeat (first | apply Kd.V_alloc | apply Kd.V_drewN | apply Kd.V_drew)); exact (Kd.V_mono (Kd.V_far (p := ⟨gb288, 1, none⟩) (Kd.V_far (p := ⟨gb288, 0, none⟩) (Kd.V_mono HL287_0.out (fun k_ hk => (⟨hk, hk.2⟩ : _ ∧ k_ ≠ gb288))) (fun _ hk => hk.2) (.slice A287_0 ((rd_T49 l0 x15_1).f0).length c287_0)) (fun _ hk => hk.2) (.int .i64 ((rd_T49 l0 x15_1).f1))) (fun _ h_ => h_.1))) hb); have n4_ := Aside0.mk (Kd.C_below ((Kd.V_reads' (by (with_reducible repeat (first | apply Kd.V_alloc | apply Kd.V_drewN | apply Kd.V_drew)); exact (Kd.V_mono (Kd.V_far (p := ⟨gb288, 1, none⟩) (Kd.V_far (p := ⟨gb288, 0, none⟩) (Kd.V_mono HL287_0.out (fun k_ hk => (⟨hk, hk.2⟩ : _ ∧ k_ ≠ gb288))) (fun _ hk => hk.2) (.slice A287_0 ((rd_T49 l0 x15_1).f0).length c287_0)) (fun _ hk => hk.2) (.int .i64 ((rd_T49 l0 x15_1).f1))) (fun _ h_ => h_.1)))).2.2) hb); have n5_ := Aside0.mk (blk_below (g := gb288) (o := .cells #[.slice A287_0 ((rd_T49 l0 x15_1).f0).length c287_0, .int .i64 ((rd_T49 l0 x15_1).f1)] 49 (0, 0)) (by (with_reducible repeat (first | apply bkN | apply bkD | apply bkA)); refine blk_put (cs := #[.slice A287_0 ((rd_T49 l0 x15_1).f0).length c287_0, .int .i64 0]) ?_ 1 _ rfl; (with_reducible repeat (first | apply bkN | apply bkD | apply bkA)); refine blk_put (cs := #[.slice none 0 0, .int .i64 0]) ?_ 0 _ rfl; (with_reducible repeat (first | apply bkN | apply bkD | apply bkA)); exact BK288.out) hb); have n6_ := Aside0.mk (below_step (by repeat (first | (with_reducible first | exact HB.out | apply bwA | apply bwN | apply bwD | refine below_set ?_ GE288.out) | exact HB.out)) hb); clear HO_0; clear HO_9; clear HO_13; clear HL287_0; clear HR287_0; clear BK288; clear HB; have HO_0 := n0_; have HO_9 := n1_; have HO_13 := n2_; have HL287_0 := n3_; have HR287_0 := n4_; have BK288 := n5_; have HB := n6_; clear n0_ n1_ n2_ n3_ n4_ n5_ n6_; (try clear hb); (try clear hb2); (try clear hk); (try clear hi); have hcz29_0 : w28.cell? ⟨gb288, 0, none⟩ = some (.slice A287_0 ((rd_T49 l0 x15_1).f0).length c287_0) := (blk_cell BK288.out 0).trans rfl; have hcz29_1 : w28.cell? ⟨gb288, 1, none⟩ = some (.int .i64 ((rd_T49 l0 x15_1).f1)) := (blk_cell BK288.out 1).trans rfl; have hfz29_0 := blk_frozen BK288.out 0; have hfz29_1 := blk_frozen BK288.out 1) | ((with_reducible refine gate_builtin (b := .append) (xs := #[.tmp 38, .tmp 40]) rfl ?_); at_builtin; refine Kd.N_append k49 (w0 := w) w.heap.size rfl (.tmp 38) (.tmp 40) 46 49 (.agg #[(.slice none 0 0), (.int .i64 0)]) 32 rfl Try.underlying46 info49 rfl (by decide) (by omega) u9 x9_1 (⟨(rd_T49 l0 x15_1).f0, (rd_T49 l0 x15_1).f1⟩ : S49) [.slice A287_0 ((rd_T49 l0 x15_1).f0).length c287_0, .int .i64 ((rd_T49 l0 x15_1).f1)] (fun k_ => (P0_ k_ ∨ w.heap.size ≤ k_) ∧ k_ ≠ gb288) (fun k_ => ((fun k_ => (P0_ k_ ∨ w.heap.size ≤ k_) ∧ k_ ≠ gb288)) k_ ∧ some k_ ≠ (u9 : Value).ownBlock) rfl rfl ?aP (fun _ hk => hk) ?aF ?aO ?aB ?aS ?aL ?_; (case aP => exact (k49_mkF _ _ (⟨(rd_T49 l0 x15_1).f0, (rd_T49 l0 x15_1).f1⟩ : S49) (Kd.V_reads' (Kd.V_mono (ok' := (fun k_ => ((fun k_ => (P0_ k_ ∨ w.heap.size ≤ k_) ∧ k_ ≠ gb288)) k_ ∧ some k_ ≠ (u9 : Value).ownBlock)) (HL287_0.out) (fun k_ hk => ⟨⟨hk.1.1, hk.2⟩, hk.1.2⟩))).2.1 (Kd.V_F (Kd.V_mono (ok' := (fun k_ => ((fun k_ => (P0_ k_ ∨ w.heap.size ≤ k_) ∧ k_ ≠ gb288)) k_ ∧ some k_ ≠ (u9 : Value).ownBlock)) (HL287_0.out) (fun k_ hk => ⟨⟨hk.1.1, hk.2⟩, hk.1.2⟩))))); (case aB => exact (by repeat (first | (with_reducible first | exact HB.out | apply bwA | apply bwN | apply bwD | refine below_set ?_ GE288.out) | exact HB.out))); (case aF => exact (fun k_ hk => ⟨(.inr (Nat.le_trans (below_size (by repeat (first | (with_reducible first | exact HB.out | apply bwA | apply bwN | apply bwD | refine below_set ?_ GE288.out) | exact HB.out))) hk)), Kd.freshB (g := gb288) (o := .cells #[.slice A287_0 ((rd_T49 l0 x15_1).f0).length c287_0, .int .i64 ((rd_T49 l0 x15_1).f1)] 49 (0, 0)) (by (with_reducible repeat (first | apply bkN | apply bkD | apply bkA)); exact BK288.out) k_ hk⟩)); (case aO => exact (by (with_reducible repeat (first | apply Kd.N_alloc | apply Kd.N_drewN | apply Kd.N_drew)); exact HO_9.out)); (case aS => exact (below_size (by repeat (first | (with_reducible first | exact HB.out | apply bwA | apply bwN | apply bwD | refine below_set ?_ GE288.out) | exact HB.out)))); (case aL => have := LMc25.out; omega); intro v294 w30 ho hb hg hat; rw [← Ny293.out] at ho; have n0_ := Aside0.mk (Kd.V_afterv (ok := (fun k_ => (P0_ k_ ∨ w.heap.size ≤ k_) ∧ k_ ≠ gb288)) (by (with_reducible repeat (first | apply Kd.V_alloc | apply Kd.V_drewN | apply Kd.V_drew)); exact Kd.V_mono HO_0.out (fun _ hk => ⟨⟨hk.1.1, hk.2⟩, hk.1.2⟩)) hg hat); have n1_ := Aside0.mk (Kd.V_afterv (ok := (fun k_ => (P0_ k_ ∨ w.heap.size ≤ k_) ∧ k_ ≠ gb288)) (by (with_reducible repeat (first | apply Kd.V_alloc | apply Kd.V_drewN | apply Kd.V_drew)); exact Kd.V_mono HO_13.out (fun _ hk => ⟨⟨hk.1.1, hk.2⟩, hk.1.2⟩)) hg hat); have n2_ := Aside0.mk (Kd.V_afterv (ok := (fun k_ => (P0_ k_ ∨ w.heap.size ≤ k_) ∧ k_ ≠ gb288)) (by (with_reducible repeat (first | apply Kd.V_alloc | apply Kd.V_drewN | apply Kd.V_drew)); exact Kd.V_mono HL287_0.out (fun _ hk => ⟨⟨hk.1.1, hk.2⟩, hk.1.2⟩)) hg hat); have n3_ := Aside0.mk (blk_grown (g := gb288) (o := .cells #[.slice A287_0 ((rd_T49 l0 x15_1).f0).length c287_0, .int .i64 ((rd_T49 l0 x15_1).f1)] 49 (0, 0)) (by (with_reducible repeat (first | apply bkN | apply bkD | apply bkA)); exact BK288.out) hg (Kd.N_away HO_9.out (fun _ hk => hk.2))); have n4_ := Aside0.mk (hb); have n5_ := Aside0.mk (ho); clear HO_0; clear HO_13; clear HL287_0; clear BK288; clear HB; clear HO_9; have HO_0 := n0_; have HO_13 := n1_; have HL287_0 := n2_; have BK288 := n3_; have HB := n4_; have HO295 := n5_; clear n0_ n1_ n2_ n3_ n4_ n5_; clear ho hb hg hat))
         go_roundg k1
         case measure => have := HK1.out; omega
         case rel => exact ⟨(y293), (wrap64 (x15_1 + 1)), (by first | rfl | (simp; done) | (simp [*]; done)), H', ⟨by have := HK1.out; omega⟩, ⟨by (with_reducible repeat (first | apply Kd.V_alloc | apply Kd.V_drewN | apply Kd.V_drew)); exact Kd.V_mono HO_0.out (fun _ hk => ⟨hk.1.1, hk.2⟩)⟩, ⟨by (with_reducible repeat (first | apply Kd.N_alloc | apply Kd.N_drewN | apply Kd.N_drew)); exact Kd.N_mono HO295.out (fun _ hk => hk.1)⟩, ⟨by (with_reducible repeat (first | apply Kd.V_alloc | apply Kd.V_drewN | apply Kd.V_drew)); exact Kd.V_mono HO_13.out (fun _ hk => ⟨hk.1.1, hk.2⟩)⟩, ⟨by repeat (first | (with_reducible first | exact HB.out | apply bwA | apply bwN | apply bwD | refine below_set ?_ GE288.out) | exact HB.out)⟩⟩
        ·rw [if_neg c25] at H
         exact absurd H (by simp)
     ·rw [if_neg c9] at H
      exact absurd H (by simp)
    ·rw [if_neg c8] at H
     exact absurd H (by simp)
   ·rw [if_neg c7] at H
    have c7b0 : decide (x15_1 < (l0.length : Int)) = false := decide_eq_false c7
    clear c7
    obtain rfl := Option.some.inj H
    go_wp2
    go_ret
    exact ⟨_, by first | rfl | (simp [errW_none, errW_some] <;> rfl) | (simp [*, errW_none, errW_some] <;> rfl), by (with_reducible repeat (first | apply Kd.N_alloc | apply Kd.N_drewN | apply Kd.N_drew)); exact HO_9.out, by repeat (first | (with_reducible first | exact HB.out | apply bwA | apply bwN | apply bwD) | exact HB.out)⟩

-- NOT PRINTED: function 23 (trie_Trie_DropValue)

end Go.Proofs.Ytfnogcppbhggpaa.GQ
