-- written by this session's program gprint.py
import Derived.Test.YtfnogcppbhggpaaGQx0
import Derived.Test.YtfnogcppbhggpaaWLast
import Derived.Test.YtfnogcppbhggpaaWMore
import Derived.Test.YtfnogcppbhggpaaWN
import Derived.Test.YtfnogcppbhggpaaWNEv
import Derived.Test.YtfnogcppbhggpaaWWords
namespace Go.Proofs.Ytfnogcppbhggpaa.GQ
open Go.RowKit Go.Proofs.YtfnogcppbhggpaaW.PrintWords Go.Proofs.YtfnogcppbhggpaaW.PrintLast Go.Proofs.YtfnogcppbhggpaaW.PrintMore
attribute [local go_sem] max2_int min2_int max_two min_two max_three min_three max_four min_four   -- for this text's walks alone
set_option linter.unusedVariables false
set_option linter.unusedSimpArgs false

/-! ### tillerlaw13_told: function 17 -/
def tillerlaw13_told.l0 : Nat → List (S49) → List (S44) → Int → Int → Option ((List (S49)))
 | 0, _, _, _, _ => none
 | k + 1, x3, x7, x8, x9 => if x9 < x8 then (if 0 ≤ x9 then (if x9 < (x7.length : Int) then (if x3.length < 4398046511104 then (tillerlaw13_told.l0 k (x3 ++ [(⟨(rd_T44 x7 x9).f0, (rd_T44 x7 x9).f1⟩ : S49)]) x7 x8 (wrap64 (x9 + 1))) else (none)) else (none)) else (none)) else (some x3)
def tillerlaw13_told.f (k : Nat) (l0 : List (S44)) : Option ((List (S49))) := tillerlaw13_told.l0 k (([] : List (S49))) l0 (l0.length : Int) 0
theorem tillerlaw13_told.mono_l : ∀ k, (∀ y0 y1 y2 y3, LeO (tillerlaw13_told.l0 k y0 y1 y2 y3) (tillerlaw13_told.l0 (k + 1) y0 y1 y2 y3))
 | 0 => fun _ _ _ _ r h => by simp [tillerlaw13_told.l0] at h
 | k + 1 => by
  have ih0 := tillerlaw13_told.mono_l k
  ·intro y0 y1 y2 y3
   unfold tillerlaw13_told.l0
   repeat' first
   | (with_reducible exact ih0 _ _ _ _)
   | (with_reducible exact LeO.refl _)
   | (with_reducible exact LeO.none _)
   | (with_reducible refine LeO.ite ?_ ?_)
   | (with_reducible refine LeO.bind ?_ (fun _ => ?_))
   | exact ih0 _ _ _ _
   | exact LeO.none _
   | refine LeO.ite ?_ ?_
   | refine LeO.bind ?_ (fun _ => ?_)
theorem tillerlaw13_told.mono : ∀ a0 k, LeO (tillerlaw13_told.f k a0) (tillerlaw13_told.f (k + 1) a0) := by
 intro a0 k
 have ih0 := tillerlaw13_told.mono_l k
 unfold tillerlaw13_told.f
 repeat' first
   | (with_reducible exact ih0 _ _ _ _)
   | (with_reducible exact LeO.refl _)
   | (with_reducible exact LeO.none _)
   | (with_reducible refine LeO.ite ?_ ?_)
   | (with_reducible refine LeO.bind ?_ (fun _ => ?_))
   | exact ih0 _ _ _ _
   | exact LeO.none _
   | refine LeO.ite ?_ ?_
   | refine LeO.bind ?_ (fun _ => ?_)
set_option maxHeartbeats 8000000 in
set_option maxRecDepth 100000 in
theorem tillerlaw13_told.calls (k : Nat) (P0_ : Nat → Prop) (A0 : Option Addr) (c0 : Nat) (l0 : List (S44)) (r : List (S49)) (w : World) (hs0 : Kd.V k44 44 w w.heap.size (fun k_ => P0_ k_) (.slice A0 l0.length c0) l0) (h : tillerlaw13_told.f k l0 = some r) :
  Calls Try.prog 17 #[.slice A0 l0.length c0] w fun e w' => ∃ v0_ : Value, e = .returned (v0_) ∧ Kd.N k49 49 w' w.heap.size (fun k_ => (P0_ k_ ∨ w.heap.size ≤ k_)) v0_ r ∧ Below w.heap.size w w' := by
 have hu44 := Try.underlying44
 have HO0 := Aside0.mk (show Kd.V k44 44 w w.heap.size (fun k_ => (P0_ k_ ∨ w.heap.size ≤ k_)) (.slice A0 l0.length c0) l0 from Kd.V_mono hs0 (fun k_ hk => .inl hk))
 have HB := Aside0.mk (Below.refl w.heap.size w)
 have H : (tillerlaw13_told.l0 k (([] : List (S49))) l0 (l0.length : Int) 0) = some r := h
 clear h
 obtain ⟨y249, hy249⟩ : ∃ y_ : List (S49), y_ = (([] : List (S49))) := ⟨_, rfl⟩
 replace H : (tillerlaw13_told.l0 k y249 l0 (l0.length : Int) 0) = some r := by first | (rw [hy249]; with_reducible exact H) | (have H2_ := (Option.bind_some _ _).symm.trans H; rw [hy249]; with_reducible exact H2_) | (have H2_ := (Option.bind_some _ _).symm.trans H; with_reducible exact H2_) | with_reducible exact H | (rw [hy249]; exact H) | exact H
 have Ny249 := Aside0.mk hy249
 clear hy249
 have H' := Aside0.mk H
 clear H
 go_enter Try.func17, Try.ntmps17
 go_wp2_with (first | ((with_reducible refine gate_dst (N := 6) rfl ?_); refine Kd.N_lit k49 _ 49 ?hg (N' := 6) ?hd (xs := ([] : List (S49))) (inner := []) (ok := (fun k_ => (P0_ k_ ∨ w.heap.size ≤ k_))) (okp := (fun k_ => (P0_ k_ ∨ w.heap.size ≤ k_))) ?hr ?hp (fun _ hk => hk) ((show ∀ k_, w.heap.size ≤ k_ → (fun k_ => (P0_ k_ ∨ w.heap.size ≤ k_)) k_ from fun k_ hk => (.inr (Nat.le_trans (below_size (by repeat (first | (with_reducible first | exact HB.out | apply bwA | apply bwN | apply bwD) | exact HB.out))) hk))) _ (Nat.le_refl _)) (Below.refl _ _) (Nat.le_refl _) (by simp) ?_; (case hd => rfl); (case hg => rfl); (case hr => first | (go_simp; done) | (go_simp; rfl)); (case hp => exact (Reps.none _ _)); intro v250 w2 ho3 hb hg_ hnew_; clear hg_ hnew_; (first | rw [← Ny249.out] at ho3 | (simp only [Int.reduceToNat] at ho3; rw [← Ny249.out] at ho3)); have n0_ := Aside0.mk (Kd.V_elder' (by (with_reducible repeat (first | apply Kd.V_alloc | apply Kd.V_drewN | apply Kd.V_drew)); exact HO0.out) (Kd.N_base ho3) hb); have n1_ := Aside0.mk (Kd.N_lower ho3 (below_size (by repeat (first | (with_reducible first | exact HB.out | apply bwA | apply bwN | apply bwD) | exact HB.out)))); have n2_ := Aside0.mk (below_step (by repeat (first | (with_reducible first | exact HB.out | apply bwA | apply bwN | apply bwD) | exact HB.out)) hb); clear HO0; clear HB; have HO0 := n0_; have HO251 := n1_; have HB := n2_; clear n0_ n1_ n2_; clear hb ho3))
 go_loopg [3, 9] k (fun kq v3 v9 w' => ∃ (x3_1 : List (S49)) (x9_1 : Int), v9 = .int .i64 x9_1 ∧ Aside0 (tillerlaw13_told.l0 kq x3_1 l0 (l0.length : Int) x9_1 = some r) ∧ Aside0 (kq ≤ k) ∧ Aside0 (Kd.N k49 49 w' w.heap.size (fun k_ => (P0_ k_ ∨ w.heap.size ≤ k_)) v3 x3_1) ∧ Aside0 (Kd.V k44 44 w' w.heap.size (fun k_ => (P0_ k_ ∨ w.heap.size ≤ k_) ∧ some k_ ≠ (v3 : Value).ownBlock) (.slice A0 l0.length c0) l0) ∧ Aside0 (Below w.heap.size w w'))
 case atStart => exact ⟨(y249), (0), (by first | rfl | (simp; done) | (simp [*]; done)), H', ⟨Nat.le_refl _⟩, ⟨by (with_reducible repeat (first | apply Kd.N_alloc | apply Kd.N_drewN | apply Kd.N_drew)); exact HO251.out⟩, ⟨by (with_reducible repeat (first | apply Kd.V_alloc | apply Kd.V_drewN | apply Kd.V_drew)); exact HO0.out⟩, ⟨by repeat (first | (with_reducible first | exact HB.out | apply bwA | apply bwN | apply bwD) | exact HB.out)⟩⟩
 case round =>
  clear H'
  try clear c1
  try clear p2
  obtain ⟨x3_1, x9_1, rfl, HA, HK1, HO_3, HO_7, HB⟩ := hrel
  cases gk with
  | zero => exact absurd HA.out (by simp [tillerlaw13_told.l0])
  | succ k1 =>
   have H := HA.out
   clear HA
   simp only [tillerlaw13_told.l0] at H
   by_cases c4 : x9_1 < (l0.length : Int)
   ·rw [if_pos c4] at H
    have c4b0 : decide (x9_1 < (l0.length : Int)) = true := decide_eq_true c4
    clear c4
    by_cases c5 : 0 ≤ x9_1
    ·rw [if_pos c5] at H
     have c5b0 : decide (0 ≤ x9_1) = true := decide_eq_true c5
     clear c5
     by_cases c6 : x9_1 < (l0.length : Int)
     ·rw [if_pos c6] at H
      have c6b0 : decide (x9_1 < (l0.length : Int)) = true := decide_eq_true c6
      clear c6
      by_cases c7 : x3_1.length < 4398046511104
      ·rw [if_pos c7] at H
       have LMc7 := Aside0.mk c7
       clear c7
       obtain ⟨y254, hy254⟩ : ∃ y_ : List (S49), y_ = (x3_1 ++ [(⟨(rd_T44 l0 x9_1).f0, (rd_T44 l0 x9_1).f1⟩ : S49)]) := ⟨_, rfl⟩
       replace H : (tillerlaw13_told.l0 k1 y254 l0 (l0.length : Int) (wrap64 (x9_1 + 1))) = some r := by first | (rw [hy254]; with_reducible exact H) | (have H2_ := (Option.bind_some _ _).symm.trans H; rw [hy254]; with_reducible exact H2_) | (have H2_ := (Option.bind_some _ _).symm.trans H; with_reducible exact H2_) | with_reducible exact H | (rw [hy254]; exact H) | exact H
       have Ny254 := Aside0.mk hy254
       clear hy254
       have H' := Aside0.mk H
       clear H
       have p252 : 0 ≤ (x9_1 : Int) := ofd_
       have q252 : x9_1 < (l0.length : Int) := ofd_
       obtain ⟨ad252, A252_0, c252_0, e252, hx252_0, hx252_1, hl252_0, hi252_0⟩ := at_T44 (Kd.V_reads' HO_7.out).2.2 x9_1 p252 q252
       cases e252
       obtain ⟨ce252, hce252, hMe252, hcc252⟩ := Kd.V_get HO_7.out z44 x9_1 p252 (by first | exact q252 | exact ofd_ | (have e_ := (Kd.V_reads' HO_7.out).1; omega))
       obtain ⟨ua252_0, uc252_0, rfl, ul252_0, ge252_0⟩ := k44_openF hMe252
       have hv252_0 := hcc252 0 _ rfl
       rw [Nat.add_zero] at hv252_0
       replace hv252_0 := Option.some.inj (hv252_0.symm.trans hx252_0)
       injection hv252_0 with hva_ hvn_ hvc_
       rw [hva_] at ge252_0
       rw [hvc_] at ul252_0
       have HL252_0 := Aside0.mk (show Kd.V (Kd.int .i64) 3 _ w.heap.size _ _ ((rd_T44 l0 x9_1).f0) from Kd.V_mk ul252_0 ge252_0)
       clear hva_ hvn_ hvc_ ge252_0 ul252_0
       clear hcc252 hce252
       have HR252_0 := Aside0.mk hi252_0
       have HC252_0 := Aside0.mk hl252_0
       clear hi252_0 hl252_0
       replace p252 := eq_true p252
       replace q252 := eq_true q252
       go_wp2_with (first | ((with_reducible refine gate_dst (N := 5) rfl ?_); refine box_event ?hg (N := 5) ?hd (cs := #[.slice none 0 0, .int .i64 0]) (t := 44) ?hr ?_; (case hd => rfl); (case hg => rfl); (case hr => first | (go_simp; done) | (go_simp; rfl)); intro gb253 hg w8 hbox hb; have n0_ := Aside0.mk (Kd.N_below (Kd.N_elderB (by (with_reducible repeat (first | apply Kd.N_alloc | apply Kd.N_drewN | apply Kd.N_drew)); exact HO_3.out) gb253 (Nat.le_of_eq hg.symm)) hb); have n1_ := Aside0.mk (Kd.V_below (Kd.V_elderB (by (with_reducible repeat (first | apply Kd.V_alloc | apply Kd.V_drewN | apply Kd.V_drew)); exact HO_7.out) gb253 (Nat.le_of_eq hg.symm)) hb); have n2_ := Aside0.mk (Kd.V_below (Kd.V_elderB (by (with_reducible repeat (first | apply Kd.V_alloc | apply Kd.V_drewN | apply Kd.V_drew)); exact HL252_0.out) gb253 (Nat.le_of_eq hg.symm)) hb); have n3_ := Aside0.mk (Kd.C_below (by repeat (first | (with_reducible exact HR252_0.out) | (with_reducible refine Kd.C_alloc ?_ _) | (with_reducible refine Kd.C_drewN ?_ _) | (with_reducible refine Kd.C_drew ?_) | exact HR252_0.out)) hb); have n4_ := Aside0.mk (below_step (by repeat (first | (with_reducible first | exact HB.out | apply bwA | apply bwN | apply bwD) | exact HB.out)) hb); have n5_ := Aside0.mk (hbox); have n6_ := Aside0.mk ((by rw [hg]; exact (below_size (by repeat (first | (with_reducible first | exact HB.out | apply bwA | apply bwN | apply bwD) | exact HB.out))) : w.heap.size ≤ gb253)); have n7_ := Aside0.mk ((by rw [hg]; exact (below_size (by repeat (first | (with_reducible first | exact HB.out | apply bwA | apply bwN | apply bwD) | exact HB.out))) : w.heap.size ≤ gb253)); clear HO_3; clear HO_7; clear HL252_0; clear HR252_0; clear HB; have HO_3 := n0_; have HO_7 := n1_; have HL252_0 := n2_; have HR252_0 := n3_; have HB := n4_; have BK253 := n5_; have GW253 := n6_; have GE253 := n7_; clear n0_ n1_ n2_ n3_ n4_ n5_ n6_ n7_; clear hb hbox hg; have hcz9_0 : w8.cell? ⟨gb253, 0, none⟩ = some (.slice none 0 0) := (blk_cell BK253.out 0).trans rfl; have hcz9_1 : w8.cell? ⟨gb253, 1, none⟩ = some (.int .i64 0) := (blk_cell BK253.out 1).trans rfl; have hfz9_0 := blk_frozen BK253.out 0; have hfz9_1 := blk_frozen BK253.out 1) | ((with_reducible refine gate_store (t := 44) (p := 5) rfl ?_); refine store_event (t := 44) (p := 5) (v := ?vo_w10) (w1 := ((w8.setCell ⟨gb253, 0, none⟩ (.slice A252_0 ((rd_T44 l0 x9_1).f0).length c252_0)).setCell ⟨gb253, 1, none⟩ (.int .i64 ((rd_T44 l0 x9_1).f1)))) ?hg ?ho ?hn ?hr ?_; (case ho => rfl); (case hg => rfl); (case hn => rfl); (case hr => first | (go_simp; done) | (go_simp; rfl)); intro w10 hw; have n0_ : Aside0 (Kd.N k49 49 w10 w.heap.size (fun k_ => (P0_ k_ ∨ w.heap.size ≤ k_) ∧ k_ ≠ gb253) u3 x3_1) := ⟨(by rw [hw]; exact (by (with_reducible repeat (first | apply Kd.N_alloc | apply Kd.N_drewN | apply Kd.N_drew)); exact Kd.N_mono (Kd.N_far (p := ⟨gb253, 1, none⟩) (Kd.N_far (p := ⟨gb253, 0, none⟩) (Kd.N_mono HO_3.out (fun k_ hk => (⟨hk, hk.2⟩ : _ ∧ k_ ≠ gb253))) (fun _ hk => hk.2) (.slice A252_0 ((rd_T44 l0 x9_1).f0).length c252_0)) (fun _ hk => hk.2) (.int .i64 ((rd_T44 l0 x9_1).f1))) (fun _ hk => ⟨hk.1.1, hk.1.2⟩)))⟩; have n1_ : Aside0 (Kd.V k44 44 w10 w.heap.size (fun k_ => (P0_ k_ ∨ w.heap.size ≤ k_) ∧ some k_ ≠ (u3 : Value).ownBlock ∧ k_ ≠ gb253) (.slice (some ad252) l0.length c0) l0) := ⟨(by rw [hw]; exact (by (with_reducible repeat (first | apply Kd.V_alloc | apply Kd.V_drewN | apply Kd.V_drew)); exact Kd.V_mono (Kd.V_far (p := ⟨gb253, 1, none⟩) (Kd.V_far (p := ⟨gb253, 0, none⟩) (Kd.V_mono HO_7.out (fun k_ hk => (⟨hk, hk.2⟩ : _ ∧ k_ ≠ gb253))) (fun _ hk => hk.2) (.slice A252_0 ((rd_T44 l0 x9_1).f0).length c252_0)) (fun _ hk => hk.2) (.int .i64 ((rd_T44 l0 x9_1).f1))) (fun _ hk => ⟨hk.1.1.1, ⟨hk.1.1.2, hk.1.2⟩⟩)))⟩; have n2_ : Aside0 (Kd.V (Kd.int .i64) 3 w10 w.heap.size (fun k_ => (P0_ k_ ∨ w.heap.size ≤ k_) ∧ some k_ ≠ (u3 : Value).ownBlock ∧ k_ ≠ gb253) (.slice A252_0 ((rd_T44 l0 x9_1).f0).length c252_0) ((rd_T44 l0 x9_1).f0)) := ⟨(by rw [hw]; exact (by (with_reducible repeat (first | apply Kd.V_alloc | apply Kd.V_drewN | apply Kd.V_drew)); exact Kd.V_mono (Kd.V_far (p := ⟨gb253, 1, none⟩) (Kd.V_far (p := ⟨gb253, 0, none⟩) (Kd.V_mono HL252_0.out (fun k_ hk => (⟨hk, hk.2⟩ : _ ∧ k_ ≠ gb253))) (fun _ hk => hk.2) (.slice A252_0 ((rd_T44 l0 x9_1).f0).length c252_0)) (fun _ hk => hk.2) (.int .i64 ((rd_T44 l0 x9_1).f1))) (fun _ hk => ⟨hk.1.1.1, ⟨hk.1.1.2, hk.1.2⟩⟩)))⟩; have n3_ : Aside0 (w10.heap[gb253]? = some (.cells #[.slice A252_0 ((rd_T44 l0 x9_1).f0).length c252_0, .int .i64 ((rd_T44 l0 x9_1).f1)] 44 (0, 0))) := ⟨(by rw [hw]; exact (by (with_reducible repeat (first | apply bkN | apply bkD | apply bkA)); refine blk_put (cs := #[.slice A252_0 ((rd_T44 l0 x9_1).f0).length c252_0, .int .i64 0]) ?_ 1 _ rfl; (with_reducible repeat (first | apply bkN | apply bkD | apply bkA)); refine blk_put (cs := #[.slice none 0 0, .int .i64 0]) ?_ 0 _ rfl; (with_reducible repeat (first | apply bkN | apply bkD | apply bkA)); exact BK253.out))⟩; have n4_ : Aside0 (Below w.heap.size w w10) := ⟨(by rw [hw]; exact (by repeat (first | (with_reducible first | exact HB.out | apply bwA | apply bwN | apply bwD | refine below_set ?_ GE253.out) | exact HB.out)))⟩; clear hw; clear HO_3; clear HO_7; clear HL252_0; clear BK253; clear HB; have HO_3 := n0_; have HO_7 := n1_; have HL252_0 := n2_; have BK253 := n3_; have HB := n4_; clear n0_ n1_ n2_ n3_ n4_; have hcz11_0 : w10.cell? ⟨gb253, 0, none⟩ = some (.slice A252_0 ((rd_T44 l0 x9_1).f0).length c252_0) := (blk_cell BK253.out 0).trans rfl; have hcz11_1 : w10.cell? ⟨gb253, 1, none⟩ = some (.int .i64 ((rd_T44 l0 x9_1).f1)) := (blk_cell BK253.out 1).trans rfl; have hfz11_0 := blk_frozen BK253.out 0; have hfz11_1 := blk_frozen BK253.out 1) | ((with_reducible refine gate_builtin (b := .append) (xs := #[.tmp 13, .tmp 15]) rfl ?_); at_builtin; refine Kd.N_append k49 (w0 := w) w.heap.size rfl (.tmp 13) (.tmp 15) 46 49 (.agg #[(.slice none 0 0), (.int .i64 0)]) 32 rfl Try.underlying46 info49 rfl (by decide) (by omega) u3 x3_1 (⟨(rd_T44 l0 x9_1).f0, (rd_T44 l0 x9_1).f1⟩ : S49) [.slice A252_0 ((rd_T44 l0 x9_1).f0).length c252_0, .int .i64 ((rd_T44 l0 x9_1).f1)] (fun k_ => (P0_ k_ ∨ w.heap.size ≤ k_) ∧ k_ ≠ gb253) (fun k_ => ((fun k_ => (P0_ k_ ∨ w.heap.size ≤ k_) ∧ k_ ≠ gb253)) k_ ∧ some k_ ≠ (u3 : Value).ownBlock) rfl rfl ?aP (fun _ hk => hk) ?aF ?aO ?aB ?aS ?aL ?_; (case aP => exact (k49_mkF _ _ (⟨(rd_T44 l0 x9_1).f0, (rd_T44 l0 x9_1).f1⟩ : S49) (Kd.V_reads' (Kd.V_mono (ok' := (fun k_ => ((fun k_ => (P0_ k_ ∨ w.heap.size ≤ k_) ∧ k_ ≠ gb253)) k_ ∧ some k_ ≠ (u3 : Value).ownBlock)) (HL252_0.out) (fun k_ hk => ⟨⟨hk.1, hk.2.2⟩, hk.2.1⟩))).2.1 (Kd.V_F (Kd.V_mono (ok' := (fun k_ => ((fun k_ => (P0_ k_ ∨ w.heap.size ≤ k_) ∧ k_ ≠ gb253)) k_ ∧ some k_ ≠ (u3 : Value).ownBlock)) (HL252_0.out) (fun k_ hk => ⟨⟨hk.1, hk.2.2⟩, hk.2.1⟩))))); (case aB => exact (by repeat (first | (with_reducible first | exact HB.out | apply bwA | apply bwN | apply bwD | refine below_set ?_ GE253.out) | exact HB.out))); (case aF => exact (fun k_ hk => ⟨(.inr (Nat.le_trans (below_size (by repeat (first | (with_reducible first | exact HB.out | apply bwA | apply bwN | apply bwD | refine below_set ?_ GE253.out) | exact HB.out))) hk)), Kd.freshB (g := gb253) (o := .cells #[.slice A252_0 ((rd_T44 l0 x9_1).f0).length c252_0, .int .i64 ((rd_T44 l0 x9_1).f1)] 44 (0, 0)) (by (with_reducible repeat (first | apply bkN | apply bkD | apply bkA)); exact BK253.out) k_ hk⟩)); (case aO => exact (by (with_reducible repeat (first | apply Kd.N_alloc | apply Kd.N_drewN | apply Kd.N_drew)); exact HO_3.out)); (case aS => exact (below_size (by repeat (first | (with_reducible first | exact HB.out | apply bwA | apply bwN | apply bwD | refine below_set ?_ GE253.out) | exact HB.out)))); (case aL => have := LMc7.out; omega); intro v255 w12 ho hb hg hat; rw [← Ny254.out] at ho; have n0_ := Aside0.mk (Kd.V_afterv (ok := (fun k_ => (P0_ k_ ∨ w.heap.size ≤ k_) ∧ k_ ≠ gb253)) (by (with_reducible repeat (first | apply Kd.V_alloc | apply Kd.V_drewN | apply Kd.V_drew)); exact Kd.V_mono HO_7.out (fun _ hk => ⟨⟨hk.1, hk.2.2⟩, hk.2.1⟩)) hg hat); have n1_ := Aside0.mk (Kd.V_afterv (ok := (fun k_ => (P0_ k_ ∨ w.heap.size ≤ k_) ∧ k_ ≠ gb253)) (by (with_reducible repeat (first | apply Kd.V_alloc | apply Kd.V_drewN | apply Kd.V_drew)); exact Kd.V_mono HL252_0.out (fun _ hk => ⟨⟨hk.1, hk.2.2⟩, hk.2.1⟩)) hg hat); have n2_ := Aside0.mk (blk_grown (g := gb253) (o := .cells #[.slice A252_0 ((rd_T44 l0 x9_1).f0).length c252_0, .int .i64 ((rd_T44 l0 x9_1).f1)] 44 (0, 0)) (by (with_reducible repeat (first | apply bkN | apply bkD | apply bkA)); exact BK253.out) hg (Kd.N_ne HO_3.out BK253.out (by decide))); have n3_ := Aside0.mk (hb); have n4_ := Aside0.mk (ho); clear HO_7; clear HL252_0; clear BK253; clear HB; clear HO_3; have HO_7 := n0_; have HL252_0 := n1_; have BK253 := n2_; have HB := n3_; have HO256 := n4_; clear n0_ n1_ n2_ n3_ n4_; clear ho hb hg hat))
       go_roundg k1
       case measure => have := HK1.out; omega
       case rel => exact ⟨(y254), (wrap64 (x9_1 + 1)), (by first | rfl | (simp; done) | (simp [*]; done)), H', ⟨by have := HK1.out; omega⟩, ⟨by (with_reducible repeat (first | apply Kd.N_alloc | apply Kd.N_drewN | apply Kd.N_drew)); exact Kd.N_mono HO256.out (fun _ hk => hk.1)⟩, ⟨by (with_reducible repeat (first | apply Kd.V_alloc | apply Kd.V_drewN | apply Kd.V_drew)); exact Kd.V_mono HO_7.out (fun _ hk => ⟨hk.1.1, hk.2⟩)⟩, ⟨by repeat (first | (with_reducible first | exact HB.out | apply bwA | apply bwN | apply bwD | refine below_set ?_ GE253.out) | exact HB.out)⟩⟩
      ·rw [if_neg c7] at H
       exact absurd H (by simp)
     ·rw [if_neg c6] at H
      exact absurd H (by simp)
    ·rw [if_neg c5] at H
     exact absurd H (by simp)
   ·rw [if_neg c4] at H
    have c4b0 : decide (x9_1 < (l0.length : Int)) = false := decide_eq_false c4
    clear c4
    obtain rfl := Option.some.inj H
    go_wp2
    go_ret
    exact ⟨_, by first | rfl | (simp [errW_none, errW_some] <;> rfl) | (simp [*, errW_none, errW_some] <;> rfl), by (with_reducible repeat (first | apply Kd.N_alloc | apply Kd.N_drewN | apply Kd.N_drew)); exact HO_3.out, by repeat (first | (with_reducible first | exact HB.out | apply bwA | apply bwN | apply bwD) | exact HB.out)⟩

/-! ### tillerref13_Less: function 18 -/
mutual
def tillerref13_Less.l0 : Nat → List Int → List Int → Int → Int → Option (Bool)
 | 0, _, _, _, _ => none
 | k + 1, x0, x1, x7, x8 => if x8 < x7 then (if x8 ≥ (x1.length : Int) then (tillerref13_Less.j1 k x0 x1 x8 x7 x8 true) else (if 0 ≤ x8 then (if x8 < (x0.length : Int) then (if x8 < (x1.length : Int) then (tillerref13_Less.j1 k x0 x1 x8 x7 x8 (decide ((rd x0 x8) > (rd x1 x8)))) else (none)) else (none)) else (none))) else (some (decide ((x0.length : Int) < (x1.length : Int))))
def tillerref13_Less.j1 : Nat → List Int → List Int → Int → Int → Int → Bool → Option (Bool)
 | 0, _, _, _, _, _, _ => none
 | k + 1, x0, x1, x5, x7, x8, x25 => if x25 = true then (some false) else (if 0 ≤ x5 then (if x5 < (x0.length : Int) then (if x5 < (x1.length : Int) then (if (rd x0 x5) < (rd x1 x5) then (some true) else (tillerref13_Less.l0 k x0 x1 x7 (wrap64 (x8 + 1)))) else (none)) else (none)) else (none))
end
def tillerref13_Less.f (k : Nat) (l0 : List Int) (l1 : List Int) : Option (Bool) := tillerref13_Less.l0 k l0 l1 (l0.length : Int) 0
theorem tillerref13_Less.mono_l : ∀ k, (∀ y0 y1 y2 y3, LeO (tillerref13_Less.l0 k y0 y1 y2 y3) (tillerref13_Less.l0 (k + 1) y0 y1 y2 y3)) ∧ (∀ y0 y1 y2 y3 y4 y5, LeO (tillerref13_Less.j1 k y0 y1 y2 y3 y4 y5) (tillerref13_Less.j1 (k + 1) y0 y1 y2 y3 y4 y5))
 | 0 => ⟨fun _ _ _ _ r h => by simp [tillerref13_Less.l0] at h, fun _ _ _ _ _ _ r h => by simp [tillerref13_Less.j1] at h⟩
 | k + 1 => by
  obtain ⟨ih0, ih1⟩ := tillerref13_Less.mono_l k
  refine ⟨?_, ?_⟩
  ·intro y0 y1 y2 y3
   unfold tillerref13_Less.l0
   repeat' first
   | (with_reducible exact ih0 _ _ _ _)
   | (with_reducible exact ih1 _ _ _ _ _ _)
   | (with_reducible exact LeO.refl _)
   | (with_reducible exact LeO.none _)
   | (with_reducible refine LeO.ite ?_ ?_)
   | (with_reducible refine LeO.bind ?_ (fun _ => ?_))
   | exact ih0 _ _ _ _
   | exact ih1 _ _ _ _ _ _
   | exact LeO.none _
   | refine LeO.ite ?_ ?_
   | refine LeO.bind ?_ (fun _ => ?_)
  ·intro y0 y1 y2 y3 y4 y5
   unfold tillerref13_Less.j1
   repeat' first
   | (with_reducible exact ih0 _ _ _ _)
   | (with_reducible exact ih1 _ _ _ _ _ _)
   | (with_reducible exact LeO.refl _)
   | (with_reducible exact LeO.none _)
   | (with_reducible refine LeO.ite ?_ ?_)
   | (with_reducible refine LeO.bind ?_ (fun _ => ?_))
   | exact ih0 _ _ _ _
   | exact ih1 _ _ _ _ _ _
   | exact LeO.none _
   | refine LeO.ite ?_ ?_
   | refine LeO.bind ?_ (fun _ => ?_)
theorem tillerref13_Less.mono : ∀ a0 a1 k, LeO (tillerref13_Less.f k a0 a1) (tillerref13_Less.f (k + 1) a0 a1) := by
 intro a0 a1 k
 obtain ⟨ih0, ih1⟩ := tillerref13_Less.mono_l k
 unfold tillerref13_Less.f
 repeat' first
   | (with_reducible exact ih0 _ _ _ _)
   | (with_reducible exact ih1 _ _ _ _ _ _)
   | (with_reducible exact LeO.refl _)
   | (with_reducible exact LeO.none _)
   | (with_reducible refine LeO.ite ?_ ?_)
   | (with_reducible refine LeO.bind ?_ (fun _ => ?_))
   | exact ih0 _ _ _ _
   | exact ih1 _ _ _ _ _ _
   | exact LeO.none _
   | refine LeO.ite ?_ ?_
   | refine LeO.bind ?_ (fun _ => ?_)
set_option maxHeartbeats 8000000 in
set_option maxRecDepth 100000 in
theorem tillerref13_Less.calls (k : Nat) (A0 : Option Addr) (c0 : Nat) (l0 : List Int) (A1 : Option Addr) (c1 : Nat) (l1 : List Int) (r : Bool) (w : World) (hr0 : Kd.C (Kd.int .i64) w A0 l0.length l0) (hc0 : l0.length ≤ c0) (hr1 : Kd.C (Kd.int .i64) w A1 l1.length l1) (hc1 : l1.length ≤ c1) (h : tillerref13_Less.f k l0 l1 = some r) :
  Calls Try.prog 18 #[.slice A0 l0.length c0, .slice A1 l1.length c1] w fun e w' => e = .returned (.bool r) ∧ Drawn0 w w' := by
 have HR0 := Aside0.mk hr0
 have HC0 := Aside0.mk hc0
 clear hr0 hc0
 have HR1 := Aside0.mk hr1
 have HC1 := Aside0.mk hc1
 clear hr1 hc1
 have H : (tillerref13_Less.l0 k l0 l1 (l0.length : Int) 0) = some r := h
 clear h
 have H' := Aside0.mk H
 clear H
 go_enter Try.func18, Try.ntmps18
 go_wp2
 repeat (go_quiet (fail); try go_wp2)
 go_loopg [8] k (fun kq v8 w' => ∃ (x8_1 : Int), v8 = .int .i64 x8_1 ∧ Aside0 (tillerref13_Less.l0 kq l0 l1 (l0.length : Int) x8_1 = some r) ∧ Aside0 (kq ≤ k) ∧ Drawn0 w w')
 case atStart => exact ⟨(0), (by first | rfl | (simp; done) | (simp [*]; done)), H', ⟨Nat.le_refl _⟩, by repeat (first | exact Drawn0.refl _ | apply Drawn0.step)⟩
 case round =>
  clear H'
  try clear c1
  try clear p2
  obtain ⟨x8_1, rfl, HA, HK1, ⟨m1, rfl⟩⟩ := hrel
  cases gk with
  | zero => exact absurd HA.out (by simp [tillerref13_Less.l0])
  | succ k1 =>
   have H := HA.out
   clear HA
   simp only [tillerref13_Less.l0] at H
   by_cases c3 : x8_1 < (l0.length : Int)
   ·rw [if_pos c3] at H
    have c3b0 : decide (x8_1 < (l0.length : Int)) = true := decide_eq_true c3
    clear c3
    have HC4 := Aside0.mk H
    clear H
    go_upto_region 4 with (fail)
    repeat (go_quiet (fail); go_upto_region 4 with (fail))
    go_cut [25] (fun v25 wc => ∃ (kq : Nat) (x25_3 : Bool), v25 = .bool x25_3 ∧ Aside0 (tillerref13_Less.j1 kq l0 l1 x8_1 (l0.length : Int) x8_1 x25_3 = some r) ∧ Aside0 (kq ≤ k1) ∧ Drawn0 w wc)
    case first =>
     have H := HC4.out
     clear HC4
     by_cases c5 : x8_1 ≥ (l1.length : Int)
     ·rw [if_pos c5] at H
      have c5b0 : decide ((l1.length : Int) ≤ x8_1) = true := decide_eq_true c5
      clear c5
      (first | rw [c5b0] | (simp only [i64_w, i32_w]; rw [c5b0]) | skip)
      have H' := Aside0.mk H
      clear H
      go_wp2
      repeat (go_quiet (fail); try go_wp2)
      go_meet
      case rel => exact ⟨_, (true), (by first | rfl | (simp; done) | (simp [*]; done)), H', ⟨by have := HK1.out; first | omega | exact Nat.le_refl _⟩, by repeat (first | exact Drawn0.refl _ | apply Drawn0.step)⟩
     ·rw [if_neg c5] at H
      have c5b0 : decide ((l1.length : Int) ≤ x8_1) = false := decide_eq_false c5
      clear c5
      (first | rw [c5b0] | (simp only [i64_w, i32_w]; rw [c5b0]) | skip)
      by_cases c6 : 0 ≤ x8_1
      ·rw [if_pos c6] at H
       have c6b0 : decide (0 ≤ x8_1) = true := decide_eq_true c6
       clear c6
       by_cases c7 : x8_1 < (l0.length : Int)
       ·rw [if_pos c7] at H
        have c7b0 : decide (x8_1 < (l0.length : Int)) = true := decide_eq_true c7
        clear c7
        by_cases c8 : x8_1 < (l1.length : Int)
        ·rw [if_pos c8] at H
         have c8b0 : decide (x8_1 < (l1.length : Int)) = true := decide_eq_true c8
         clear c8
         have H' := Aside0.mk H
         clear H
         have p257 : 0 ≤ (x8_1 : Int) := ofd_
         have q257 : x8_1 < (l0.length : Int) := ofd_
         obtain ⟨ad257, e257, hx257_0⟩ := Kd.at_int HR0.out x8_1 p257 q257
         cases e257
         replace p257 := eq_true p257
         replace q257 := eq_true q257
         have p258 : 0 ≤ (x8_1 : Int) := ofd_
         have q258 : x8_1 < (l1.length : Int) := ofd_
         obtain ⟨ad258, e258, hx258_0⟩ := Kd.at_int HR1.out x8_1 p258 q258
         cases e258
         replace p258 := eq_true p258
         replace q258 := eq_true q258
         go_wp2
         repeat (go_quiet (fail); try go_wp2)
         go_meet
         case rel => exact ⟨_, (decide ((rd l0 x8_1) > (rd l1 x8_1))), (by first | rfl | (simp; done) | (simp [*]; done)), H', ⟨by have := HK1.out; first | omega | exact Nat.le_refl _⟩, by repeat (first | exact Drawn0.refl _ | apply Drawn0.step)⟩
        ·rw [if_neg c8] at H
         exact absurd H (by simp)
       ·rw [if_neg c7] at H
        exact absurd H (by simp)
      ·rw [if_neg c6] at H
       exact absurd H (by simp)
    case rest =>
     clear HC4
     try clear c1
     try clear p2
     try clear q2
     try clear hx2
     try clear c3
     try clear c3b0
     try clear c5
     try clear c5b0
     try clear c6
     try clear c6b0
     try clear c7
     try clear c7b0
     try clear c8
     try clear c8b0
     try clear hx257_0
     try clear hx258_0
     try clear p2
     try clear p257
     try clear p258
     try clear q257
     try clear q258
     obtain ⟨kq, x25_3, rfl, HA, HJ3, ⟨mc3, rfl⟩⟩ := hcut
     cases kq with
     | zero => exact absurd HA.out (by simp [tillerref13_Less.j1])
     | succ kj3 =>
      have H := HA.out
      clear HA
      simp only [tillerref13_Less.j1] at H
      by_cases c9 : x25_3 = true
      ·subst c9
       have H1 : (some false) = some r := by rw [if_pos rfl] at H; exact H
       clear H
       have H := H1
       clear H1
       obtain rfl := Option.some.inj H
       go_wp2
       repeat (go_quiet (fail); try go_wp2)
       go_ret
       exact ⟨by first | rfl | (simp; done) | (simp [*]; done), by repeat (first | exact Drawn0.refl _ | apply Drawn0.step)⟩
      ·replace c9 := Bool.eq_false_iff.mpr c9
       subst c9
       have H1 : (if 0 ≤ x8_1 then (if x8_1 < (l0.length : Int) then (if x8_1 < (l1.length : Int) then (if (rd l0 x8_1) < (rd l1 x8_1) then (some true) else (tillerref13_Less.l0 kj3 l0 l1 (l0.length : Int) (wrap64 (x8_1 + 1)))) else (none)) else (none)) else (none)) = some r := by rw [if_neg (show ¬ (false = true) by decide)] at H; exact H
       clear H
       have H := H1
       clear H1
       by_cases c10 : 0 ≤ x8_1
       ·rw [if_pos c10] at H
        have c10b0 : decide (0 ≤ x8_1) = true := decide_eq_true c10
        clear c10
        by_cases c11 : x8_1 < (l0.length : Int)
        ·rw [if_pos c11] at H
         have c11b0 : decide (x8_1 < (l0.length : Int)) = true := decide_eq_true c11
         clear c11
         by_cases c12 : x8_1 < (l1.length : Int)
         ·rw [if_pos c12] at H
          have c12b0 : decide (x8_1 < (l1.length : Int)) = true := decide_eq_true c12
          clear c12
          by_cases c13 : (rd l0 x8_1) < (rd l1 x8_1)
          ·rw [if_pos c13] at H
           have c13b0 : decide ((rd l0 x8_1) < (rd l1 x8_1)) = true := decide_eq_true c13
           clear c13
           obtain rfl := Option.some.inj H
           have p259 : 0 ≤ (x8_1 : Int) := ofd_
           have q259 : x8_1 < (l0.length : Int) := ofd_
           obtain ⟨ad259, e259, hx259_0⟩ := Kd.at_int HR0.out x8_1 p259 q259
           cases e259
           replace p259 := eq_true p259
           replace q259 := eq_true q259
           have p260 : 0 ≤ (x8_1 : Int) := ofd_
           have q260 : x8_1 < (l1.length : Int) := ofd_
           obtain ⟨ad260, e260, hx260_0⟩ := Kd.at_int HR1.out x8_1 p260 q260
           cases e260
           replace p260 := eq_true p260
           replace q260 := eq_true q260
           go_wp2
           repeat (go_quiet (fail); try go_wp2)
           go_ret
           exact ⟨by first | rfl | (simp; done) | (simp [*]; done), by repeat (first | exact Drawn0.refl _ | apply Drawn0.step)⟩
          ·rw [if_neg c13] at H
           have c13b0 : decide ((rd l0 x8_1) < (rd l1 x8_1)) = false := decide_eq_false c13
           clear c13
           have H' := Aside0.mk H
           clear H
           have p259 : 0 ≤ (x8_1 : Int) := ofd_
           have q259 : x8_1 < (l0.length : Int) := ofd_
           obtain ⟨ad259, e259, hx259_0⟩ := Kd.at_int HR0.out x8_1 p259 q259
           cases e259
           replace p259 := eq_true p259
           replace q259 := eq_true q259
           have p260 : 0 ≤ (x8_1 : Int) := ofd_
           have q260 : x8_1 < (l1.length : Int) := ofd_
           obtain ⟨ad260, e260, hx260_0⟩ := Kd.at_int HR1.out x8_1 p260 q260
           cases e260
           replace p260 := eq_true p260
           replace q260 := eq_true q260
           go_wp2
           repeat (go_quiet (fail); try go_wp2)
           go_roundg kj3
           case measure => have := HK1.out; have := HJ3.out; omega
           case rel => exact ⟨(wrap64 (x8_1 + 1)), (by first | rfl | (simp; done) | (simp [*]; done)), H', ⟨by have := HK1.out; have := HJ3.out; omega⟩, by repeat (first | exact Drawn0.refl _ | apply Drawn0.step)⟩
         ·rw [if_neg c12] at H
          exact absurd H (by simp)
        ·rw [if_neg c11] at H
         exact absurd H (by simp)
       ·rw [if_neg c10] at H
        exact absurd H (by simp)
   ·rw [if_neg c3] at H
    have c3b0 : decide (x8_1 < (l0.length : Int)) = false := decide_eq_false c3
    clear c3
    obtain rfl := Option.some.inj H
    go_wp2
    repeat (go_quiet (fail); try go_wp2)
    go_ret
    exact ⟨by first | rfl | (simp; done) | (simp [*]; done), by repeat (first | exact Drawn0.refl _ | apply Drawn0.step)⟩

-- NOT PRINTED: function 29 (trie_node_prune)

-- NOT PRINTED: function 19 (trie_Trie_Drop)

end Go.Proofs.Ytfnogcppbhggpaa.GQ
