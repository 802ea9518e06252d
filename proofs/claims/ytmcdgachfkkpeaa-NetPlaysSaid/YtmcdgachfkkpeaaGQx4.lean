-- written by this session's program gprint.py
import Derived.Test.YtmcdgachfkkpeaaGQx0
import Derived.Test.YtmcdgachfkkpeaaGQx2
import Derived.Test.YtmcdgachfkkpeaaWGuard
import Derived.Test.YtmcdgachfkkpeaaWLast
import Derived.Test.YtmcdgachfkkpeaaWMore
import Derived.Test.YtmcdgachfkkpeaaWRepsOne
import Derived.Test.YtmcdgachfkkpeaaWWords
namespace Go.Proofs.Ytmcdgachfkkpeaa.GQ
open Go.RowKit Go.Proofs.YtmcdgachfkkpeaaW.PrintWords Go.Proofs.YtmcdgachfkkpeaaW.PrintLast Go.Proofs.YtmcdgachfkkpeaaW.PrintMore
attribute [local go_sem] max2_int min2_int max_two min_two max_three min_three max_four min_four   -- for this text's walks alone
set_option linter.unusedVariables false
set_option linter.unusedSimpArgs false

/-! ### tillerref16_Turn: function 27 -/
mutual
def tillerref16_Turn.j0 : Nat → Int → Int → Int → Bool → List (S53) → Int → Int → ByteArray → Bool → Option ((List (S53)) × Int × Int)
 | 0, _, _, _, _, _, _, _, _, _ => none
 | k + 1, x1, x2, x3, x36, x168000, x168001, x172000, x172001, x172002 => if x36 = true then (some (x168000, x168001, 1)) else (if x172002 = true then (some (x168000, x168001, 9)) else (tillerref16_Turn.l0 k x1 x2 x3 (⟨#[]⟩ : ByteArray) 0 x168000 x168001 x172000 x172001 x172002))
def tillerref16_Turn.l0 : Nat → Int → Int → Int → ByteArray → Int → List (S53) → Int → Int → ByteArray → Bool → Option ((List (S53)) × Int × Int)
 | 0, _, _, _, _, _, _, _, _, _, _ => none
 | k + 1, x1, x2, x3, x11, x12, x168000, x168001, x172000, x172001, x172002 => if x12 < (x172001.size : Int) then (if 0 ≤ x12 then (tillerref16_Turn.l1 k x1 x2 x3 x11 x12 (bt x172001 x12) 0 x168000 x168001 x172000 x172001 x172002) else (none)) else ((some (([] : List (S53)) : List (S53))).bind fun y172 => (if y172.length + x168000.length < 4398046511104 then ((some (y172 ++ x168000 : List (S53))).bind fun y175 => (if 0 ≤ x1 then (if x1 < (y175.length : Int) then (some ((y175.set (x1 : Int).toNat (⟨x172000, x11, true⟩ : S53)), x168001, 0)) else (none)) else (none))) else (none)))
def tillerref16_Turn.l1 : Nat → Int → Int → Int → ByteArray → Int → Int → Int → List (S53) → Int → Int → ByteArray → Bool → Option ((List (S53)) × Int × Int)
 | 0, _, _, _, _, _, _, _, _, _, _, _, _ => none
 | k + 1, x1, x2, x3, x11, x12, x13, x14, x168000, x168001, x172000, x172001, x172002 => if x14 < 8 then (if (wrap64 ((wrap64 ((wrap64 (8 * x12)) + x14)) - x2)) ≥ 0 then (if (wrap64 ((wrap64 ((wrap64 (8 * x12)) + x14)) - x2)) < 32 then (if 0 ≤ (wrap64 ((wrap64 ((wrap64 (8 * x12)) + x14)) - x2)) then (if (Int.tmod (shr .u32 x3 (wrap64 ((wrap64 ((wrap64 (8 * x12)) + x14)) - x2))) 2) = 1 then (if 0 ≤ x14 then (tillerref16_Turn.l1 k x1 x2 x3 x11 x12 (Go.bits .xor .u8 x13 (shl .u8 1 x14)) (wrap64 (x14 + 1)) x168000 x168001 x172000 x172001 x172002) else (none)) else (tillerref16_Turn.l1 k x1 x2 x3 x11 x12 x13 (wrap64 (x14 + 1)) x168000 x168001 x172000 x172001 x172002)) else (none)) else (tillerref16_Turn.l1 k x1 x2 x3 x11 x12 x13 (wrap64 (x14 + 1)) x168000 x168001 x172000 x172001 x172002)) else (tillerref16_Turn.l1 k x1 x2 x3 x11 x12 x13 (wrap64 (x14 + 1)) x168000 x168001 x172000 x172001 x172002)) else ((some (([x13] : List Int) : List Int)).bind fun y179 => (if x11.size + (strOfNums y179).size ≤ 9223372036854775807 then (tillerref16_Turn.l0 k x1 x2 x3 (x11 ++ (strOfNums y179)) (wrap64 (x12 + 1)) x168000 x168001 x172000 x172001 x172002) else (none)))
end
def tillerref16_Turn.f (k : Nat) (l0_0 : List (S53)) (a0_1 : Int) (a1 : Int) (a2 : Int) (a3 : Int) : Option ((List (S53)) × Int × Int) := (tillerref16_there.f l0_0 a0_1 a1).bind fun t169 => (if t169 = true then (if 0 ≤ a1 then (if a1 < (l0_0.length : Int) then (if a2 < 0 then (tillerref16_Turn.j0 k a1 a2 a3 true l0_0 a0_1 ((rd_T53 l0_0 a1).f0) ((rd_T53 l0_0 a1).f1) ((rd_T53 l0_0 a1).f2)) else (tillerref16_Turn.j0 k a1 a2 a3 (decide ((wrap64 (Int.tdiv a2 8)) ≥ (((rd_T53 l0_0 a1).f1).size : Int))) l0_0 a0_1 ((rd_T53 l0_0 a1).f0) ((rd_T53 l0_0 a1).f1) ((rd_T53 l0_0 a1).f2))) else (none)) else (none)) else (some (l0_0, a0_1, 8)))
theorem tillerref16_Turn.mono_l : ∀ k, (∀ y0 y1 y2 y3 y4 y5 y6 y7 y8, LeO (tillerref16_Turn.j0 k y0 y1 y2 y3 y4 y5 y6 y7 y8) (tillerref16_Turn.j0 (k + 1) y0 y1 y2 y3 y4 y5 y6 y7 y8)) ∧ (∀ y0 y1 y2 y3 y4 y5 y6 y7 y8 y9, LeO (tillerref16_Turn.l0 k y0 y1 y2 y3 y4 y5 y6 y7 y8 y9) (tillerref16_Turn.l0 (k + 1) y0 y1 y2 y3 y4 y5 y6 y7 y8 y9)) ∧ (∀ y0 y1 y2 y3 y4 y5 y6 y7 y8 y9 y10 y11, LeO (tillerref16_Turn.l1 k y0 y1 y2 y3 y4 y5 y6 y7 y8 y9 y10 y11) (tillerref16_Turn.l1 (k + 1) y0 y1 y2 y3 y4 y5 y6 y7 y8 y9 y10 y11))
 | 0 => ⟨fun _ _ _ _ _ _ _ _ _ r h => by simp [tillerref16_Turn.j0] at h, fun _ _ _ _ _ _ _ _ _ _ r h => by simp [tillerref16_Turn.l0] at h, fun _ _ _ _ _ _ _ _ _ _ _ _ r h => by simp [tillerref16_Turn.l1] at h⟩
 | k + 1 => by
  obtain ⟨ih0, ih1, ih2⟩ := tillerref16_Turn.mono_l k
  refine ⟨?_, ?_, ?_⟩
  ·intro y0 y1 y2 y3 y4 y5 y6 y7 y8
   unfold tillerref16_Turn.j0
   repeat' first
   | (with_reducible exact ih0 _ _ _ _ _ _ _ _ _)
   | (with_reducible exact ih1 _ _ _ _ _ _ _ _ _ _)
   | (with_reducible exact ih2 _ _ _ _ _ _ _ _ _ _ _ _)
   | (with_reducible exact LeO.refl _)
   | (with_reducible exact LeO.none _)
   | (with_reducible refine LeO.ite ?_ ?_)
   | (with_reducible refine LeO.bind ?_ (fun _ => ?_))
   | exact ih0 _ _ _ _ _ _ _ _ _
   | exact ih1 _ _ _ _ _ _ _ _ _ _
   | exact ih2 _ _ _ _ _ _ _ _ _ _ _ _
   | exact LeO.none _
   | refine LeO.ite ?_ ?_
   | refine LeO.bind ?_ (fun _ => ?_)
  ·intro y0 y1 y2 y3 y4 y5 y6 y7 y8 y9
   unfold tillerref16_Turn.l0
   repeat' first
   | (with_reducible exact ih0 _ _ _ _ _ _ _ _ _)
   | (with_reducible exact ih1 _ _ _ _ _ _ _ _ _ _)
   | (with_reducible exact ih2 _ _ _ _ _ _ _ _ _ _ _ _)
   | (with_reducible exact LeO.refl _)
   | (with_reducible exact LeO.none _)
   | (with_reducible refine LeO.ite ?_ ?_)
   | (with_reducible refine LeO.bind ?_ (fun _ => ?_))
   | exact ih0 _ _ _ _ _ _ _ _ _
   | exact ih1 _ _ _ _ _ _ _ _ _ _
   | exact ih2 _ _ _ _ _ _ _ _ _ _ _ _
   | exact LeO.none _
   | refine LeO.ite ?_ ?_
   | refine LeO.bind ?_ (fun _ => ?_)
  ·intro y0 y1 y2 y3 y4 y5 y6 y7 y8 y9 y10 y11
   unfold tillerref16_Turn.l1
   repeat' first
   | (with_reducible exact ih0 _ _ _ _ _ _ _ _ _)
   | (with_reducible exact ih1 _ _ _ _ _ _ _ _ _ _)
   | (with_reducible exact ih2 _ _ _ _ _ _ _ _ _ _ _ _)
   | (with_reducible exact LeO.refl _)
   | (with_reducible exact LeO.none _)
   | (with_reducible refine LeO.ite ?_ ?_)
   | (with_reducible refine LeO.bind ?_ (fun _ => ?_))
   | exact ih0 _ _ _ _ _ _ _ _ _
   | exact ih1 _ _ _ _ _ _ _ _ _ _
   | exact ih2 _ _ _ _ _ _ _ _ _ _ _ _
   | exact LeO.none _
   | refine LeO.ite ?_ ?_
   | refine LeO.bind ?_ (fun _ => ?_)
theorem tillerref16_Turn.mono : ∀ a0 a1 a2 a3 a4 k, LeO (tillerref16_Turn.f k a0 a1 a2 a3 a4) (tillerref16_Turn.f (k + 1) a0 a1 a2 a3 a4) := by
 intro a0 a1 a2 a3 a4 k
 obtain ⟨ih0, ih1, ih2⟩ := tillerref16_Turn.mono_l k
 unfold tillerref16_Turn.f
 repeat' first
   | (with_reducible exact ih0 _ _ _ _ _ _ _ _ _)
   | (with_reducible exact ih1 _ _ _ _ _ _ _ _ _ _)
   | (with_reducible exact ih2 _ _ _ _ _ _ _ _ _ _ _ _)
   | (with_reducible exact LeO.refl _)
   | (with_reducible exact LeO.none _)
   | (with_reducible refine LeO.ite ?_ ?_)
   | (with_reducible refine LeO.bind ?_ (fun _ => ?_))
   | exact ih0 _ _ _ _ _ _ _ _ _
   | exact ih1 _ _ _ _ _ _ _ _ _ _
   | exact ih2 _ _ _ _ _ _ _ _ _ _ _ _
   | exact LeO.none _
   | refine LeO.ite ?_ ?_
   | refine LeO.bind ?_ (fun _ => ?_)
set_option maxHeartbeats 8000000 in
set_option maxRecDepth 100000 in
theorem tillerref16_Turn.calls (k : Nat) (P0_0_ : Nat → Prop) (A0_0 : Option Addr) (c0_0 : Nat) (l0_0 : List (S53)) (a0_1 : Int) (a1 : Int) (a2 : Int) (a3 : Int) (r1 : List (S53)) (r2 : Int) (r3 : Int) (w : World) (hs0_0 : Kd.V k53 53 w w.heap.size (fun k_ => P0_0_ k_) (.slice A0_0 l0_0.length c0_0) l0_0) (h : tillerref16_Turn.f k l0_0 a0_1 a1 a2 a3 = some (r1, r2, r3)) :
  Calls Try.prog 27 #[.agg #[.slice A0_0 l0_0.length c0_0, .int .i64 a0_1], .int .i64 a1, .int .i64 a2, .int .u32 a3] w fun e w' => ∃ v0_ : Value, e = .returned (.tuple #[.agg #[v0_, .int .i64 r2], .int .i64 r3]) ∧ Kd.V k53 53 w' w.heap.size (fun k_ => (P0_0_ k_ ∨ w.heap.size ≤ k_)) v0_ r1 ∧ Below w.heap.size w w' := by
 have hu47 := Try.underlying47
 have hu53 := Try.underlying53
 have HO0_0 := Aside0.mk (show Kd.V k53 53 w w.heap.size (fun k_ => (P0_0_ k_ ∨ w.heap.size ≤ k_)) (.slice A0_0 l0_0.length c0_0) l0_0 from Kd.V_mono hs0_0 (fun k_ hk => .inl hk))
 have HB := Aside0.mk (Below.refl w.heap.size w)
 have H : ((tillerref16_there.f l0_0 a0_1 a1).bind fun t169 => (if t169 = true then (if 0 ≤ a1 then (if a1 < (l0_0.length : Int) then (if a2 < 0 then (tillerref16_Turn.j0 k a1 a2 a3 true l0_0 a0_1 ((rd_T53 l0_0 a1).f0) ((rd_T53 l0_0 a1).f1) ((rd_T53 l0_0 a1).f2)) else (tillerref16_Turn.j0 k a1 a2 a3 (decide ((wrap64 (Int.tdiv a2 8)) ≥ (((rd_T53 l0_0 a1).f1).size : Int))) l0_0 a0_1 ((rd_T53 l0_0 a1).f0) ((rd_T53 l0_0 a1).f1) ((rd_T53 l0_0 a1).f2))) else (none)) else (none)) else (some (l0_0, a0_1, 8)))) = some (r1, r2, r3) := h
 clear h
 replace H := Option.bind_eq_some_iff.mp H
 obtain ⟨t169, A50, H⟩ := H
 replace H : (if t169 = true then (if 0 ≤ a1 then (if a1 < (l0_0.length : Int) then (if a2 < 0 then (tillerref16_Turn.j0 k a1 a2 a3 true l0_0 a0_1 ((rd_T53 l0_0 a1).f0) ((rd_T53 l0_0 a1).f1) ((rd_T53 l0_0 a1).f2)) else (tillerref16_Turn.j0 k a1 a2 a3 (decide ((wrap64 (Int.tdiv a2 8)) ≥ (((rd_T53 l0_0 a1).f1).size : Int))) l0_0 a0_1 ((rd_T53 l0_0 a1).f0) ((rd_T53 l0_0 a1).f1) ((rd_T53 l0_0 a1).f2))) else (none)) else (none)) else (some (l0_0, a0_1, 8))) = some (r1, r2, r3) := H
 have A5 := Aside0.mk A50
 clear A50
 by_cases c6 : t169 = true
 ·subst c6
  have H1 : (if 0 ≤ a1 then (if a1 < (l0_0.length : Int) then (if a2 < 0 then (tillerref16_Turn.j0 k a1 a2 a3 true l0_0 a0_1 ((rd_T53 l0_0 a1).f0) ((rd_T53 l0_0 a1).f1) ((rd_T53 l0_0 a1).f2)) else (tillerref16_Turn.j0 k a1 a2 a3 (decide ((wrap64 (Int.tdiv a2 8)) ≥ (((rd_T53 l0_0 a1).f1).size : Int))) l0_0 a0_1 ((rd_T53 l0_0 a1).f0) ((rd_T53 l0_0 a1).f1) ((rd_T53 l0_0 a1).f2))) else (none)) else (none)) = some (r1, r2, r3) := by rw [if_pos rfl] at H; exact H
  clear H
  have H := H1
  clear H1
  by_cases c7 : 0 ≤ a1
  ·rw [if_pos c7] at H
   have c7b0 : decide (0 ≤ a1) = true := decide_eq_true c7
   clear c7
   by_cases c8 : a1 < (l0_0.length : Int)
   ·rw [if_pos c8] at H
    have c8b0 : decide (a1 < (l0_0.length : Int)) = true := decide_eq_true c8
    clear c8
    have HC9 := Aside0.mk H
    clear H
    go_enter Try.func27, Try.ntmps27
    go_upto_region 4 with (first | ((with_reducible refine gate_dst (N := 4) rfl ?_); (try (refine gate_guard (by rfl) ?_; dsimp only)); refine box_event ?hg (N := 4) ?hd (cs := #[.slice A0_0 l0_0.length c0_0, .int .i64 a0_1]) (t := 47) ?hr ?_; (case hd => rfl); (case hg => rfl); (case hr => first | (go_simp; done) | (go_simp; rfl)); intro gb167 hg w10 hbox hb; have n0_ := Aside0.mk (Kd.V_below (Kd.V_elderB (by (with_reducible repeat (first | apply Kd.V_alloc | apply Kd.V_drewN | apply Kd.V_drew)); exact HO0_0.out) gb167 (Nat.le_of_eq hg.symm)) hb); have n1_ := Aside0.mk (below_step (by repeat (first | (with_reducible first | exact HB.out | apply bwA | apply bwN | apply bwD) | exact HB.out)) hb); have n2_ := Aside0.mk (hbox); have n3_ := Aside0.mk ((by rw [hg]; exact (below_size (by repeat (first | (with_reducible first | exact HB.out | apply bwA | apply bwN | apply bwD) | exact HB.out))) : w.heap.size ≤ gb167)); have n4_ := Aside0.mk ((by rw [hg]; exact (below_size (by repeat (first | (with_reducible first | exact HB.out | apply bwA | apply bwN | apply bwD) | exact HB.out))) : w.heap.size ≤ gb167)); clear HO0_0; clear HB; have HO0_0 := n0_; have HB := n1_; have BK167 := n2_; have GW167 := n3_; have GE167 := n4_; clear n0_ n1_ n2_ n3_ n4_; clear hb hbox hg) | ((with_reducible refine gate_dst (N := 8) rfl ?_); (try (refine gate_guard (by rfl) ?_; dsimp only)); refine box_event ?hg (N := 8) ?hd (cs := #[.slice none 0 0, .int .i64 0]) (t := 47) ?hr ?_; (case hd => rfl); (case hg => rfl); (case hr => first | (go_simp; done) | (go_simp; rfl)); intro gb168 hg w11 hbox hb; have n0_ := Aside0.mk (Kd.V_below (Kd.V_elderB (by (with_reducible repeat (first | apply Kd.V_alloc | apply Kd.V_drewN | apply Kd.V_drew)); exact HO0_0.out) gb168 (Nat.le_of_eq hg.symm)) hb); have n1_ := Aside0.mk (blk_below (g := gb167) (o := .cells #[.slice A0_0 l0_0.length c0_0, .int .i64 a0_1] 47 (0, 0)) (by (with_reducible repeat (first | apply bkN | apply bkD | apply bkA)); exact BK167.out) hb); have n2_ := Aside0.mk (below_step (by repeat (first | (with_reducible first | exact HB.out | apply bwA | apply bwN | apply bwD | refine below_set ?_ GE167.out) | exact HB.out)) hb); have n3_ := Aside0.mk (hbox); have n4_ := Aside0.mk ((by rw [hg]; exact (below_size (by repeat (first | (with_reducible first | exact HB.out | apply bwA | apply bwN | apply bwD | refine below_set ?_ GE167.out) | exact HB.out))) : w.heap.size ≤ gb168)); have n5_ := Aside0.mk ((by rw [hg]; exact (below_size (by repeat (first | (with_reducible first | exact HB.out | apply bwA | apply bwN | apply bwD | refine below_set ?_ GE167.out) | exact HB.out))) : w.heap.size ≤ gb168)); have n6_ := Aside0.mk ((by rw [hg]; exact Nat.ne_of_lt (blk_lt (g := gb167) (o := .cells #[.slice A0_0 l0_0.length c0_0, .int .i64 a0_1] 47 (0, 0)) (by (with_reducible repeat (first | apply bkN | apply bkD | apply bkA)); exact BK167.out)) : gb167 ≠ gb168)); have n7_ := Aside0.mk ((by rw [hg]; exact Nat.ne_of_gt (blk_lt (g := gb167) (o := .cells #[.slice A0_0 l0_0.length c0_0, .int .i64 a0_1] 47 (0, 0)) (by (with_reducible repeat (first | apply bkN | apply bkD | apply bkA)); exact BK167.out)) : gb168 ≠ gb167)); clear HO0_0; clear BK167; clear HB; have HO0_0 := n0_; have BK167 := n1_; have HB := n2_; have BK168 := n3_; have GW168 := n4_; have GE168 := n5_; have NB167_168 := n6_; have NB168_167 := n7_; clear n0_ n1_ n2_ n3_ n4_ n5_ n6_ n7_; clear hb hbox hg; have hnb12 := NB167_168.out; have hnc12 := NB168_167.out; have hcz13_0 : w11.cell? ⟨gb167, 0, none⟩ = some (.slice A0_0 l0_0.length c0_0) := (blk_cell BK167.out 0).trans rfl; have hcz13_1 : w11.cell? ⟨gb167, 1, none⟩ = some (.int .i64 a0_1) := (blk_cell BK167.out 1).trans rfl; have hfz13_0 := blk_frozen BK167.out 0; have hfz13_1 := blk_frozen BK167.out 1) | ((with_reducible refine gate_callee (f := 30) rfl ?_); refine goesL_ (some 19) rfl rfl Try.func30 (by kernel_rfl) rfl #[.agg #[.slice A0_0 l0_0.length c0_0, .int .i64 a0_1], .int .i64 a1] rfl (by (try simp only [List.map_toArray, List.map_cons, List.map_nil]); first | done | rfl | (simp only [List.length_drop, List.length_take]; rfl)) ?_; (with_reducible refine (tillerref16_there.calls _ _ l0_0 a0_1 a1 true _ ?side1 ?side2 A5.out).mono ?_); (case side1 => repeat (first | exact (Kd.V_reads' HO0_0.out).2.2 | (with_reducible refine Kd.C_alloc ?_ _) | (with_reducible refine Kd.C_drewN ?_ _) | (with_reducible refine Kd.C_drew ?_))); (case side2 => exact (Kd.V_reads' HO0_0.out).2.1); rintro e w14 ⟨rfl, hb⟩; refine ⟨_, rfl, ?_⟩; have n0_ := Aside0.mk (Kd.V_below (by (with_reducible repeat (first | apply Kd.V_alloc | apply Kd.V_drewN | apply Kd.V_drew)); exact HO0_0.out) hb); have n1_ := Aside0.mk (blk_below (g := gb167) (o := .cells #[.slice A0_0 l0_0.length c0_0, .int .i64 a0_1] 47 (0, 0)) (by (with_reducible repeat (first | apply bkN | apply bkD | apply bkA)); exact BK167.out) hb); have n2_ := Aside0.mk (blk_below (g := gb168) (o := .cells #[.slice none 0 0, .int .i64 0] 47 (0, 0)) (by (with_reducible repeat (first | apply bkN | apply bkD | apply bkA)); exact BK168.out) hb); have n3_ := Aside0.mk (below_step (by repeat (first | (with_reducible first | exact HB.out | apply bwA | apply bwN | apply bwD | refine below_set ?_ GE167.out | refine below_set ?_ GE168.out) | exact HB.out)) hb); clear HO0_0; clear BK167; clear BK168; clear HB; have HO0_0 := n0_; have BK167 := n1_; have BK168 := n2_; have HB := n3_; clear n0_ n1_ n2_ n3_; (try clear hb); (try clear hb2); (try clear hk); (try clear hi); have hcz15_0 : w14.cell? ⟨gb167, 0, none⟩ = some (.slice A0_0 l0_0.length c0_0) := (blk_cell BK167.out 0).trans rfl; have hcz15_1 : w14.cell? ⟨gb167, 1, none⟩ = some (.int .i64 a0_1) := (blk_cell BK167.out 1).trans rfl; have hfz15_0 := blk_frozen BK167.out 0; have hfz15_1 := blk_frozen BK167.out 1; have p170 : 0 ≤ (a1 : Int) := ofd_; have q170 : a1 < (l0_0.length : Int) := ofd_; obtain ⟨ad170, e170, hx170_0, hx170_1, hx170_2⟩ := at_T53 (Kd.V_reads' HO0_0.out).2.2 a1 p170 q170; cases e170; replace p170 := eq_true p170; replace q170 := eq_true q170) | ((with_reducible refine gate_dst (N := 10) rfl ?_); (try (refine gate_guard (by rfl) ?_; dsimp only)); refine box_event ?hg (N := 10) ?hd (cs := #[.int .i64 0, .string (⟨#[]⟩ : ByteArray), .bool false]) (t := 53) ?hr ?_; (case hd => rfl); (case hg => rfl); (case hr => first | (go_simp; done) | (go_simp; rfl)); intro gb171 hg w16 hbox hb; have n0_ := Aside0.mk (Kd.V_below (Kd.V_elderB (by (with_reducible repeat (first | apply Kd.V_alloc | apply Kd.V_drewN | apply Kd.V_drew)); exact HO0_0.out) gb171 (Nat.le_of_eq hg.symm)) hb); have n1_ := Aside0.mk (blk_below (g := gb167) (o := .cells #[.slice (some ad170) l0_0.length c0_0, .int .i64 a0_1] 47 (0, 0)) (by (with_reducible repeat (first | apply bkN | apply bkD | apply bkA)); exact BK167.out) hb); have n2_ := Aside0.mk (blk_below (g := gb168) (o := .cells #[.slice none 0 0, .int .i64 0] 47 (0, 0)) (by (with_reducible repeat (first | apply bkN | apply bkD | apply bkA)); exact BK168.out) hb); have n3_ := Aside0.mk (below_step (by repeat (first | (with_reducible first | exact HB.out | apply bwA | apply bwN | apply bwD | refine below_set ?_ GE167.out | refine below_set ?_ GE168.out) | exact HB.out)) hb); have n4_ := Aside0.mk (hbox); have n5_ := Aside0.mk ((by rw [hg]; exact (below_size (by repeat (first | (with_reducible first | exact HB.out | apply bwA | apply bwN | apply bwD | refine below_set ?_ GE167.out | refine below_set ?_ GE168.out) | exact HB.out))) : w.heap.size ≤ gb171)); have n6_ := Aside0.mk ((by rw [hg]; exact (below_size (by repeat (first | (with_reducible first | exact HB.out | apply bwA | apply bwN | apply bwD | refine below_set ?_ GE167.out | refine below_set ?_ GE168.out) | exact HB.out))) : w.heap.size ≤ gb171)); have n7_ := Aside0.mk ((by rw [hg]; exact Nat.ne_of_lt (blk_lt (g := gb167) (o := .cells #[.slice (some ad170) l0_0.length c0_0, .int .i64 a0_1] 47 (0, 0)) (by (with_reducible repeat (first | apply bkN | apply bkD | apply bkA)); exact BK167.out)) : gb167 ≠ gb171)); have n8_ := Aside0.mk ((by rw [hg]; exact Nat.ne_of_gt (blk_lt (g := gb167) (o := .cells #[.slice (some ad170) l0_0.length c0_0, .int .i64 a0_1] 47 (0, 0)) (by (with_reducible repeat (first | apply bkN | apply bkD | apply bkA)); exact BK167.out)) : gb171 ≠ gb167)); have n9_ := Aside0.mk ((by rw [hg]; exact Nat.ne_of_lt (blk_lt (g := gb168) (o := .cells #[.slice none 0 0, .int .i64 0] 47 (0, 0)) (by (with_reducible repeat (first | apply bkN | apply bkD | apply bkA)); exact BK168.out)) : gb168 ≠ gb171)); have n10_ := Aside0.mk ((by rw [hg]; exact Nat.ne_of_gt (blk_lt (g := gb168) (o := .cells #[.slice none 0 0, .int .i64 0] 47 (0, 0)) (by (with_reducible repeat (first | apply bkN | apply bkD | apply bkA)); exact BK168.out)) : gb171 ≠ gb168)); clear HO0_0; clear BK167; clear BK168; clear HB; have HO0_0 := n0_; have BK167 := n1_; have BK168 := n2_; have HB := n3_; have BK171 := n4_; have GW171 := n5_; have GE171 := n6_; have NB167_171 := n7_; have NB171_167 := n8_; have NB168_171 := n9_; have NB171_168 := n10_; clear n0_ n1_ n2_ n3_ n4_ n5_ n6_ n7_ n8_ n9_ n10_; clear hb hbox hg; have hnb17 := NB171_167.out; have hnc17 := NB167_171.out; have hnb18 := NB171_168.out; have hnc18 := NB168_171.out; have hcz19_0 : w16.cell? ⟨gb171, 0, none⟩ = some (.int .i64 0) := (blk_cell BK171.out 0).trans rfl; have hcz19_1 : w16.cell? ⟨gb171, 1, none⟩ = some (.string (⟨#[]⟩ : ByteArray)) := (blk_cell BK171.out 1).trans rfl; have hcz19_2 : w16.cell? ⟨gb171, 2, none⟩ = some (.bool false) := (blk_cell BK171.out 2).trans rfl; have hfz19_0 := blk_frozen BK171.out 0; have hfz19_1 := blk_frozen BK171.out 1; have hfz19_2 := blk_frozen BK171.out 2))
    (try simp only [Act.put, List.setIfInBounds_toArray, List.set_cons_zero, List.set_cons_succ])
    go_cut [36] (fun v36 wc => ∃ (kq : Nat) (x36_8 : Bool), v36 = .bool x36_8 ∧ Aside0 (tillerref16_Turn.j0 kq a1 a2 a3 x36_8 l0_0 a0_1 ((rd_T53 l0_0 a1).f0) ((rd_T53 l0_0 a1).f1) ((rd_T53 l0_0 a1).f2) = some (r1, r2, r3)) ∧ Aside0 (kq ≤ k) ∧ Aside0 (Kd.V k53 53 wc w.heap.size (fun k_ => (P0_0_ k_ ∨ w.heap.size ≤ k_) ∧ k_ ≠ gb167 ∧ k_ ≠ gb168 ∧ k_ ≠ gb171) (.slice (some ad170) l0_0.length c0_0) l0_0) ∧ Aside0 (wc.heap[gb167]? = some (.cells #[(.slice (some ad170) l0_0.length c0_0), .int .i64 a0_1] 47 (0, 0))) ∧ Aside0 (wc.heap[gb168]? = some (.cells #[(.slice none 0 0), .int .i64 0] 47 (0, 0))) ∧ Aside0 (wc.heap[gb171]? = some (.cells #[.int .i64 ((rd_T53 l0_0 a1).f0), .string ((rd_T53 l0_0 a1).f1), .bool ((rd_T53 l0_0 a1).f2)] 53 (0, 0))) ∧ Aside0 (Below w.heap.size w wc))
    case first =>
     have H := HC9.out
     clear HC9
     by_cases c20 : a2 < 0
     ·rw [if_pos c20] at H
      have c20b0 : decide (a2 < 0) = true := decide_eq_true c20
      clear c20
      (first | rw [c20b0] | (simp only [i64_w, i32_w]; rw [c20b0]) | skip)
      have H' := Aside0.mk H
      clear H
      go_wp2
      go_meet
      case rel => exact ⟨_, (true), (by first | rfl | (simp; done) | (simp [*]; done)), H', ⟨by first | omega | exact Nat.le_refl _⟩, ⟨by (with_reducible repeat (first | apply Kd.V_alloc | apply Kd.V_drewN | apply Kd.V_drew)); exact Kd.V_mono (Kd.V_far (p := ⟨gb171, 2, none⟩) (Kd.V_far (p := ⟨gb171, 1, none⟩) (Kd.V_far (p := ⟨gb171, 0, none⟩) (Kd.V_mono HO0_0.out (fun k_ hk => (⟨hk, hk.2⟩ : _ ∧ k_ ≠ gb171))) (fun _ hk => hk.2) (.int .i64 ((rd_T53 l0_0 a1).f0))) (fun _ hk => hk.2) (.string ((rd_T53 l0_0 a1).f1))) (fun _ hk => hk.2) (.bool ((rd_T53 l0_0 a1).f2))) (fun _ hk => ⟨hk.1.1.1.1, ⟨hk.1.1.1.2, ⟨hk.1.1.2, hk.1.2⟩⟩⟩)⟩, ⟨by (with_reducible repeat (first | apply bkN | apply bkD | apply bkA)); refine blk_far ?_ NB167_171.out _; (with_reducible repeat (first | apply bkN | apply bkD | apply bkA)); refine blk_far ?_ NB167_171.out _; (with_reducible repeat (first | apply bkN | apply bkD | apply bkA)); refine blk_far ?_ NB167_171.out _; (with_reducible repeat (first | apply bkN | apply bkD | apply bkA)); exact BK167.out⟩, ⟨by (with_reducible repeat (first | apply bkN | apply bkD | apply bkA)); refine blk_far ?_ NB168_171.out _; (with_reducible repeat (first | apply bkN | apply bkD | apply bkA)); refine blk_far ?_ NB168_171.out _; (with_reducible repeat (first | apply bkN | apply bkD | apply bkA)); refine blk_far ?_ NB168_171.out _; (with_reducible repeat (first | apply bkN | apply bkD | apply bkA)); exact BK168.out⟩, ⟨by (with_reducible repeat (first | apply bkN | apply bkD | apply bkA)); refine blk_put (cs := #[.int .i64 ((rd_T53 l0_0 a1).f0), .string ((rd_T53 l0_0 a1).f1), .bool false]) ?_ 2 _ rfl; (with_reducible repeat (first | apply bkN | apply bkD | apply bkA)); refine blk_put (cs := #[.int .i64 ((rd_T53 l0_0 a1).f0), .string (⟨#[]⟩ : ByteArray), .bool false]) ?_ 1 _ rfl; (with_reducible repeat (first | apply bkN | apply bkD | apply bkA)); refine blk_put (cs := #[.int .i64 0, .string (⟨#[]⟩ : ByteArray), .bool false]) ?_ 0 _ rfl; (with_reducible repeat (first | apply bkN | apply bkD | apply bkA)); exact BK171.out⟩, ⟨by repeat (first | (with_reducible first | exact HB.out | apply bwA | apply bwN | apply bwD | refine below_set ?_ GE167.out | refine below_set ?_ GE168.out | refine below_set ?_ GE171.out) | exact HB.out)⟩⟩
     ·rw [if_neg c20] at H
      have c20b0 : decide (a2 < 0) = false := decide_eq_false c20
      clear c20
      (first | rw [c20b0] | (simp only [i64_w, i32_w]; rw [c20b0]) | skip)
      have H' := Aside0.mk H
      clear H
      have hnb21 := NB171_167.out
      have hnc21 := NB167_171.out
      have hnb22 := NB171_168.out
      have hnc22 := NB168_171.out
      have hcz23_0 : w16.cell? ⟨gb171, 0, none⟩ = some (.int .i64 0) := (blk_cell BK171.out 0).trans rfl
      have hcz23_1 : w16.cell? ⟨gb171, 1, none⟩ = some (.string (⟨#[]⟩ : ByteArray)) := (blk_cell BK171.out 1).trans rfl
      have hcz23_2 : w16.cell? ⟨gb171, 2, none⟩ = some (.bool false) := (blk_cell BK171.out 2).trans rfl
      have hfz23_0 := blk_frozen BK171.out 0
      have hfz23_1 := blk_frozen BK171.out 1
      have hfz23_2 := blk_frozen BK171.out 2
      go_wp2
      go_meet
      case rel => exact ⟨_, (decide ((wrap64 (Int.tdiv a2 8)) ≥ (((rd_T53 l0_0 a1).f1).size : Int))), (by first | rfl | (simp; done) | (simp [*]; done)), H', ⟨by first | omega | exact Nat.le_refl _⟩, ⟨by (with_reducible repeat (first | apply Kd.V_alloc | apply Kd.V_drewN | apply Kd.V_drew)); exact Kd.V_mono (Kd.V_far (p := ⟨gb171, 2, none⟩) (Kd.V_far (p := ⟨gb171, 1, none⟩) (Kd.V_far (p := ⟨gb171, 0, none⟩) (Kd.V_mono HO0_0.out (fun k_ hk => (⟨hk, hk.2⟩ : _ ∧ k_ ≠ gb171))) (fun _ hk => hk.2) (.int .i64 ((rd_T53 l0_0 a1).f0))) (fun _ hk => hk.2) (.string ((rd_T53 l0_0 a1).f1))) (fun _ hk => hk.2) (.bool ((rd_T53 l0_0 a1).f2))) (fun _ hk => ⟨hk.1.1.1.1, ⟨hk.1.1.1.2, ⟨hk.1.1.2, hk.1.2⟩⟩⟩)⟩, ⟨by (with_reducible repeat (first | apply bkN | apply bkD | apply bkA)); refine blk_far ?_ NB167_171.out _; (with_reducible repeat (first | apply bkN | apply bkD | apply bkA)); refine blk_far ?_ NB167_171.out _; (with_reducible repeat (first | apply bkN | apply bkD | apply bkA)); refine blk_far ?_ NB167_171.out _; (with_reducible repeat (first | apply bkN | apply bkD | apply bkA)); exact BK167.out⟩, ⟨by (with_reducible repeat (first | apply bkN | apply bkD | apply bkA)); refine blk_far ?_ NB168_171.out _; (with_reducible repeat (first | apply bkN | apply bkD | apply bkA)); refine blk_far ?_ NB168_171.out _; (with_reducible repeat (first | apply bkN | apply bkD | apply bkA)); refine blk_far ?_ NB168_171.out _; (with_reducible repeat (first | apply bkN | apply bkD | apply bkA)); exact BK168.out⟩, ⟨by (with_reducible repeat (first | apply bkN | apply bkD | apply bkA)); refine blk_put (cs := #[.int .i64 ((rd_T53 l0_0 a1).f0), .string ((rd_T53 l0_0 a1).f1), .bool false]) ?_ 2 _ rfl; (with_reducible repeat (first | apply bkN | apply bkD | apply bkA)); refine blk_put (cs := #[.int .i64 ((rd_T53 l0_0 a1).f0), .string (⟨#[]⟩ : ByteArray), .bool false]) ?_ 1 _ rfl; (with_reducible repeat (first | apply bkN | apply bkD | apply bkA)); refine blk_put (cs := #[.int .i64 0, .string (⟨#[]⟩ : ByteArray), .bool false]) ?_ 0 _ rfl; (with_reducible repeat (first | apply bkN | apply bkD | apply bkA)); exact BK171.out⟩, ⟨by repeat (first | (with_reducible first | exact HB.out | apply bwA | apply bwN | apply bwD | refine below_set ?_ GE167.out | refine below_set ?_ GE168.out | refine below_set ?_ GE171.out) | exact HB.out)⟩⟩
    case rest =>
     clear HC9
     try clear c1
     try clear p1
     try clear q1
     try clear hx1
     try clear c2
     try clear p2
     try clear c3
     try clear c6
     try clear p6
     try clear c7
     try clear c7b0
     try clear c8
     try clear c8b0
     try clear c12
     try clear c17
     try clear p17
     try clear q17
     try clear hx17
     try clear c18
     try clear c20
     try clear c20b0
     try clear c21
     try clear c22
     try clear hcz13_0
     try clear hcz13_1
     try clear hcz15_0
     try clear hcz15_1
     try clear hcz19_0
     try clear hcz19_1
     try clear hcz19_2
     try clear hcz23_0
     try clear hcz23_1
     try clear hcz23_2
     try clear hfz13_0
     try clear hfz13_1
     try clear hfz15_0
     try clear hfz15_1
     try clear hfz19_0
     try clear hfz19_1
     try clear hfz19_2
     try clear hfz23_0
     try clear hfz23_1
     try clear hfz23_2
     try clear hx170_0
     try clear hx170_1
     try clear hx170_2
     try clear p170
     try clear q170
     obtain ⟨kq, x36_8, rfl, HA, HJ8, HO_168000, BK167, BK168, BK171, HB⟩ := hcut
     cases kq with
     | zero => exact absurd HA.out (by simp [tillerref16_Turn.j0])
     | succ kj8 =>
      have H := HA.out
      clear HA
      simp only [tillerref16_Turn.j0] at H
      by_cases c24 : x36_8 = true
      ·subst c24
       have H1 : (some (l0_0, a0_1, 1)) = some (r1, r2, r3) := by rw [if_pos rfl] at H; exact H
       clear H
       have H := H1
       clear H1
       simp only [Option.some.injEq, Prod.mk.injEq] at H
       obtain ⟨rfl, rfl, rfl⟩ := H
       have hnb25 := NB167_168.out
       have hnc25 := NB168_167.out
       have hnb26 := NB167_171.out
       have hnc26 := NB171_167.out
       have hcz27_0 : wc.cell? ⟨gb167, 0, none⟩ = some (.slice (some ad170) l0_0.length c0_0) := (blk_cell BK167.out 0).trans rfl
       have hcz27_1 : wc.cell? ⟨gb167, 1, none⟩ = some (.int .i64 a0_1) := (blk_cell BK167.out 1).trans rfl
       have hfz27_0 := blk_frozen BK167.out 0
       have hfz27_1 := blk_frozen BK167.out 1
       have hnb28 := NB168_171.out
       have hnc28 := NB171_168.out
       have hcz29_0 : wc.cell? ⟨gb168, 0, none⟩ = some (.slice none 0 0) := (blk_cell BK168.out 0).trans rfl
       have hcz29_1 : wc.cell? ⟨gb168, 1, none⟩ = some (.int .i64 0) := (blk_cell BK168.out 1).trans rfl
       have hfz29_0 := blk_frozen BK168.out 0
       have hfz29_1 := blk_frozen BK168.out 1
       go_wp2
       refine bodyPost_ret (results_ct rfl _ _ gb168 47 #[.slice (some ad170) l0_0.length c0_0, .int .i64 a0_1] (0, 0) _ rfl (by (with_reducible repeat (first | apply bkN | apply bkD | apply bkA)); refine blk_put (cs := #[.slice (some ad170) l0_0.length c0_0, .int .i64 0]) ?_ 1 _ rfl; (with_reducible repeat (first | apply bkN | apply bkD | apply bkA)); refine blk_put (cs := #[.slice none 0 0, .int .i64 0]) ?_ 0 _ rfl; (with_reducible repeat (first | apply bkN | apply bkD | apply bkA)); exact BK168.out) Try.underlying47 rfl (by kernel_rfl)) rfl ?_
       exact ⟨_, by first | rfl | (simp [errW_none, errW_some] <;> rfl) | (simp [*, errW_none, errW_some] <;> rfl), by (with_reducible repeat (first | apply Kd.V_alloc | apply Kd.V_drewN | apply Kd.V_drew)); exact Kd.V_mono (Kd.V_far (p := ⟨gb168, 1, none⟩) (Kd.V_far (p := ⟨gb168, 0, none⟩) (Kd.V_mono HO_168000.out (fun k_ hk => (⟨hk, hk.2.2.1⟩ : _ ∧ k_ ≠ gb168))) (fun _ hk => hk.2) (.slice (some ad170) l0_0.length c0_0)) (fun _ hk => hk.2) (.int .i64 a0_1)) (fun _ hk => hk.1.1), by repeat (first | (with_reducible first | exact HB.out | apply bwA | apply bwN | apply bwD | refine below_set ?_ GE167.out | refine below_set ?_ GE168.out | refine below_set ?_ GE171.out) | exact HB.out)⟩
      ·replace c24 := Bool.eq_false_iff.mpr c24
       subst c24
       have H1 : (if ((rd_T53 l0_0 a1).f2) = true then (some (l0_0, a0_1, 9)) else (tillerref16_Turn.l0 kj8 a1 a2 a3 (⟨#[]⟩ : ByteArray) 0 l0_0 a0_1 ((rd_T53 l0_0 a1).f0) ((rd_T53 l0_0 a1).f1) ((rd_T53 l0_0 a1).f2))) = some (r1, r2, r3) := by rw [if_neg (show ¬ (false = true) by decide)] at H; exact H
       clear H
       have H := H1
       clear H1
       by_cases c30 : ((rd_T53 l0_0 a1).f2) = true
       ·rw [if_pos c30] at H
        have c30b0 : ((rd_T53 l0_0 a1).f2) = true := c30
        clear c30
        simp only [Option.some.injEq, Prod.mk.injEq] at H
        obtain ⟨rfl, rfl, rfl⟩ := H
        have hnb31 := NB171_167.out
        have hnc31 := NB167_171.out
        have hnb32 := NB171_168.out
        have hnc32 := NB168_171.out
        have hcz33_0 : wc.cell? ⟨gb171, 0, none⟩ = some (.int .i64 ((rd_T53 l0_0 a1).f0)) := (blk_cell BK171.out 0).trans rfl
        have hcz33_1 : wc.cell? ⟨gb171, 1, none⟩ = some (.string ((rd_T53 l0_0 a1).f1)) := (blk_cell BK171.out 1).trans rfl
        have hcz33_2 : wc.cell? ⟨gb171, 2, none⟩ = some (.bool ((rd_T53 l0_0 a1).f2)) := (blk_cell BK171.out 2).trans rfl
        have hfz33_0 := blk_frozen BK171.out 0
        have hfz33_1 := blk_frozen BK171.out 1
        have hfz33_2 := blk_frozen BK171.out 2
        have hnb34 := NB167_168.out
        have hnc34 := NB168_167.out
        have hcz35_0 : wc.cell? ⟨gb167, 0, none⟩ = some (.slice (some ad170) l0_0.length c0_0) := (blk_cell BK167.out 0).trans rfl
        have hcz35_1 : wc.cell? ⟨gb167, 1, none⟩ = some (.int .i64 a0_1) := (blk_cell BK167.out 1).trans rfl
        have hfz35_0 := blk_frozen BK167.out 0
        have hfz35_1 := blk_frozen BK167.out 1
        have hcz36_0 : wc.cell? ⟨gb168, 0, none⟩ = some (.slice none 0 0) := (blk_cell BK168.out 0).trans rfl
        have hcz36_1 : wc.cell? ⟨gb168, 1, none⟩ = some (.int .i64 0) := (blk_cell BK168.out 1).trans rfl
        have hfz36_0 := blk_frozen BK168.out 0
        have hfz36_1 := blk_frozen BK168.out 1
        go_wp2
        refine bodyPost_ret (results_ct rfl _ _ gb168 47 #[.slice (some ad170) l0_0.length c0_0, .int .i64 a0_1] (0, 0) _ rfl (by (with_reducible repeat (first | apply bkN | apply bkD | apply bkA)); refine blk_put (cs := #[.slice (some ad170) l0_0.length c0_0, .int .i64 0]) ?_ 1 _ rfl; (with_reducible repeat (first | apply bkN | apply bkD | apply bkA)); refine blk_put (cs := #[.slice none 0 0, .int .i64 0]) ?_ 0 _ rfl; (with_reducible repeat (first | apply bkN | apply bkD | apply bkA)); exact BK168.out) Try.underlying47 rfl (by kernel_rfl)) rfl ?_
        exact ⟨_, by first | rfl | (simp [errW_none, errW_some] <;> rfl) | (simp [*, errW_none, errW_some] <;> rfl), by (with_reducible repeat (first | apply Kd.V_alloc | apply Kd.V_drewN | apply Kd.V_drew)); exact Kd.V_mono (Kd.V_far (p := ⟨gb168, 1, none⟩) (Kd.V_far (p := ⟨gb168, 0, none⟩) (Kd.V_mono HO_168000.out (fun k_ hk => (⟨hk, hk.2.2.1⟩ : _ ∧ k_ ≠ gb168))) (fun _ hk => hk.2) (.slice (some ad170) l0_0.length c0_0)) (fun _ hk => hk.2) (.int .i64 a0_1)) (fun _ hk => hk.1.1), by repeat (first | (with_reducible first | exact HB.out | apply bwA | apply bwN | apply bwD | refine below_set ?_ GE167.out | refine below_set ?_ GE168.out | refine below_set ?_ GE171.out) | exact HB.out)⟩
       ·rw [if_neg c30] at H
        have c30b0 : ((rd_T53 l0_0 a1).f2) = false := by simpa using c30
        clear c30
        have H' := Aside0.mk H
        clear H
        have hnb37 := NB171_167.out
        have hnc37 := NB167_171.out
        have hnb38 := NB171_168.out
        have hnc38 := NB168_171.out
        have hcz39_0 : wc.cell? ⟨gb171, 0, none⟩ = some (.int .i64 ((rd_T53 l0_0 a1).f0)) := (blk_cell BK171.out 0).trans rfl
        have hcz39_1 : wc.cell? ⟨gb171, 1, none⟩ = some (.string ((rd_T53 l0_0 a1).f1)) := (blk_cell BK171.out 1).trans rfl
        have hcz39_2 : wc.cell? ⟨gb171, 2, none⟩ = some (.bool ((rd_T53 l0_0 a1).f2)) := (blk_cell BK171.out 2).trans rfl
        have hfz39_0 := blk_frozen BK171.out 0
        have hfz39_1 := blk_frozen BK171.out 1
        have hfz39_2 := blk_frozen BK171.out 2
        go_wp2
        go_loopg [11, 12] kj8 (fun kq v11 v12 w' => ∃ (x11_2 : ByteArray) (x12_2 : Int), v11 = .string x11_2 ∧ v12 = .int .i64 x12_2 ∧ Aside0 (tillerref16_Turn.l0 kq a1 a2 a3 x11_2 x12_2 l0_0 a0_1 ((rd_T53 l0_0 a1).f0) ((rd_T53 l0_0 a1).f1) ((rd_T53 l0_0 a1).f2) = some (r1, r2, r3)) ∧ Aside0 (kq ≤ kj8) ∧ Aside0 (Kd.V k53 53 w' w.heap.size (fun k_ => (P0_0_ k_ ∨ w.heap.size ≤ k_) ∧ k_ ≠ gb167 ∧ k_ ≠ gb168 ∧ k_ ≠ gb171) (.slice (some ad170) l0_0.length c0_0) l0_0) ∧ Aside0 (w'.heap[gb167]? = some (.cells #[(.slice (some ad170) l0_0.length c0_0), .int .i64 a0_1] 47 (0, 0))) ∧ Aside0 (w'.heap[gb168]? = some (.cells #[(.slice none 0 0), .int .i64 0] 47 (0, 0))) ∧ Aside0 (w'.heap[gb171]? = some (.cells #[.int .i64 ((rd_T53 l0_0 a1).f0), .string ((rd_T53 l0_0 a1).f1), .bool ((rd_T53 l0_0 a1).f2)] 53 (0, 0))) ∧ Aside0 (Below w.heap.size w w'))
        case atStart => exact ⟨((⟨#[]⟩ : ByteArray)), (0), (by first | rfl | (simp; done) | (simp [*]; done)), (by first | rfl | (simp; done) | (simp [*]; done)), H', ⟨Nat.le_refl _⟩, ⟨by (with_reducible repeat (first | apply Kd.V_alloc | apply Kd.V_drewN | apply Kd.V_drew)); exact HO_168000.out⟩, ⟨by (with_reducible repeat (first | apply bkN | apply bkD | apply bkA)); exact BK167.out⟩, ⟨by (with_reducible repeat (first | apply bkN | apply bkD | apply bkA)); exact BK168.out⟩, ⟨by (with_reducible repeat (first | apply bkN | apply bkD | apply bkA)); exact BK171.out⟩, ⟨by repeat (first | (with_reducible first | exact HB.out | apply bwA | apply bwN | apply bwD | refine below_set ?_ GE167.out | refine below_set ?_ GE168.out | refine below_set ?_ GE171.out) | exact HB.out)⟩⟩
        case round =>
         clear H'
         try clear c1
         try clear p1
         try clear q1
         try clear hx1
         try clear c2
         try clear p2
         try clear c3
         try clear c6
         try clear p6
         try clear c7
         try clear c7b0
         try clear c8
         try clear c8b0
         try clear c12
         try clear c17
         try clear p17
         try clear q17
         try clear hx17
         try clear c18
         try clear c20
         try clear c20b0
         try clear c21
         try clear c22
         try clear c24
         try clear c25
         try clear c26
         try clear c27
         try clear c28
         try clear c30
         try clear c30b0
         try clear c31
         try clear c32
         try clear c34
         try clear c37
         try clear c38
         try clear hcz13_0
         try clear hcz13_1
         try clear hcz15_0
         try clear hcz15_1
         try clear hcz19_0
         try clear hcz19_1
         try clear hcz19_2
         try clear hcz23_0
         try clear hcz23_1
         try clear hcz23_2
         try clear hcz27_0
         try clear hcz27_1
         try clear hcz29_0
         try clear hcz29_1
         try clear hcz33_0
         try clear hcz33_1
         try clear hcz33_2
         try clear hcz35_0
         try clear hcz35_1
         try clear hcz36_0
         try clear hcz36_1
         try clear hcz39_0
         try clear hcz39_1
         try clear hcz39_2
         try clear hfz13_0
         try clear hfz13_1
         try clear hfz15_0
         try clear hfz15_1
         try clear hfz19_0
         try clear hfz19_1
         try clear hfz19_2
         try clear hfz23_0
         try clear hfz23_1
         try clear hfz23_2
         try clear hfz27_0
         try clear hfz27_1
         try clear hfz29_0
         try clear hfz29_1
         try clear hfz33_0
         try clear hfz33_1
         try clear hfz33_2
         try clear hfz35_0
         try clear hfz35_1
         try clear hfz36_0
         try clear hfz36_1
         try clear hfz39_0
         try clear hfz39_1
         try clear hfz39_2
         try clear hx170_0
         try clear hx170_1
         try clear hx170_2
         try clear p1
         try clear p17
         try clear p170
         try clear p2
         try clear p6
         try clear q1
         try clear q17
         try clear q170
         obtain ⟨x11_2, x12_2, rfl, rfl, HA, HK2, HO_168000, BK167, BK168, BK171, HB⟩ := hrel
         cases gk with
         | zero => exact absurd HA.out (by simp [tillerref16_Turn.l0])
         | succ k2 =>
          have H := HA.out
          clear HA
          simp only [tillerref16_Turn.l0] at H
          by_cases c40 : x12_2 < (((rd_T53 l0_0 a1).f1).size : Int)
          ·rw [if_pos c40] at H
           have c40b0 : decide (x12_2 < (((rd_T53 l0_0 a1).f1).size : Int)) = true := decide_eq_true c40
           clear c40
           by_cases c41 : 0 ≤ x12_2
           ·rw [if_pos c41] at H
            have c41b0 : decide (0 ≤ x12_2) = true := decide_eq_true c41
            clear c41
            have H' := Aside0.mk H
            clear H
            have hnb43 := NB171_167.out
            have hnc43 := NB167_171.out
            have hnb44 := NB171_168.out
            have hnc44 := NB168_171.out
            have hcz45_0 : wr.cell? ⟨gb171, 0, none⟩ = some (.int .i64 ((rd_T53 l0_0 a1).f0)) := (blk_cell BK171.out 0).trans rfl
            have hcz45_1 : wr.cell? ⟨gb171, 1, none⟩ = some (.string ((rd_T53 l0_0 a1).f1)) := (blk_cell BK171.out 1).trans rfl
            have hcz45_2 : wr.cell? ⟨gb171, 2, none⟩ = some (.bool ((rd_T53 l0_0 a1).f2)) := (blk_cell BK171.out 2).trans rfl
            have hfz45_0 := blk_frozen BK171.out 0
            have hfz45_1 := blk_frozen BK171.out 1
            have hfz45_2 := blk_frozen BK171.out 2
            have p42 : 0 ≤ (x12_2 : Int) := ofd_
            have q42 : x12_2 < (((rd_T53 l0_0 a1).f1).size : Int) := ofd_
            have hx42 := bt_at ((rd_T53 l0_0 a1).f1) x12_2
            replace p42 := eq_true p42
            replace q42 := eq_true q42
            go_wp2
            go_loopg [13, 14] k2 (fun kq v13 v14 w' => ∃ (x13_3 : Int) (x14_3 : Int), v13 = .int .u8 x13_3 ∧ v14 = .int .i64 x14_3 ∧ Aside0 (tillerref16_Turn.l1 kq a1 a2 a3 x11_2 x12_2 x13_3 x14_3 l0_0 a0_1 ((rd_T53 l0_0 a1).f0) ((rd_T53 l0_0 a1).f1) ((rd_T53 l0_0 a1).f2) = some (r1, r2, r3)) ∧ Aside0 (kq ≤ k2) ∧ Aside0 (Kd.V k53 53 w' w.heap.size (fun k_ => (P0_0_ k_ ∨ w.heap.size ≤ k_) ∧ k_ ≠ gb167 ∧ k_ ≠ gb168 ∧ k_ ≠ gb171) (.slice (some ad170) l0_0.length c0_0) l0_0) ∧ Aside0 (w'.heap[gb167]? = some (.cells #[(.slice (some ad170) l0_0.length c0_0), .int .i64 a0_1] 47 (0, 0))) ∧ Aside0 (w'.heap[gb168]? = some (.cells #[(.slice none 0 0), .int .i64 0] 47 (0, 0))) ∧ Aside0 (w'.heap[gb171]? = some (.cells #[.int .i64 ((rd_T53 l0_0 a1).f0), .string ((rd_T53 l0_0 a1).f1), .bool ((rd_T53 l0_0 a1).f2)] 53 (0, 0))) ∧ Aside0 (Below w.heap.size w w'))
            case atStart => exact ⟨(bt ((rd_T53 l0_0 a1).f1) x12_2), (0), (by first | rfl | (simp; done) | (simp [*]; done)), (by first | rfl | (simp; done) | (simp [*]; done)), H', ⟨Nat.le_refl _⟩, ⟨by (with_reducible repeat (first | apply Kd.V_alloc | apply Kd.V_drewN | apply Kd.V_drew)); exact HO_168000.out⟩, ⟨by (with_reducible repeat (first | apply bkN | apply bkD | apply bkA)); exact BK167.out⟩, ⟨by (with_reducible repeat (first | apply bkN | apply bkD | apply bkA)); exact BK168.out⟩, ⟨by (with_reducible repeat (first | apply bkN | apply bkD | apply bkA)); exact BK171.out⟩, ⟨by repeat (first | (with_reducible first | exact HB.out | apply bwA | apply bwN | apply bwD | refine below_set ?_ GE167.out | refine below_set ?_ GE168.out | refine below_set ?_ GE171.out) | exact HB.out)⟩⟩
            case round =>
             clear H'
             try clear c1
             try clear p1
             try clear q1
             try clear hx1
             try clear c2
             try clear p2
             try clear c3
             try clear c4
             try clear p4
             try clear q4
             try clear hx4
             try clear c6
             try clear p6
             try clear c7
             try clear c7b0
             try clear c8
             try clear c8b0
             try clear c12
             try clear c17
             try clear p17
             try clear q17
             try clear hx17
             try clear c18
             try clear c20
             try clear c20b0
             try clear c21
             try clear c22
             try clear c24
             try clear c25
             try clear c26
             try clear c27
             try clear c28
             try clear c30
             try clear c30b0
             try clear c31
             try clear c32
             try clear c34
             try clear c37
             try clear c38
             try clear c40
             try clear c40b0
             try clear c41
             try clear c41b0
             try clear p42
             try clear q42
             try clear hx42
             try clear c43
             try clear c44
             try clear hcz13_0
             try clear hcz13_1
             try clear hcz15_0
             try clear hcz15_1
             try clear hcz19_0
             try clear hcz19_1
             try clear hcz19_2
             try clear hcz23_0
             try clear hcz23_1
             try clear hcz23_2
             try clear hcz27_0
             try clear hcz27_1
             try clear hcz29_0
             try clear hcz29_1
             try clear hcz33_0
             try clear hcz33_1
             try clear hcz33_2
             try clear hcz35_0
             try clear hcz35_1
             try clear hcz36_0
             try clear hcz36_1
             try clear hcz39_0
             try clear hcz39_1
             try clear hcz39_2
             try clear hcz45_0
             try clear hcz45_1
             try clear hcz45_2
             try clear hfz13_0
             try clear hfz13_1
             try clear hfz15_0
             try clear hfz15_1
             try clear hfz19_0
             try clear hfz19_1
             try clear hfz19_2
             try clear hfz23_0
             try clear hfz23_1
             try clear hfz23_2
             try clear hfz27_0
             try clear hfz27_1
             try clear hfz29_0
             try clear hfz29_1
             try clear hfz33_0
             try clear hfz33_1
             try clear hfz33_2
             try clear hfz35_0
             try clear hfz35_1
             try clear hfz36_0
             try clear hfz36_1
             try clear hfz39_0
             try clear hfz39_1
             try clear hfz39_2
             try clear hfz45_0
             try clear hfz45_1
             try clear hfz45_2
             try clear hx170_0
             try clear hx170_1
             try clear hx170_2
             try clear p1
             try clear p17
             try clear p170
             try clear p2
             try clear p42
             try clear p6
             try clear q1
             try clear q17
             try clear q170
             try clear q42
             obtain ⟨x13_3, x14_3, rfl, rfl, HA, HK3, HO_168000, BK167, BK168, BK171, HB⟩ := hrel
             cases gk with
             | zero => exact absurd HA.out (by simp [tillerref16_Turn.l1])
             | succ k3 =>
              have H := HA.out
              clear HA
              simp only [tillerref16_Turn.l1] at H
              by_cases c46 : x14_3 < 8
              ·rw [if_pos c46] at H
               have c46b0 : decide (x14_3 < 8) = true := decide_eq_true c46
               clear c46
               by_cases c47 : (wrap64 ((wrap64 ((wrap64 (8 * x12_2)) + x14_3)) - a2)) ≥ 0
               ·rw [if_pos c47] at H
                have c47b0 : decide (0 ≤ (wrap64 ((wrap64 ((wrap64 (8 * x12_2)) + x14_3)) - a2))) = true := decide_eq_true c47
                clear c47
                by_cases c48 : (wrap64 ((wrap64 ((wrap64 (8 * x12_2)) + x14_3)) - a2)) < 32
                ·rw [if_pos c48] at H
                 have c48b0 : decide ((wrap64 ((wrap64 ((wrap64 (8 * x12_2)) + x14_3)) - a2)) < 32) = true := decide_eq_true c48
                 clear c48
                 obtain ⟨ji49, hji49⟩ : ∃ j_ : Int, (wrap64 ((wrap64 ((wrap64 (8 * x12_2)) + x14_3)) - a2)) = j_ := ⟨_, rfl⟩
                 replace H : (if 0 ≤ (ji49) then (if (Int.tmod (shr .u32 a3 (ji49)) 2) = 1 then (if 0 ≤ x14_3 then (tillerref16_Turn.l1 k3 a1 a2 a3 x11_2 x12_2 (Go.bits .xor .u8 x13_3 (shl .u8 1 x14_3)) (wrap64 (x14_3 + 1)) l0_0 a0_1 ((rd_T53 l0_0 a1).f0) ((rd_T53 l0_0 a1).f1) ((rd_T53 l0_0 a1).f2)) else (none)) else (tillerref16_Turn.l1 k3 a1 a2 a3 x11_2 x12_2 x13_3 (wrap64 (x14_3 + 1)) l0_0 a0_1 ((rd_T53 l0_0 a1).f0) ((rd_T53 l0_0 a1).f1) ((rd_T53 l0_0 a1).f2))) else (none)) = some (r1, r2, r3) := by first | (rw [hji49] at H; exact H) | (simp only [hji49] at H ⊢; exact H)
                 (try rw [hji49] at c47b0)
                 (try rw [hji49] at c48b0)
                 have hji49w : (IntKind.i64.wrap ((wrap64 ((wrap64 (8 * x12_2)) + x14_3)) - a2)) = ji49 := (i64_w _).trans hji49
                 by_cases c50 : 0 ≤ (ji49)
                 ·rw [if_pos c50] at H
                  have c50b0 := eq_true c50
                  have c50b1 : decide (0 ≤ (ji49)) = true := decide_eq_true c50
                  clear c50
                  obtain ⟨ji51, hji51⟩ : ∃ j_ : Int, (shr .u32 a3 (ji49)) = j_ := ⟨_, rfl⟩
                  replace H : (if (Int.tmod (ji51) 2) = 1 then (if 0 ≤ x14_3 then (tillerref16_Turn.l1 k3 a1 a2 a3 x11_2 x12_2 (Go.bits .xor .u8 x13_3 (shl .u8 1 x14_3)) (wrap64 (x14_3 + 1)) l0_0 a0_1 ((rd_T53 l0_0 a1).f0) ((rd_T53 l0_0 a1).f1) ((rd_T53 l0_0 a1).f2)) else (none)) else (tillerref16_Turn.l1 k3 a1 a2 a3 x11_2 x12_2 x13_3 (wrap64 (x14_3 + 1)) l0_0 a0_1 ((rd_T53 l0_0 a1).f0) ((rd_T53 l0_0 a1).f1) ((rd_T53 l0_0 a1).f2))) = some (r1, r2, r3) := by first | (rw [hji51] at H; exact H) | (simp only [hji51] at H ⊢; exact H)
                  have hji51_ : (a3 / 2 ^ min (ji49).toNat 32) = ji51 := hji51
                  have hji51z : (ji49) ≤ 32 → (a3 / 2 ^ (ji49).toNat) = ji51 := shr_small hji51
                  by_cases c52 : (Int.tmod (ji51) 2) = 1
                  ·rw [if_pos c52] at H
                   have c52b0 : ((Int.tmod (ji51) 2) == 1) = true := beq_iff_eq.mpr c52
                   have c52b1 : ((Int.tmod (ji51) 2) != 1) = false := bne_eq_false_iff_eq.mpr c52
                   clear c52
                   by_cases c53 : 0 ≤ x14_3
                   ·rw [if_pos c53] at H
                    have c53b0 := eq_true c53
                    have c53b1 : decide (0 ≤ x14_3) = true := decide_eq_true c53
                    clear c53
                    obtain ⟨ji54, hji54⟩ : ∃ j_ : Int, (shl .u8 1 x14_3) = j_ := ⟨_, rfl⟩
                    replace H : (tillerref16_Turn.l1 k3 a1 a2 a3 x11_2 x12_2 (Go.bits .xor .u8 x13_3 (ji54)) (wrap64 (x14_3 + 1)) l0_0 a0_1 ((rd_T53 l0_0 a1).f0) ((rd_T53 l0_0 a1).f1) ((rd_T53 l0_0 a1).f2)) = some (r1, r2, r3) := by first | (rw [hji54] at H; exact H) | (simp only [hji54] at H ⊢; exact H)
                    have hji54_ : (IntKind.u8.wrap (1 * 2 ^ min x14_3.toNat 8)) = ji54 := hji54
                    have hji54z : x14_3 ≤ 8 → (IntKind.u8.wrap (1 * 2 ^ x14_3.toNat)) = ji54 := shl_small hji54
                    have hji54u : (IntKind.u8.wrap (2 ^ min x14_3.toNat 8)) = ji54 := by have h_ := hji54_; rw [Int.one_mul] at h_; exact h_
                    have hji54v : x14_3 ≤ 8 → (IntKind.u8.wrap (2 ^ x14_3.toNat)) = ji54 := fun hle_ => by have h_ := hji54z hle_; rw [Int.one_mul] at h_; exact h_
                    have H' := Aside0.mk H
                    clear H
                    go_wp2
                    go_roundg k3
                    case measure => have := HJ8.out; have := HK2.out; have := HK3.out; omega
                    case rel => exact ⟨(Go.bits .xor .u8 x13_3 (ji54)), (wrap64 (x14_3 + 1)), (by first | rfl | (simp; done) | (simp only [← hji54] <;> (first | rfl | simp)) | (simp [*]; done)), (by first | rfl | (simp; done) | (simp [*]; done)), H', ⟨by have := HJ8.out; have := HK2.out; have := HK3.out; omega⟩, ⟨by (with_reducible repeat (first | apply Kd.V_alloc | apply Kd.V_drewN | apply Kd.V_drew)); exact HO_168000.out⟩, ⟨by (with_reducible repeat (first | apply bkN | apply bkD | apply bkA)); exact BK167.out⟩, ⟨by (with_reducible repeat (first | apply bkN | apply bkD | apply bkA)); exact BK168.out⟩, ⟨by (with_reducible repeat (first | apply bkN | apply bkD | apply bkA)); exact BK171.out⟩, ⟨by repeat (first | (with_reducible first | exact HB.out | apply bwA | apply bwN | apply bwD | refine below_set ?_ GE167.out | refine below_set ?_ GE168.out | refine below_set ?_ GE171.out) | exact HB.out)⟩⟩
                   ·rw [if_neg c53] at H
                    exact absurd H (by simp)
                  ·rw [if_neg c52] at H
                   have c52b0 : ((Int.tmod (ji51) 2) == 1) = false := beq_eq_false_iff_ne.mpr c52
                   have c52b1 : ((Int.tmod (ji51) 2) != 1) = true := bne_iff_ne.mpr c52
                   have H' := Aside0.mk H
                   clear H
                   go_wp2
                   go_roundg k3
                   case measure => have := HJ8.out; have := HK2.out; have := HK3.out; omega
                   case rel => exact ⟨(x13_3), (wrap64 (x14_3 + 1)), (by first | rfl | (simp; done) | (simp [*]; done)), (by first | rfl | (simp; done) | (simp [*]; done)), H', ⟨by have := HJ8.out; have := HK2.out; have := HK3.out; omega⟩, ⟨by (with_reducible repeat (first | apply Kd.V_alloc | apply Kd.V_drewN | apply Kd.V_drew)); exact HO_168000.out⟩, ⟨by (with_reducible repeat (first | apply bkN | apply bkD | apply bkA)); exact BK167.out⟩, ⟨by (with_reducible repeat (first | apply bkN | apply bkD | apply bkA)); exact BK168.out⟩, ⟨by (with_reducible repeat (first | apply bkN | apply bkD | apply bkA)); exact BK171.out⟩, ⟨by repeat (first | (with_reducible first | exact HB.out | apply bwA | apply bwN | apply bwD | refine below_set ?_ GE167.out | refine below_set ?_ GE168.out | refine below_set ?_ GE171.out) | exact HB.out)⟩⟩
                 ·rw [if_neg c50] at H
                  exact absurd H (by simp)
                ·rw [if_neg c48] at H
                 have c48b0 : decide ((wrap64 ((wrap64 ((wrap64 (8 * x12_2)) + x14_3)) - a2)) < 32) = false := decide_eq_false c48
                 clear c48
                 have H' := Aside0.mk H
                 clear H
                 go_wp2
                 go_roundg k3
                 case measure => have := HJ8.out; have := HK2.out; have := HK3.out; omega
                 case rel => exact ⟨(x13_3), (wrap64 (x14_3 + 1)), (by first | rfl | (simp; done) | (simp [*]; done)), (by first | rfl | (simp; done) | (simp [*]; done)), H', ⟨by have := HJ8.out; have := HK2.out; have := HK3.out; omega⟩, ⟨by (with_reducible repeat (first | apply Kd.V_alloc | apply Kd.V_drewN | apply Kd.V_drew)); exact HO_168000.out⟩, ⟨by (with_reducible repeat (first | apply bkN | apply bkD | apply bkA)); exact BK167.out⟩, ⟨by (with_reducible repeat (first | apply bkN | apply bkD | apply bkA)); exact BK168.out⟩, ⟨by (with_reducible repeat (first | apply bkN | apply bkD | apply bkA)); exact BK171.out⟩, ⟨by repeat (first | (with_reducible first | exact HB.out | apply bwA | apply bwN | apply bwD | refine below_set ?_ GE167.out | refine below_set ?_ GE168.out | refine below_set ?_ GE171.out) | exact HB.out)⟩⟩
               ·rw [if_neg c47] at H
                have c47b0 : decide (0 ≤ (wrap64 ((wrap64 ((wrap64 (8 * x12_2)) + x14_3)) - a2))) = false := decide_eq_false c47
                clear c47
                have H' := Aside0.mk H
                clear H
                go_wp2
                go_roundg k3
                case measure => have := HJ8.out; have := HK2.out; have := HK3.out; omega
                case rel => exact ⟨(x13_3), (wrap64 (x14_3 + 1)), (by first | rfl | (simp; done) | (simp [*]; done)), (by first | rfl | (simp; done) | (simp [*]; done)), H', ⟨by have := HJ8.out; have := HK2.out; have := HK3.out; omega⟩, ⟨by (with_reducible repeat (first | apply Kd.V_alloc | apply Kd.V_drewN | apply Kd.V_drew)); exact HO_168000.out⟩, ⟨by (with_reducible repeat (first | apply bkN | apply bkD | apply bkA)); exact BK167.out⟩, ⟨by (with_reducible repeat (first | apply bkN | apply bkD | apply bkA)); exact BK168.out⟩, ⟨by (with_reducible repeat (first | apply bkN | apply bkD | apply bkA)); exact BK171.out⟩, ⟨by repeat (first | (with_reducible first | exact HB.out | apply bwA | apply bwN | apply bwD | refine below_set ?_ GE167.out | refine below_set ?_ GE168.out | refine below_set ?_ GE171.out) | exact HB.out)⟩⟩
              ·rw [if_neg c46] at H
               have c46b0 : decide (x14_3 < 8) = false := decide_eq_false c46
               clear c46
               obtain ⟨y179, hy179⟩ : ∃ y_ : List Int, y_ = (([x13_3] : List Int)) := ⟨_, rfl⟩
               replace H : (if x11_2.size + (strOfNums y179).size ≤ 9223372036854775807 then (tillerref16_Turn.l0 k3 a1 a2 a3 (x11_2 ++ (strOfNums y179)) (wrap64 (x12_2 + 1)) l0_0 a0_1 ((rd_T53 l0_0 a1).f0) ((rd_T53 l0_0 a1).f1) ((rd_T53 l0_0 a1).f2)) else (none)) = some (r1, r2, r3) := by first | (rw [hy179]; with_reducible exact H) | (have H2_ := (Option.bind_some _ _).symm.trans H; rw [hy179]; with_reducible exact H2_) | (have H2_ := (Option.bind_some _ _).symm.trans H; with_reducible exact H2_) | with_reducible exact H | (rw [hy179]; exact H) | exact H
               have Ny179 := Aside0.mk hy179
               clear hy179
               by_cases c55 : x11_2.size + (strOfNums y179).size ≤ 9223372036854775807
               ·rw [if_pos c55] at H
                have c55b0 := eq_true c55
                have c55b1 : decide (x11_2.size + (strOfNums y179).size ≤ 9223372036854775807) = true := decide_eq_true c55
                try have c55b2 : (9223372036854775807 < x11_2.size + (strOfNums y179).size) = False := eq_false (Nat.not_lt.2 c55)
                have H' := Aside0.mk H
                clear H
                go_wp2_with (first | ((with_reducible refine gate_dst (N := 81) rfl ?_); (try (refine gate_guard (by rfl) ?_; dsimp only)); refine Kd.R_lit (Kd.int .u8) _ 5 ?hg (N := 81) ?hd (xs := ([x13_3] : List Int)) (inner := [.int .u8 x13_3]) (ok := fun _ => True) (okp := fun _ => True) ?hr ?hp (fun _ hk => hk) trivial (Below.refl _ _) (Nat.le_refl _) (by simp) ?_; (case hd => rfl); (case hg => rfl); (case hr => first | (go_simp; done) | (go_simp; rfl)); (case hp => exact (Reps.one (show Kd.M (Kd.int .u8) _ _ _ x13_3 [.int .u8 x13_3] from rfl) (Reps.none _ _))); intro v180 w56 ho57 hb hg_ hnew_; clear hg_ hnew_; (first | rw [← Ny179.out] at ho57 | (simp only [Int.reduceToNat] at ho57; rw [← Ny179.out] at ho57)); have n0_ := Aside0.mk (Kd.V_elder' (by (with_reducible repeat (first | apply Kd.V_alloc | apply Kd.V_drewN | apply Kd.V_drew)); exact HO_168000.out) (Kd.R_base ho57) hb); have n1_ := Aside0.mk (Kd.R_lower (Kd.R_newM (M := fun k_ => (w.heap.size ≤ k_)) ho57 (below_size (by repeat (first | (with_reducible first | exact HB.out | apply bwA | apply bwN | apply bwD | refine below_set ?_ GE167.out | refine below_set ?_ GE168.out | refine below_set ?_ GE171.out) | exact HB.out))) (fun k_ h_ => h_)) (below_size (by repeat (first | (with_reducible first | exact HB.out | apply bwA | apply bwN | apply bwD | refine below_set ?_ GE167.out | refine below_set ?_ GE168.out | refine below_set ?_ GE171.out) | exact HB.out)))); have n2_ := Aside0.mk (blk_below (g := gb167) (o := .cells #[.slice (some ad170) l0_0.length c0_0, .int .i64 a0_1] 47 (0, 0)) (by (with_reducible repeat (first | apply bkN | apply bkD | apply bkA)); exact BK167.out) hb); have n3_ := Aside0.mk (blk_below (g := gb168) (o := .cells #[.slice none 0 0, .int .i64 0] 47 (0, 0)) (by (with_reducible repeat (first | apply bkN | apply bkD | apply bkA)); exact BK168.out) hb); have n4_ := Aside0.mk (blk_below (g := gb171) (o := .cells #[.int .i64 ((rd_T53 l0_0 a1).f0), .string ((rd_T53 l0_0 a1).f1), .bool ((rd_T53 l0_0 a1).f2)] 53 (0, 0)) (by (with_reducible repeat (first | apply bkN | apply bkD | apply bkA)); exact BK171.out) hb); have n5_ := Aside0.mk (below_step (by repeat (first | (with_reducible first | exact HB.out | apply bwA | apply bwN | apply bwD | refine below_set ?_ GE167.out | refine below_set ?_ GE168.out | refine below_set ?_ GE171.out) | exact HB.out)) hb); clear HO_168000; clear BK167; clear BK168; clear BK171; clear HB; have HO_168000 := n0_; have HO181 := n1_; have BK167 := n2_; have BK168 := n3_; have BK171 := n4_; have HB := n5_; clear n0_ n1_ n2_ n3_ n4_ n5_; clear hb ho57; have hcv58 := own_string (P := Try.prog) Try.underlying28 Try.underlying5 Try.underlying9 (Kd.own_of_R HO181.out)))
                go_roundg k3
                case measure => have := HJ8.out; have := HK2.out; have := HK3.out; omega
                case rel => exact ⟨(x11_2 ++ (strOfNums y179)), (wrap64 (x12_2 + 1)), (by first | rfl | (simp; done) | (simp [*]; done)), (by first | rfl | (simp; done) | (simp [*]; done)), H', ⟨by have := HJ8.out; have := HK2.out; have := HK3.out; omega⟩, ⟨by (with_reducible repeat (first | apply Kd.V_alloc | apply Kd.V_drewN | apply Kd.V_drew)); exact Kd.V_mono HO_168000.out (fun _ hk => ⟨hk.1.1, ⟨hk.1.2.1, ⟨hk.1.2.2.1, hk.1.2.2.2⟩⟩⟩)⟩, ⟨by (with_reducible repeat (first | apply bkN | apply bkD | apply bkA)); exact BK167.out⟩, ⟨by (with_reducible repeat (first | apply bkN | apply bkD | apply bkA)); exact BK168.out⟩, ⟨by (with_reducible repeat (first | apply bkN | apply bkD | apply bkA)); exact BK171.out⟩, ⟨by repeat (first | (with_reducible first | exact HB.out | apply bwA | apply bwN | apply bwD | refine below_set ?_ GE167.out | refine below_set ?_ GE168.out | refine below_set ?_ GE171.out) | exact HB.out)⟩⟩
               ·rw [if_neg c55] at H
                exact absurd H (by simp)
           ·rw [if_neg c41] at H
            exact absurd H (by simp)
          ·rw [if_neg c40] at H
           have c40b0 : decide (x12_2 < (((rd_T53 l0_0 a1).f1).size : Int)) = false := decide_eq_false c40
           clear c40
           obtain ⟨y172, hy172⟩ : ∃ y_ : List (S53), y_ = (([] : List (S53))) := ⟨_, rfl⟩
           replace H : (if y172.length + l0_0.length < 4398046511104 then ((some (y172 ++ l0_0 : List (S53))).bind fun y175 => (if 0 ≤ a1 then (if a1 < (y175.length : Int) then (some ((y175.set (a1 : Int).toNat (⟨((rd_T53 l0_0 a1).f0), x11_2, true⟩ : S53)), a0_1, 0)) else (none)) else (none))) else (none)) = some (r1, r2, r3) := by first | (rw [hy172]; with_reducible exact H) | (have H2_ := (Option.bind_some _ _).symm.trans H; rw [hy172]; with_reducible exact H2_) | (have H2_ := (Option.bind_some _ _).symm.trans H; with_reducible exact H2_) | with_reducible exact H | (rw [hy172]; exact H) | exact H
           have Ny172 := Aside0.mk hy172
           clear hy172
           by_cases c59 : y172.length + l0_0.length < 4398046511104
           ·rw [if_pos c59] at H
            have LMc59 := Aside0.mk c59
            clear c59
            obtain ⟨y175, hy175⟩ : ∃ y_ : List (S53), y_ = (y172 ++ l0_0) := ⟨_, rfl⟩
            replace H : (if 0 ≤ a1 then (if a1 < (y175.length : Int) then (some ((y175.set (a1 : Int).toNat (⟨((rd_T53 l0_0 a1).f0), x11_2, true⟩ : S53)), a0_1, 0)) else (none)) else (none)) = some (r1, r2, r3) := by first | (rw [hy175]; with_reducible exact H) | (have H2_ := (Option.bind_some _ _).symm.trans H; rw [hy175]; with_reducible exact H2_) | (have H2_ := (Option.bind_some _ _).symm.trans H; with_reducible exact H2_) | with_reducible exact H | (rw [hy175]; exact H) | exact H
            have Ny175 := Aside0.mk hy175
            clear hy175
            by_cases c60 : 0 ≤ a1
            ·rw [if_pos c60] at H
             have c60b0 : decide (0 ≤ a1) = true := decide_eq_true c60
             clear c60
             by_cases c61 : a1 < (y175.length : Int)
             ·rw [if_pos c61] at H
              have c61b0 : decide (a1 < (y175.length : Int)) = true := decide_eq_true c61
              clear c61
              obtain ⟨y178, hy178⟩ : ∃ y_ : List (S53), y_ = (y175.set (a1 : Int).toNat (⟨((rd_T53 l0_0 a1).f0), x11_2, true⟩ : S53)) := ⟨_, rfl⟩
              replace H : (some (y178, a0_1, 0)) = some (r1, r2, r3) := by first | (rw [hy178]; with_reducible exact H) | (have H2_ := (Option.bind_some _ _).symm.trans H; rw [hy178]; with_reducible exact H2_) | (have H2_ := (Option.bind_some _ _).symm.trans H; with_reducible exact H2_) | with_reducible exact H | (rw [hy178]; exact H) | exact H
              have Ny178 := Aside0.mk hy178
              clear hy178
              simp only [Option.some.injEq, Prod.mk.injEq] at H
              obtain ⟨rfl, rfl, rfl⟩ := H
              have hnb63 := NB171_167.out
              have hnc63 := NB167_171.out
              have hnb64 := NB171_168.out
              have hnc64 := NB168_171.out
              have hcz65_0 : wr.cell? ⟨gb171, 0, none⟩ = some (.int .i64 ((rd_T53 l0_0 a1).f0)) := (blk_cell BK171.out 0).trans rfl
              have hcz65_1 : wr.cell? ⟨gb171, 1, none⟩ = some (.string ((rd_T53 l0_0 a1).f1)) := (blk_cell BK171.out 1).trans rfl
              have hcz65_2 : wr.cell? ⟨gb171, 2, none⟩ = some (.bool ((rd_T53 l0_0 a1).f2)) := (blk_cell BK171.out 2).trans rfl
              have hfz65_0 := blk_frozen BK171.out 0
              have hfz65_1 := blk_frozen BK171.out 1
              have hfz65_2 := blk_frozen BK171.out 2
              go_wp2_with (first | ((with_reducible refine gate_dst (N := 84) rfl ?_); (try (refine gate_guard (by rfl) ?_; dsimp only)); refine Kd.R_lit k53 _ 53 ?hg (N := 84) ?hd (xs := ([] : List (S53))) (inner := []) (ok := fun _ => True) (okp := fun _ => True) ?hr ?hp (fun _ hk => hk) trivial (Below.refl _ _) (Nat.le_refl _) (by simp) ?_; (case hd => rfl); (case hg => rfl); (case hr => first | (go_simp; done) | (go_simp; rfl)); (case hp => exact (Reps.none _ _)); intro v173 w66 ho67 hb hg_ hnew_; clear hg_ hnew_; (first | rw [← Ny172.out] at ho67 | (simp only [Int.reduceToNat] at ho67; rw [← Ny172.out] at ho67)); have n0_ := Aside0.mk (Kd.V_elder' (by (with_reducible repeat (first | apply Kd.V_alloc | apply Kd.V_drewN | apply Kd.V_drew)); exact HO_168000.out) (Kd.R_base ho67) hb); have n1_ := Aside0.mk (Kd.R_lower (Kd.R_newB (Kd.R_newM (M := fun k_ => (w.heap.size ≤ k_)) ho67 (below_size (by repeat (first | (with_reducible first | exact HB.out | apply bwA | apply bwN | apply bwD | refine below_set ?_ GE167.out | refine below_set ?_ GE168.out | refine below_set ?_ GE171.out) | exact HB.out))) (fun k_ h_ => h_)) (g := gb171) (o := .cells #[.int .i64 ((rd_T53 l0_0 a1).f0), .string ((rd_T53 l0_0 a1).f1), .bool ((rd_T53 l0_0 a1).f2)] 53 (0, 0)) (by (with_reducible repeat (first | apply bkN | apply bkD | apply bkA)); exact BK171.out)) (below_size (by repeat (first | (with_reducible first | exact HB.out | apply bwA | apply bwN | apply bwD | refine below_set ?_ GE167.out | refine below_set ?_ GE168.out | refine below_set ?_ GE171.out) | exact HB.out)))); have n2_ := Aside0.mk (blk_below (g := gb167) (o := .cells #[.slice (some ad170) l0_0.length c0_0, .int .i64 a0_1] 47 (0, 0)) (by (with_reducible repeat (first | apply bkN | apply bkD | apply bkA)); exact BK167.out) hb); have n3_ := Aside0.mk (blk_below (g := gb168) (o := .cells #[.slice none 0 0, .int .i64 0] 47 (0, 0)) (by (with_reducible repeat (first | apply bkN | apply bkD | apply bkA)); exact BK168.out) hb); have n4_ := Aside0.mk (blk_below (g := gb171) (o := .cells #[.int .i64 ((rd_T53 l0_0 a1).f0), .string ((rd_T53 l0_0 a1).f1), .bool ((rd_T53 l0_0 a1).f2)] 53 (0, 0)) (by (with_reducible repeat (first | apply bkN | apply bkD | apply bkA)); exact BK171.out) hb); have n5_ := Aside0.mk (below_step (by repeat (first | (with_reducible first | exact HB.out | apply bwA | apply bwN | apply bwD | refine below_set ?_ GE167.out | refine below_set ?_ GE168.out | refine below_set ?_ GE171.out) | exact HB.out)) hb); clear HO_168000; clear BK167; clear BK168; clear BK171; clear HB; have HO_168000 := n0_; have HO174 := n1_; have BK167 := n2_; have BK168 := n3_; have BK171 := n4_; have HB := n5_; clear n0_ n1_ n2_ n3_ n4_ n5_; clear hb ho67; have hnb68 := NB167_168.out; have hnc68 := NB168_167.out; have hcz69_0 : w66.cell? ⟨gb167, 0, none⟩ = some (.slice (some ad170) l0_0.length c0_0) := (blk_cell BK167.out 0).trans rfl; have hcz69_1 : w66.cell? ⟨gb167, 1, none⟩ = some (.int .i64 a0_1) := (blk_cell BK167.out 1).trans rfl; have hfz69_0 := blk_frozen BK167.out 0; have hfz69_1 := blk_frozen BK167.out 1) | ((with_reducible refine gate_builtin (b := .append) (xs := #[.tmp 84, .tmp 86]) rfl ?_); (try (refine gate_guard (by rfl) ?_; dsimp only)); at_builtin; refine Kd.R_append_rows k53 (w0 := w) w.heap.size rfl (.tmp 84) (.tmp 86) 45 53 (.agg #[(.int .i64 0), (.string ⟨#[]⟩), (.bool false)]) 32 rfl Try.underlying45 info53 rfl (by decide) (by omega) v173 y172 l0_0 _ _ _ (fun k_ => (w.heap.size ≤ k_) ∧ k_ ≠ gb171) (fun _ => False) rfl rfl ?aO ?aR (fun _ _ h => h) (fun _ h => h.elim) ?aF ?aB ?aS ?aL ?_; (case aR => repeat (first | exact (Kd.V_reads' HO_168000.out).2.2 | (with_reducible refine Kd.C_alloc ?_ _) | (with_reducible refine Kd.C_drewN ?_ _) | (with_reducible refine Kd.C_drew ?_))); (case aB => exact (by repeat (first | (with_reducible first | exact HB.out | apply bwA | apply bwN | apply bwD | refine below_set ?_ GE167.out | refine below_set ?_ GE168.out | refine below_set ?_ GE171.out) | exact HB.out))); (case aF => exact (fun k_ hk => ⟨(Nat.le_trans (below_size (by repeat (first | (with_reducible first | exact HB.out | apply bwA | apply bwN | apply bwD | refine below_set ?_ GE167.out | refine below_set ?_ GE168.out | refine below_set ?_ GE171.out) | exact HB.out))) hk), Kd.freshB (g := gb171) (o := .cells #[.int .i64 ((rd_T53 l0_0 a1).f0), .string ((rd_T53 l0_0 a1).f1), .bool ((rd_T53 l0_0 a1).f2)] 53 (0, 0)) (by (with_reducible repeat (first | apply bkN | apply bkD | apply bkA)); exact BK171.out) k_ hk⟩)); (case aO => exact (by (with_reducible repeat (first | apply rwA | apply rwN | apply rwD)); exact Kd.R_mono HO174.out (fun _ hk => ⟨hk.1.1, hk.2⟩))); (case aS => exact (below_size (by repeat (first | (with_reducible first | exact HB.out | apply bwA | apply bwN | apply bwD | refine below_set ?_ GE167.out | refine below_set ?_ GE168.out | refine below_set ?_ GE171.out) | exact HB.out)))); (case aL => have := LMc59.out; omega); intro v176 w70 ho hb hg hat; rw [← Ny175.out] at ho; have n0_ := Aside0.mk (Kd.V_afterv (ok := (fun k_ => (P0_0_ k_ ∨ w.heap.size ≤ k_) ∧ k_ ≠ gb167 ∧ k_ ≠ gb168 ∧ k_ ≠ gb171)) (by (with_reducible repeat (first | apply Kd.V_alloc | apply Kd.V_drewN | apply Kd.V_drew)); exact HO_168000.out) hg hat); have n1_ := Aside0.mk (blk_grown (g := gb167) (o := .cells #[.slice (some ad170) l0_0.length c0_0, .int .i64 a0_1] 47 (0, 0)) (by (with_reducible repeat (first | apply bkN | apply bkD | apply bkA)); exact BK167.out) hg (Kd.R_ne HO174.out BK167.out (by decide))); have n2_ := Aside0.mk (blk_grown (g := gb168) (o := .cells #[.slice none 0 0, .int .i64 0] 47 (0, 0)) (by (with_reducible repeat (first | apply bkN | apply bkD | apply bkA)); exact BK168.out) hg (Kd.R_ne HO174.out BK168.out (by decide))); have n3_ := Aside0.mk (blk_grown (g := gb171) (o := .cells #[.int .i64 ((rd_T53 l0_0 a1).f0), .string ((rd_T53 l0_0 a1).f1), .bool ((rd_T53 l0_0 a1).f2)] 53 (0, 0)) (by (with_reducible repeat (first | apply bkN | apply bkD | apply bkA)); exact BK171.out) hg (Kd.R_away HO174.out (fun _ hk => hk.2))); have n4_ := Aside0.mk (hb); have n5_ := Aside0.mk (ho); clear HO_168000; clear BK167; clear BK168; clear BK171; clear HB; clear HO174; have HO_168000 := n0_; have BK167 := n1_; have BK168 := n2_; have BK171 := n3_; have HB := n4_; have HO177 := n5_; clear n0_ n1_ n2_ n3_ n4_ n5_; clear ho hb hg hat; have hcz71_0 : w70.cell? ⟨gb171, 0, none⟩ = some (.int .i64 ((rd_T53 l0_0 a1).f0)) := (blk_cell BK171.out 0).trans rfl; have hcz71_1 : w70.cell? ⟨gb171, 1, none⟩ = some (.string ((rd_T53 l0_0 a1).f1)) := (blk_cell BK171.out 1).trans rfl; have hcz71_2 : w70.cell? ⟨gb171, 2, none⟩ = some (.bool ((rd_T53 l0_0 a1).f2)) := (blk_cell BK171.out 2).trans rfl; have hfz71_0 := blk_frozen BK171.out 0; have hfz71_1 := blk_frozen BK171.out 1; have hfz71_2 := blk_frozen BK171.out 2; have p62 : 0 ≤ (a1 : Int) := ofd_; have q62 : (a1 : Int) < ((y175.length : Int) : Int) := ofd_; obtain ⟨go62, co62, eo62, gb62, gl62, cl62, HG62⟩ := Kd.R_form HO177.out (by omega); (first | cases eo62 | (injection eo62 with ea_ en_ ec_; (first | subst ea_ | (injection ea_ with ea_; subst ea_)); subst ec_; clear en_)); have GB62 := Aside0.mk gb62; have GG62 := Aside0.mk HG62; clear gb62 gl62 HG62; obtain ⟨ce62, hcl62, hM62, hcc62, hfr62⟩ := Kd.R_elem HO177.out z53 (a1 : Int) p62 q62; obtain rfl := k53_openM hM62; have hx62_0 : w70.cell? ⟨go62, (a1 : Int).toNat * 3, none⟩ = some (.int .i64 ((rd_T53 y175 a1).f0)) := hcc62 0 _ rfl; have hx62_1 : w70.cell? ⟨go62, (a1 : Int).toNat * 3 + 1, none⟩ = some (.string ((rd_T53 y175 a1).f1)) := hcc62 1 _ rfl; have hx62_2 : w70.cell? ⟨go62, (a1 : Int).toNat * 3 + 2, none⟩ = some (.bool ((rd_T53 y175 a1).f2)) := hcc62 2 _ rfl; have hf62_0 : w70.frozen? ⟨go62, (a1 : Int).toNat * 3, none⟩ = false := hfr62 0; have hf62_1 : w70.frozen? ⟨go62, (a1 : Int).toNat * 3 + 1, none⟩ = false := hfr62 1; have hf62_2 : w70.frozen? ⟨go62, (a1 : Int).toNat * 3 + 2, none⟩ = false := hfr62 2; clear hcl62 hcc62 hfr62 hM62; replace p62 := eq_true p62; replace q62 := eq_true q62; have HX72 := Aside0.mk (show Kd.R k53 53 w70 w.heap.size (fun k_ => (w.heap.size ≤ k_) ∧ k_ ≠ gb171) (.slice (some ⟨go62, 0, none⟩) y175.length co62) y175 from (by (with_reducible repeat (first | apply rwA | apply rwN | apply rwD)); exact HO177.out)); obtain ⟨ce72, hcl72, hM72, hcc72, hfr72⟩ := Kd.R_elem HX72.out z53 (a1 : Int) ofd_ (by have h_ : (a1 : Int) < ((y175.length : Int) : Int) := ofd_; first | exact h_ | (have e_ := (Kd.R_reads' HO177.out).1; omega) | simpa using h_); obtain rfl := k53_openM hM72; have HP72 := Kd.R_seg HX72.out (a1 : Int) ofd_ (by have h_ : (a1 : Int) < ((y175.length : Int) : Int) := ofd_; first | exact h_ | (have e_ := (Kd.R_reads' HO177.out).1; omega) | simpa using h_) (seg := [.int .i64 ((rd_T53 l0_0 a1).f0), .string x11_2, .bool true]) (j := 0) hcl72 hcc72 (show 3 ≤ 3 from by decide) (x' := (⟨((rd_T53 l0_0 a1).f0), x11_2, true⟩ : S53)) (k53_mkM _ _ _ (⟨((rd_T53 l0_0 a1).f0), x11_2, true⟩ : S53) ) (fun _ hk => hk); have hx72_0 := hcc72 0 _ rfl; (try simp only [show (k53).sz = 3 from rfl, Nat.mul_one, Nat.add_zero] at hx72_0); have hf72_0 := hfr72 0; (try simp only [show (k53).sz = 3 from rfl, Nat.mul_one, Nat.add_zero] at hf72_0); have hx72_1 := hcc72 1 _ rfl; (try simp only [show (k53).sz = 3 from rfl, Nat.mul_one, Nat.add_zero] at hx72_1); have hf72_1 := hfr72 1; (try simp only [show (k53).sz = 3 from rfl, Nat.mul_one, Nat.add_zero] at hf72_1); have hx72_2 := hcc72 2 _ rfl; (try simp only [show (k53).sz = 3 from rfl, Nat.mul_one, Nat.add_zero] at hx72_2); have hf72_2 := hfr72 2; (try simp only [show (k53).sz = 3 from rfl, Nat.mul_one, Nat.add_zero] at hf72_2); clear hcl72 hcc72 hfr72 hM72) | ((with_reducible refine gate_store (t := 53) (p := 94) rfl ?_); refine store_event (t := 53) (p := 94) (v := ?vo_w73) (w1 := (((w70.setCell ⟨go62, (a1 : Int).toNat * 3, none⟩ (.int .i64 ((rd_T53 l0_0 a1).f0))).setCell ⟨go62, (a1 : Int).toNat * 3 + 1, none⟩ (.string x11_2)).setCell ⟨go62, (a1 : Int).toNat * 3 + 2, none⟩ (.bool true))) ?hg ?ho ?hn ?hr ?_; (case ho => rfl); (case hg => rfl); (case hn => rfl); (case hr => first | (go_simp; done) | (go_simp; rfl)); intro w73 hw; have hg : w70.grownBy w73 (some go62) := (by rw [hw]; exact HP72.2); have hp_ : Kd.R k53 53 w73 w.heap.size (fun k_ => (w.heap.size ≤ k_) ∧ k_ ≠ gb171) (.slice (some ⟨go62, 0, none⟩) y175.length co62) y178 := (by rw [hw, Ny178.out]; exact HP72.1); clear HP72; have n0_ := Aside0.mk (Kd.V_afterv (v := (.slice (some ⟨go62, 0, none⟩) y175.length co62)) (v1 := (.slice (some ⟨go62, 0, none⟩) y175.length co62)) (ok := (fun k_ => (P0_0_ k_ ∨ w.heap.size ≤ k_) ∧ k_ ≠ gb167 ∧ k_ ≠ gb168 ∧ k_ ≠ gb171)) (by (with_reducible repeat (first | apply Kd.V_alloc | apply Kd.V_drewN | apply Kd.V_drew)); exact HO_168000.out) hg (.inl rfl)); have n1_ := Aside0.mk (blk_grown (g := gb167) (o := .cells #[.slice (some ad170) l0_0.length c0_0, .int .i64 a0_1] 47 (0, 0)) (by (with_reducible repeat (first | apply bkN | apply bkD | apply bkA)); exact BK167.out) hg (Kd.R_ne HO177.out BK167.out (by decide))); have n2_ := Aside0.mk (blk_grown (g := gb168) (o := .cells #[.slice none 0 0, .int .i64 0] 47 (0, 0)) (by (with_reducible repeat (first | apply bkN | apply bkD | apply bkA)); exact BK168.out) hg (Kd.R_ne HO177.out BK168.out (by decide))); have n3_ := Aside0.mk (blk_grown (g := gb171) (o := .cells #[.int .i64 ((rd_T53 l0_0 a1).f0), .string ((rd_T53 l0_0 a1).f1), .bool ((rd_T53 l0_0 a1).f2)] 53 (0, 0)) (by (with_reducible repeat (first | apply bkN | apply bkD | apply bkA)); exact BK171.out) hg (Kd.R_away HO177.out (fun _ hk => hk.2))); have n4_ := Aside0.mk (hp_); have n5_ := Aside0.mk ((by rw [hw]; exact below_set (below_set (below_set (HB.out) GB62.out) GB62.out) GB62.out : Below w.heap.size w w73)); clear HO_168000; clear BK167; clear BK168; clear BK171; clear HO177; clear HB; have HO_168000 := n0_; have BK167 := n1_; have BK168 := n2_; have BK171 := n3_; have HO177 := n4_; have HB := n5_; clear n0_ n1_ n2_ n3_ n4_ n5_; clear hg hw hp_; have hcz74_0 : w73.cell? ⟨gb167, 0, none⟩ = some (.slice (some ad170) l0_0.length c0_0) := (blk_cell BK167.out 0).trans rfl; have hcz74_1 : w73.cell? ⟨gb167, 1, none⟩ = some (.int .i64 a0_1) := (blk_cell BK167.out 1).trans rfl; have hfz74_0 := blk_frozen BK167.out 0; have hfz74_1 := blk_frozen BK167.out 1; have hcz75_0 : w73.cell? ⟨gb168, 0, none⟩ = some (.slice none 0 0) := (blk_cell BK168.out 0).trans rfl; have hcz75_1 : w73.cell? ⟨gb168, 1, none⟩ = some (.int .i64 0) := (blk_cell BK168.out 1).trans rfl; have hfz75_0 := blk_frozen BK168.out 0; have hfz75_1 := blk_frozen BK168.out 1))
              refine bodyPost_ret (results_ct rfl _ _ gb168 47 #[.slice (some ⟨go62, 0, none⟩) y175.length co62, .int .i64 a0_1] (0, 0) _ rfl (by (with_reducible repeat (first | apply bkN | apply bkD | apply bkA)); refine blk_put (cs := #[.slice (some ⟨go62, 0, none⟩) y175.length co62, .int .i64 0]) ?_ 1 _ rfl; (with_reducible repeat (first | apply bkN | apply bkD | apply bkA)); refine blk_put (cs := #[.slice none 0 0, .int .i64 0]) ?_ 0 _ rfl; (with_reducible repeat (first | apply bkN | apply bkD | apply bkA)); refine blk_far ?_ NB168_167.out _; (with_reducible repeat (first | apply bkN | apply bkD | apply bkA)); exact BK168.out) Try.underlying47 rfl (by kernel_rfl)) rfl ?_
              exact ⟨_, by first | rfl | (simp [errW_none, errW_some] <;> rfl) | (simp [*, errW_none, errW_some] <;> rfl), Kd.V_mono (Kd.R_V (by (with_reducible repeat (first | apply rwA | apply rwN | apply rwD)); exact Kd.R_mono (Kd.R_far (p := ⟨gb168, 1, none⟩) (Kd.R_far (p := ⟨gb168, 0, none⟩) (Kd.R_far (p := ⟨gb167, 0, none⟩) (Kd.R_types (Kd.R_types HO177.out BK167.out (by decide)) BK168.out (by decide)) (fun _ hk => hk.1.2) (.slice (some ⟨go62, 0, none⟩) y175.length co62)) (fun _ hk => hk.2) (.slice (some ⟨go62, 0, none⟩) y175.length co62)) (fun _ hk => hk.2) (.int .i64 a0_1)) (fun _ hk => hk.1.1.1))) (fun k_ hk => by first | exact ⟨(.inr (hk.1)), hk.2⟩ | exact (.inr (hk))), by repeat (first | (with_reducible first | exact HB.out | apply bwA | apply bwN | apply bwD | refine below_set ?_ GE167.out | refine below_set ?_ GE168.out | refine below_set ?_ GE171.out) | exact HB.out)⟩
             ·rw [if_neg c61] at H
              exact absurd H (by simp)
            ·rw [if_neg c60] at H
             exact absurd H (by simp)
           ·rw [if_neg c59] at H
            exact absurd H (by simp)
   ·rw [if_neg c8] at H
    exact absurd H (by simp)
  ·rw [if_neg c7] at H
   exact absurd H (by simp)
 ·replace c6 := Bool.eq_false_iff.mpr c6
  subst c6
  have H1 : (some (l0_0, a0_1, 8)) = some (r1, r2, r3) := by rw [if_neg (show ¬ (false = true) by decide)] at H; exact H
  clear H
  have H := H1
  clear H1
  simp only [Option.some.injEq, Prod.mk.injEq] at H
  obtain ⟨rfl, rfl, rfl⟩ := H
  go_enter Try.func27, Try.ntmps27
  go_wp2_with (first | ((with_reducible refine gate_dst (N := 4) rfl ?_); (try (refine gate_guard (by rfl) ?_; dsimp only)); refine box_event ?hg (N := 4) ?hd (cs := #[.slice A0_0 l0_0.length c0_0, .int .i64 a0_1]) (t := 47) ?hr ?_; (case hd => rfl); (case hg => rfl); (case hr => first | (go_simp; done) | (go_simp; rfl)); intro gb167 hg w76 hbox hb; have n0_ := Aside0.mk (Kd.V_below (Kd.V_elderB (by (with_reducible repeat (first | apply Kd.V_alloc | apply Kd.V_drewN | apply Kd.V_drew)); exact HO0_0.out) gb167 (Nat.le_of_eq hg.symm)) hb); have n1_ := Aside0.mk (below_step (by repeat (first | (with_reducible first | exact HB.out | apply bwA | apply bwN | apply bwD) | exact HB.out)) hb); have n2_ := Aside0.mk (hbox); have n3_ := Aside0.mk ((by rw [hg]; exact (below_size (by repeat (first | (with_reducible first | exact HB.out | apply bwA | apply bwN | apply bwD) | exact HB.out))) : w.heap.size ≤ gb167)); have n4_ := Aside0.mk ((by rw [hg]; exact (below_size (by repeat (first | (with_reducible first | exact HB.out | apply bwA | apply bwN | apply bwD) | exact HB.out))) : w.heap.size ≤ gb167)); clear HO0_0; clear HB; have HO0_0 := n0_; have HB := n1_; have BK167 := n2_; have GW167 := n3_; have GE167 := n4_; clear n0_ n1_ n2_ n3_ n4_; clear hb hbox hg) | ((with_reducible refine gate_dst (N := 8) rfl ?_); (try (refine gate_guard (by rfl) ?_; dsimp only)); refine box_event ?hg (N := 8) ?hd (cs := #[.slice none 0 0, .int .i64 0]) (t := 47) ?hr ?_; (case hd => rfl); (case hg => rfl); (case hr => first | (go_simp; done) | (go_simp; rfl)); intro gb168 hg w77 hbox hb; have n0_ := Aside0.mk (Kd.V_below (Kd.V_elderB (by (with_reducible repeat (first | apply Kd.V_alloc | apply Kd.V_drewN | apply Kd.V_drew)); exact HO0_0.out) gb168 (Nat.le_of_eq hg.symm)) hb); have n1_ := Aside0.mk (blk_below (g := gb167) (o := .cells #[.slice A0_0 l0_0.length c0_0, .int .i64 a0_1] 47 (0, 0)) (by (with_reducible repeat (first | apply bkN | apply bkD | apply bkA)); exact BK167.out) hb); have n2_ := Aside0.mk (below_step (by repeat (first | (with_reducible first | exact HB.out | apply bwA | apply bwN | apply bwD | refine below_set ?_ GE167.out) | exact HB.out)) hb); have n3_ := Aside0.mk (hbox); have n4_ := Aside0.mk ((by rw [hg]; exact (below_size (by repeat (first | (with_reducible first | exact HB.out | apply bwA | apply bwN | apply bwD | refine below_set ?_ GE167.out) | exact HB.out))) : w.heap.size ≤ gb168)); have n5_ := Aside0.mk ((by rw [hg]; exact (below_size (by repeat (first | (with_reducible first | exact HB.out | apply bwA | apply bwN | apply bwD | refine below_set ?_ GE167.out) | exact HB.out))) : w.heap.size ≤ gb168)); have n6_ := Aside0.mk ((by rw [hg]; exact Nat.ne_of_lt (blk_lt (g := gb167) (o := .cells #[.slice A0_0 l0_0.length c0_0, .int .i64 a0_1] 47 (0, 0)) (by (with_reducible repeat (first | apply bkN | apply bkD | apply bkA)); exact BK167.out)) : gb167 ≠ gb168)); have n7_ := Aside0.mk ((by rw [hg]; exact Nat.ne_of_gt (blk_lt (g := gb167) (o := .cells #[.slice A0_0 l0_0.length c0_0, .int .i64 a0_1] 47 (0, 0)) (by (with_reducible repeat (first | apply bkN | apply bkD | apply bkA)); exact BK167.out)) : gb168 ≠ gb167)); clear HO0_0; clear BK167; clear HB; have HO0_0 := n0_; have BK167 := n1_; have HB := n2_; have BK168 := n3_; have GW168 := n4_; have GE168 := n5_; have NB167_168 := n6_; have NB168_167 := n7_; clear n0_ n1_ n2_ n3_ n4_ n5_ n6_ n7_; clear hb hbox hg; have hnb78 := NB167_168.out; have hnc78 := NB168_167.out; have hcz79_0 : w77.cell? ⟨gb167, 0, none⟩ = some (.slice A0_0 l0_0.length c0_0) := (blk_cell BK167.out 0).trans rfl; have hcz79_1 : w77.cell? ⟨gb167, 1, none⟩ = some (.int .i64 a0_1) := (blk_cell BK167.out 1).trans rfl; have hfz79_0 := blk_frozen BK167.out 0; have hfz79_1 := blk_frozen BK167.out 1) | ((with_reducible refine gate_callee (f := 30) rfl ?_); refine goesL_ (some 19) rfl rfl Try.func30 (by kernel_rfl) rfl #[.agg #[.slice A0_0 l0_0.length c0_0, .int .i64 a0_1], .int .i64 a1] rfl (by (try simp only [List.map_toArray, List.map_cons, List.map_nil]); first | done | rfl | (simp only [List.length_drop, List.length_take]; rfl)) ?_; (with_reducible refine (tillerref16_there.calls _ _ l0_0 a0_1 a1 false _ ?side1 ?side2 A5.out).mono ?_); (case side1 => repeat (first | exact (Kd.V_reads' HO0_0.out).2.2 | (with_reducible refine Kd.C_alloc ?_ _) | (with_reducible refine Kd.C_drewN ?_ _) | (with_reducible refine Kd.C_drew ?_))); (case side2 => exact (Kd.V_reads' HO0_0.out).2.1); rintro e w80 ⟨rfl, hb⟩; refine ⟨_, rfl, ?_⟩; have n0_ := Aside0.mk (Kd.V_below (by (with_reducible repeat (first | apply Kd.V_alloc | apply Kd.V_drewN | apply Kd.V_drew)); exact HO0_0.out) hb); have n1_ := Aside0.mk (blk_below (g := gb167) (o := .cells #[.slice A0_0 l0_0.length c0_0, .int .i64 a0_1] 47 (0, 0)) (by (with_reducible repeat (first | apply bkN | apply bkD | apply bkA)); exact BK167.out) hb); have n2_ := Aside0.mk (blk_below (g := gb168) (o := .cells #[.slice none 0 0, .int .i64 0] 47 (0, 0)) (by (with_reducible repeat (first | apply bkN | apply bkD | apply bkA)); exact BK168.out) hb); have n3_ := Aside0.mk (below_step (by repeat (first | (with_reducible first | exact HB.out | apply bwA | apply bwN | apply bwD | refine below_set ?_ GE167.out | refine below_set ?_ GE168.out) | exact HB.out)) hb); clear HO0_0; clear BK167; clear BK168; clear HB; have HO0_0 := n0_; have BK167 := n1_; have BK168 := n2_; have HB := n3_; clear n0_ n1_ n2_ n3_; (try clear hb); (try clear hb2); (try clear hk); (try clear hi); have hcz81_0 : w80.cell? ⟨gb167, 0, none⟩ = some (.slice A0_0 l0_0.length c0_0) := (blk_cell BK167.out 0).trans rfl; have hcz81_1 : w80.cell? ⟨gb167, 1, none⟩ = some (.int .i64 a0_1) := (blk_cell BK167.out 1).trans rfl; have hfz81_0 := blk_frozen BK167.out 0; have hfz81_1 := blk_frozen BK167.out 1; have hcz82_0 : w80.cell? ⟨gb168, 0, none⟩ = some (.slice none 0 0) := (blk_cell BK168.out 0).trans rfl; have hcz82_1 : w80.cell? ⟨gb168, 1, none⟩ = some (.int .i64 0) := (blk_cell BK168.out 1).trans rfl; have hfz82_0 := blk_frozen BK168.out 0; have hfz82_1 := blk_frozen BK168.out 1))
  refine bodyPost_ret (results_ct rfl _ _ gb168 47 #[.slice A0_0 l0_0.length c0_0, .int .i64 a0_1] (0, 0) _ rfl (by (with_reducible repeat (first | apply bkN | apply bkD | apply bkA)); refine blk_put (cs := #[.slice A0_0 l0_0.length c0_0, .int .i64 0]) ?_ 1 _ rfl; (with_reducible repeat (first | apply bkN | apply bkD | apply bkA)); refine blk_put (cs := #[.slice none 0 0, .int .i64 0]) ?_ 0 _ rfl; (with_reducible repeat (first | apply bkN | apply bkD | apply bkA)); exact BK168.out) Try.underlying47 rfl (by kernel_rfl)) rfl ?_
  exact ⟨_, by first | rfl | (simp [errW_none, errW_some] <;> rfl) | (simp [*, errW_none, errW_some] <;> rfl), by (with_reducible repeat (first | apply Kd.V_alloc | apply Kd.V_drewN | apply Kd.V_drew)); exact Kd.V_mono (Kd.V_far (p := ⟨gb168, 1, none⟩) (Kd.V_far (p := ⟨gb168, 0, none⟩) (Kd.V_mono HO0_0.out (fun k_ hk => (⟨hk, hk.2⟩ : _ ∧ k_ ≠ gb168))) (fun _ hk => hk.2) (.slice A0_0 l0_0.length c0_0)) (fun _ hk => hk.2) (.int .i64 a0_1)) (fun _ hk => hk.1.1.1), by repeat (first | (with_reducible first | exact HB.out | apply bwA | apply bwN | apply bwD | refine below_set ?_ GE167.out | refine below_set ?_ GE168.out) | exact HB.out)⟩

end Go.Proofs.Ytmcdgachfkkpeaa.GQ
