-- written by this session's program gprint.py
import Derived.Test.YtdlhodbokkaghaaWBoxRow
import Derived.Test.YtdlhodbokkaghaaGQx0
import Derived.Test.YtdlhodbokkaghaaWLast
import Derived.Test.YtdlhodbokkaghaaWMore
import Derived.Test.YtdlhodbokkaghaaWN
import Derived.Test.YtdlhodbokkaghaaWNEv
import Derived.Test.YtdlhodbokkaghaaWRepsOne
import Derived.Test.YtdlhodbokkaghaaWShare
import Derived.Test.YtdlhodbokkaghaaWTab
import Derived.Test.YtdlhodbokkaghaaWWords
namespace Go.Proofs.Ytdlhodbokkaghaa.GQ
open Go.RowKit Go.Proofs.YtdlhodbokkaghaaW.PrintWords Go.Proofs.YtdlhodbokkaghaaW.PrintLast Go.Proofs.YtdlhodbokkaghaaW.PrintMore
attribute [local go_sem] max2_int min2_int max_two min_two max_three min_three max_four min_four   -- for this text's walks alone
set_option linter.unusedVariables false
set_option linter.unusedSimpArgs false
abbrev T44168_0 : Array Bool := #[false, false, false, false, false, false, false, false, false]
abbrev T44168_1 : Array Bool := #[false, true, false, false, false, false, false, false, false]
abbrev T44168_2 : Array Bool := #[false, true, true, false, false, false, false, false, false]
abbrev T44168_3 : Array Bool := #[false, true, true, false, false, true, false, false, false]
abbrev T44168_4 : Array Bool := #[false, true, true, true, false, true, false, false, false]
abbrev T44168_5 : Array Bool := #[false, true, true, true, false, true, true, false, false]
abbrev T44168_6 : Array Bool := #[true, true, true, true, false, true, true, false, false]
abbrev T44168_7 : Array Bool := #[true, true, true, true, true, true, true, false, false]
abbrev T44168_8 : Array Bool := #[true, true, true, true, true, true, true, true, false]
abbrev T44168_9 : Array Bool := #[true, true, true, true, true, true, true, true, true]
abbrev T44168_10 : Array Bool := #[false, false, false, false, false, false, false, false]
abbrev T44168_11 : Array Bool := #[true, false, false, false, false, false, false, false]
abbrev T44168_12 : Array Bool := #[true, true, false, false, false, false, false, false]
abbrev T44168_13 : Array Bool := #[true, true, false, false, true, false, false, false]
abbrev T44168_14 : Array Bool := #[true, true, true, false, true, false, false, false]
abbrev T44168_15 : Array Bool := #[true, true, true, false, true, true, false, false]
abbrev T44168_16 : Array Bool := #[true, true, true, true, true, true, false, false]
abbrev T44168_17 : Array Bool := #[true, true, true, true, true, true, true, false]
abbrev T44168_18 : Array Bool := #[true, true, true, true, true, true, true, true]

/-! ### tillerref06_List: function 13 -/
mutual
def tillerref06_List.l0 : Nat → List Int → List (S74) → Int → Int → Int → Int → List Int → List (S74) → List Int → Int → Int → List Int → Option (List Int)
 | 0, _, _, _, _, _, _, _, _, _, _, _, _ => none
 | k + 1, x3, x17, x18, x19, x154000, x154001, x154002, x154003, x154004, x154005, x154006, x154007 => if x19 < x18 then (if 0 ≤ x19 then (if x19 < (x17.length : Int) then (if x3.length + ((rd_T74 x17 x19).f0).length < 35184372088832 then ((some (x3 ++ ((rd_T74 x17 x19).f0) : List Int)).bind fun y168 => (if y168.length + ((rd_T74 x17 x19).f5).length < 35184372088832 then ((some (([(⟨(rd_T74 x17 x19).f1.f0, (rd_T74 x17 x19).f1.f1, (rd_T74 x17 x19).f1.f2⟩ : S27), (⟨(rd_T74 x17 x19).f2.f0, (rd_T74 x17 x19).f2.f1, (rd_T74 x17 x19).f2.f2⟩ : S27), (⟨(rd_T74 x17 x19).f3.f0, (rd_T74 x17 x19).f3.f1, (rd_T74 x17 x19).f3.f2⟩ : S27), (⟨(rd_T74 x17 x19).f4.f0, (rd_T74 x17 x19).f4.f1, (rd_T74 x17 x19).f4.f2⟩ : S27), (⟨(rd_T74 x17 x19).f6.f0, (rd_T74 x17 x19).f6.f1, (rd_T74 x17 x19).f6.f2⟩ : S27), (⟨(rd_T74 x17 x19).f7.f0, (rd_T74 x17 x19).f7.f1, (rd_T74 x17 x19).f7.f2⟩ : S27)] : List (S27)) : List (S27))).bind fun y174 => (tillerref06_List.l1 k (y168 ++ ((rd_T74 x17 x19).f5)) x17 x18 x19 y174 (y174.length : Int) 0 x154000 x154001 x154002 x154003 x154004 x154005 x154006 x154007)) else (none))) else (none)) else (none)) else (none)) else (if x3.length + x154007.length < 35184372088832 then (some (x3 ++ x154007)) else (none))
def tillerref06_List.l1 : Nat → List Int → List (S74) → Int → Int → List (S27) → Int → Int → Int → Int → List Int → List (S74) → List Int → Int → Int → List Int → Option (List Int)
 | 0, _, _, _, _, _, _, _, _, _, _, _, _, _, _, _ => none
 | k + 1, x3, x17, x18, x19, x42, x43, x44, x154000, x154001, x154002, x154003, x154004, x154005, x154006, x154007 => if x44 < x43 then (if 0 ≤ x44 then (if x44 < (x42.length : Int) then (if x3.length + ((rd_T27 x42 x44).f2).length < 35184372088832 then (tillerref06_List.l1 k (x3 ++ ((rd_T27 x42 x44).f2)) x17 x18 x19 x42 x43 (wrap64 (x44 + 1)) x154000 x154001 x154002 x154003 x154004 x154005 x154006 x154007) else (none)) else (none)) else (none)) else (tillerref06_List.l0 k x3 x17 x18 (wrap64 (x19 + 1)) x154000 x154001 x154002 x154003 x154004 x154005 x154006 x154007)
end
def tillerref06_List.f (k : Nat) (a0_0 : Int) (a0_1 : Int) (l0_2 : List Int) (l0_3 : List (S74)) (l0_4 : List Int) (a0_5 : Int) (a0_6 : Int) (l0_7 : List Int) : Option (List Int) := (some (([] : List Int) : List Int)).bind fun y154 => (if y154.length + l0_2.length < 35184372088832 then ((some (y154 ++ l0_2 : List Int)).bind fun y157 => (if y157.length + l0_4.length < 35184372088832 then (tillerref06_List.l0 k (y157 ++ l0_4) l0_3 (l0_3.length : Int) 0 a0_0 a0_1 l0_2 l0_3 l0_4 a0_5 a0_6 l0_7) else (none))) else (none))
theorem tillerref06_List.mono_l : ∀ k, (∀ y0 y1 y2 y3 y4 y5 y6 y7 y8 y9 y10 y11, LeO (tillerref06_List.l0 k y0 y1 y2 y3 y4 y5 y6 y7 y8 y9 y10 y11) (tillerref06_List.l0 (k + 1) y0 y1 y2 y3 y4 y5 y6 y7 y8 y9 y10 y11)) ∧ (∀ y0 y1 y2 y3 y4 y5 y6 y7 y8 y9 y10 y11 y12 y13 y14, LeO (tillerref06_List.l1 k y0 y1 y2 y3 y4 y5 y6 y7 y8 y9 y10 y11 y12 y13 y14) (tillerref06_List.l1 (k + 1) y0 y1 y2 y3 y4 y5 y6 y7 y8 y9 y10 y11 y12 y13 y14))
 | 0 => ⟨fun _ _ _ _ _ _ _ _ _ _ _ _ r h => by simp [tillerref06_List.l0] at h, fun _ _ _ _ _ _ _ _ _ _ _ _ _ _ _ r h => by simp [tillerref06_List.l1] at h⟩
 | k + 1 => by
  obtain ⟨ih0, ih1⟩ := tillerref06_List.mono_l k
  refine ⟨?_, ?_⟩
  ·intro y0 y1 y2 y3 y4 y5 y6 y7 y8 y9 y10 y11
   unfold tillerref06_List.l0
   repeat' first
   | (with_reducible exact ih0 _ _ _ _ _ _ _ _ _ _ _ _)
   | (with_reducible exact ih1 _ _ _ _ _ _ _ _ _ _ _ _ _ _ _)
   | (with_reducible exact LeO.refl _)
   | (with_reducible exact LeO.none _)
   | (with_reducible refine LeO.ite ?_ ?_)
   | (with_reducible refine LeO.bind ?_ (fun _ => ?_))
   | exact ih0 _ _ _ _ _ _ _ _ _ _ _ _
   | exact ih1 _ _ _ _ _ _ _ _ _ _ _ _ _ _ _
   | exact LeO.none _
   | refine LeO.ite ?_ ?_
   | refine LeO.bind ?_ (fun _ => ?_)
  ·intro y0 y1 y2 y3 y4 y5 y6 y7 y8 y9 y10 y11 y12 y13 y14
   unfold tillerref06_List.l1
   repeat' first
   | (with_reducible exact ih0 _ _ _ _ _ _ _ _ _ _ _ _)
   | (with_reducible exact ih1 _ _ _ _ _ _ _ _ _ _ _ _ _ _ _)
   | (with_reducible exact LeO.refl _)
   | (with_reducible exact LeO.none _)
   | (with_reducible refine LeO.ite ?_ ?_)
   | (with_reducible refine LeO.bind ?_ (fun _ => ?_))
   | exact ih0 _ _ _ _ _ _ _ _ _ _ _ _
   | exact ih1 _ _ _ _ _ _ _ _ _ _ _ _ _ _ _
   | exact LeO.none _
   | refine LeO.ite ?_ ?_
   | refine LeO.bind ?_ (fun _ => ?_)
theorem tillerref06_List.mono : ∀ a0 a1 a2 a3 a4 a5 a6 a7 k, LeO (tillerref06_List.f k a0 a1 a2 a3 a4 a5 a6 a7) (tillerref06_List.f (k + 1) a0 a1 a2 a3 a4 a5 a6 a7) := by
 intro a0 a1 a2 a3 a4 a5 a6 a7 k
 obtain ⟨ih0, ih1⟩ := tillerref06_List.mono_l k
 unfold tillerref06_List.f
 repeat' first
   | (with_reducible exact ih0 _ _ _ _ _ _ _ _ _ _ _ _)
   | (with_reducible exact ih1 _ _ _ _ _ _ _ _ _ _ _ _ _ _ _)
   | (with_reducible exact LeO.refl _)
   | (with_reducible exact LeO.none _)
   | (with_reducible refine LeO.ite ?_ ?_)
   | (with_reducible refine LeO.bind ?_ (fun _ => ?_))
   | exact ih0 _ _ _ _ _ _ _ _ _ _ _ _
   | exact ih1 _ _ _ _ _ _ _ _ _ _ _ _ _ _ _
   | exact LeO.none _
   | refine LeO.ite ?_ ?_
   | refine LeO.bind ?_ (fun _ => ?_)
def tillerref06_List.T1 : Bool × List (List Nat × List Nat) := (true, [([], []), ([], []), ([1], [1]), ([2], [2]), ([0, 3], [0, 3]), ([], []), ([5], [5]), ([4, 6, 4], [4, 6]), ([7, 7, 0, 1, 2, 3, 4, 5, 6, 7], [7])])
def tillerref06_List.B1 : List Nat := [0, 0, 2, 6, 15, 0, 32, 127, 255]
theorem tillerref06_List.tab1 : rtab .any (opsOf Try.f13 1) = tillerref06_List.T1 := by kernel_rfl
theorem tillerref06_List.bits1 : waitsOk tillerref06_List.T1.2 tillerref06_List.B1 = true := by kernel_rfl
def tillerref06_List.T5 : Bool × List (List Nat × List Nat) := (true, [([], []), ([], []), ([1], [1]), ([0, 2], [0, 2]), ([], []), ([4], [4]), ([3, 5, 3], [3, 5]), ([6, 6, 0, 1, 2, 3, 4, 5, 6], [0, 6])])
def tillerref06_List.B5 : List Nat := [0, 0, 2, 7, 0, 16, 63, 127]
theorem tillerref06_List.tab5 : rtab .any (opsOf Try.f13 5) = tillerref06_List.T5 := by kernel_rfl
theorem tillerref06_List.bits5 : waitsOk tillerref06_List.T5.2 tillerref06_List.B5 = true := by kernel_rfl
set_option maxHeartbeats 8000000 in
set_option maxRecDepth 100000 in
theorem tillerref06_List.calls (k : Nat) (a0_0 : Int) (a0_1 : Int) (A0_2 : Option Addr) (c0_2 : Nat) (l0_2 : List Int) (P0_3_ : Nat → Prop) (A0_3 : Option Addr) (c0_3 : Nat) (l0_3 : List (S74)) (A0_4 : Option Addr) (c0_4 : Nat) (l0_4 : List Int) (a0_5 : Int) (a0_6 : Int) (A0_7 : Option Addr) (c0_7 : Nat) (l0_7 : List Int) (r : List Int) (w : World) (hr0_2 : Kd.C (Kd.int .i32) w A0_2 l0_2.length l0_2) (hc0_2 : l0_2.length ≤ c0_2) (hs0_3 : Kd.V k74 74 w w.heap.size (fun k_ => P0_3_ k_) (.slice A0_3 l0_3.length c0_3) l0_3) (hr0_4 : Kd.C (Kd.int .i32) w A0_4 l0_4.length l0_4) (hc0_4 : l0_4.length ≤ c0_4) (hr0_7 : Kd.C (Kd.int .i32) w A0_7 l0_7.length l0_7) (hc0_7 : l0_7.length ≤ c0_7) (h : tillerref06_List.f k a0_0 a0_1 l0_2 l0_3 l0_4 a0_5 a0_6 l0_7 = some r) :
  Calls Try.prog 13 #[.agg #[.int .i64 a0_0, .int .i64 a0_1, .slice A0_2 l0_2.length c0_2, .slice A0_3 l0_3.length c0_3, .slice A0_4 l0_4.length c0_4, .int .i64 a0_5, .int .i64 a0_6, .slice A0_7 l0_7.length c0_7]] w fun e w' => ∃ v0_ : Value, e = .returned (v0_) ∧ Kd.R (Kd.int .i32) 35 w' w.heap.size (fun k_ => (w.heap.size ≤ k_)) v0_ r ∧ Below w.heap.size w w' := by
 have hu41 := Try.underlying41
 have hu74 := Try.underlying74
 have hu27 := Try.underlying27
 have HR0_2 := Aside0.mk hr0_2
 have HC0_2 := Aside0.mk hc0_2
 clear hr0_2 hc0_2
 have HO0_3 := Aside0.mk (show Kd.V k74 74 w w.heap.size (fun k_ => (P0_3_ k_ ∨ w.heap.size ≤ k_)) (.slice A0_3 l0_3.length c0_3) l0_3 from Kd.V_mono hs0_3 (fun k_ hk => .inl hk))
 have HR0_4 := Aside0.mk hr0_4
 have HC0_4 := Aside0.mk hc0_4
 clear hr0_4 hc0_4
 have HR0_7 := Aside0.mk hr0_7
 have HC0_7 := Aside0.mk hc0_7
 clear hr0_7 hc0_7
 have HB := Aside0.mk (Below.refl w.heap.size w)
 have H : ((some (([] : List Int) : List Int)).bind fun y154 => (if y154.length + l0_2.length < 35184372088832 then ((some (y154 ++ l0_2 : List Int)).bind fun y157 => (if y157.length + l0_4.length < 35184372088832 then (tillerref06_List.l0 k (y157 ++ l0_4) l0_3 (l0_3.length : Int) 0 a0_0 a0_1 l0_2 l0_3 l0_4 a0_5 a0_6 l0_7) else (none))) else (none))) = some r := h
 clear h
 obtain ⟨y154, hy154⟩ : ∃ y_ : List Int, y_ = (([] : List Int)) := ⟨_, rfl⟩
 replace H : (if y154.length + l0_2.length < 35184372088832 then ((some (y154 ++ l0_2 : List Int)).bind fun y157 => (if y157.length + l0_4.length < 35184372088832 then (tillerref06_List.l0 k (y157 ++ l0_4) l0_3 (l0_3.length : Int) 0 a0_0 a0_1 l0_2 l0_3 l0_4 a0_5 a0_6 l0_7) else (none))) else (none)) = some r := by first | (rw [hy154]; with_reducible exact H) | (have H2_ := (Option.bind_some _ _).symm.trans H; rw [hy154]; with_reducible exact H2_) | (have H2_ := (Option.bind_some _ _).symm.trans H; with_reducible exact H2_) | with_reducible exact H | (rw [hy154]; exact H) | exact H
 have Ny154 := Aside0.mk hy154
 clear hy154
 by_cases c2 : y154.length + l0_2.length < 35184372088832
 ·rw [if_pos c2] at H
  have LMc2 := Aside0.mk c2
  clear c2
  obtain ⟨y157, hy157⟩ : ∃ y_ : List Int, y_ = (y154 ++ l0_2) := ⟨_, rfl⟩
  replace H : (if y157.length + l0_4.length < 35184372088832 then (tillerref06_List.l0 k (y157 ++ l0_4) l0_3 (l0_3.length : Int) 0 a0_0 a0_1 l0_2 l0_3 l0_4 a0_5 a0_6 l0_7) else (none)) = some r := by first | (rw [hy157]; with_reducible exact H) | (have H2_ := (Option.bind_some _ _).symm.trans H; rw [hy157]; with_reducible exact H2_) | (have H2_ := (Option.bind_some _ _).symm.trans H; with_reducible exact H2_) | with_reducible exact H | (rw [hy157]; exact H) | exact H
  have Ny157 := Aside0.mk hy157
  clear hy157
  by_cases c3 : y157.length + l0_4.length < 35184372088832
  ·rw [if_pos c3] at H
   have LMc3 := Aside0.mk c3
   clear c3
   obtain ⟨y160, hy160⟩ : ∃ y_ : List Int, y_ = (y157 ++ l0_4) := ⟨_, rfl⟩
   replace H : (tillerref06_List.l0 k y160 l0_3 (l0_3.length : Int) 0 a0_0 a0_1 l0_2 l0_3 l0_4 a0_5 a0_6 l0_7) = some r := by first | (rw [hy160]; with_reducible exact H) | (have H2_ := (Option.bind_some _ _).symm.trans H; rw [hy160]; with_reducible exact H2_) | (have H2_ := (Option.bind_some _ _).symm.trans H; with_reducible exact H2_) | with_reducible exact H | (rw [hy160]; exact H) | exact H
   have Ny160 := Aside0.mk hy160
   clear hy160
   have H' := Aside0.mk H
   clear H
   go_enter Try.func13, Try.ntmps13
   try go_wp2_with (first | ((with_reducible refine gate_dst (N := 1) rfl ?_); refine box_event ?hg (N := 1) ?hd (cs := #[.int .i64 a0_0, .int .i64 a0_1, .slice A0_2 l0_2.length c0_2, .slice A0_3 l0_3.length c0_3, .slice A0_4 l0_4.length c0_4, .int .i64 a0_5, .int .i64 a0_6, .slice A0_7 l0_7.length c0_7]) (t := 41) ?hr ?_; (case hd => rfl); (case hg => rfl); (case hr => first | (go_simp; done) | (go_simp; rfl)); intro gb153 hg w4 hbox hb; have n0_ := Aside0.mk (Kd.V_below (Kd.V_elderB (by (with_reducible repeat (first | apply Kd.V_alloc | apply Kd.V_drewN | apply Kd.V_drew)); exact HO0_3.out) gb153 (Nat.le_of_eq hg.symm)) hb); have n1_ := Aside0.mk (below_step (by repeat (first | (with_reducible first | exact HB.out | apply bwA | apply bwN | apply bwD) | exact HB.out)) hb); have n2_ := Aside0.mk (hbox); have n3_ := Aside0.mk ((by rw [hg]; exact (below_size (by repeat (first | (with_reducible first | exact HB.out | apply bwA | apply bwN | apply bwD) | exact HB.out))) : w.heap.size ≤ gb153)); have n4_ := Aside0.mk ((by rw [hg]; exact (below_size (by repeat (first | (with_reducible first | exact HB.out | apply bwA | apply bwN | apply bwD) | exact HB.out))) : w.heap.size ≤ gb153)); clear HO0_3; clear HB; have HO0_3 := n0_; have HB := n1_; have BK153 := n2_; have GW153 := n3_; have GE153 := n4_; clear n0_ n1_ n2_ n3_ n4_; clear hb hbox hg))
   have n0_ := Aside0.mk (Kd.V_drew HO0_3.out)
   have n1_ := Aside0.mk (blk_drew BK153.out)
   have n2_ := Aside0.mk (below_drew1 HB.out)
   clear HO0_3
   clear BK153
   clear HB
   have HO0_3 := n0_
   have BK153 := n1_
   have HB := n2_
   clear n0_ n1_ n2_
   refine start_ (n := 9) (S := fun w' => w'.cell? ⟨gb153, 0, none⟩ = some (.int .i64 a0_0) ∧ w'.cell? ⟨gb153, 1, none⟩ = some (.int .i64 a0_1) ∧ w'.cell? ⟨gb153, 2, none⟩ = some (.slice A0_2 l0_2.length c0_2) ∧ w'.cell? ⟨gb153, 3, none⟩ = some (.slice A0_3 l0_3.length c0_3) ∧ w'.cell? ⟨gb153, 4, none⟩ = some (.slice A0_4 l0_4.length c0_4) ∧ w'.cell? ⟨gb153, 5, none⟩ = some (.int .i64 a0_5) ∧ w'.cell? ⟨gb153, 6, none⟩ = some (.int .i64 a0_6) ∧ w'.cell? ⟨gb153, 7, none⟩ = some (.slice A0_7 l0_7.length c0_7)) (ds := []) T44168_0 (by kernel_rfl) rfl rfl ⟨(blk_cell BK153.out 0).trans rfl, (blk_cell BK153.out 1).trans rfl, (blk_cell BK153.out 2).trans rfl, (blk_cell BK153.out 3).trans rfl, (blk_cell BK153.out 4).trans rfl, (blk_cell BK153.out 5).trans rfl, (blk_cell BK153.out 6).trans rfl, (blk_cell BK153.out 7).trans rfl⟩ (fun hHeld => ?_); refine with_tabW tillerref06_List.tab1 tillerref06_List.bits1 (fun HT_ HW_ => ?_)
   generalize w4.drew = w5 at HO0_3 BK153 HB hHeld ⊢
   refine pure_ (i := 1) (N := some 9) (v := ?_) (a' := ?_) T44168_1 rfl rfl (any_of HT_.out (by kernel_rfl)) idq (.inl ⟨by rfl, ?_⟩) ?_ ?_
   rotate_left; ·intro w'; go_simp; with_reducible rfl
   rotate_left; ·simp only [Act.put, sqA, sqB, sqC, i64_w, i32_w]; rfl
   refine pure_ (i := 2) (N := some 10) (v := ?_) (a' := ?_) T44168_2 rfl rfl (any_of HT_.out (by kernel_rfl)) idq (.inl ⟨by rfl, ?_⟩) ?_ ?_
   rotate_left; ·intro w'; go_simp; with_reducible rfl
   rotate_left; ·simp only [Act.put, sqA, sqB, sqC, i64_w, i32_w]; rfl
   refine pure_ (i := 5) (N := some 13) (v := ?_) (a' := ?_) T44168_3 rfl rfl (any_of HT_.out (by kernel_rfl)) idq (.inl ⟨by rfl, ?_⟩) ?_ ?_
   rotate_left; ·intro w'; go_simp; with_reducible rfl
   rotate_left; ·simp only [Act.put, sqA, sqB, sqC, i64_w, i32_w]; rfl
   refine take_ (i := 3) (N := some 11) (v := ?_) (a' := ?_) T44168_4 rfl rfl (take_ofW HT_.out HW_.out (by kernel_rfl)) idq (.inl ⟨by rfl, ?_⟩) hHeld ?_ ?_
   rotate_left
   ·rintro w' ⟨s0, s1, s2, s3, s4, s5, s6, s7⟩
    go_simp
    with_reducible rfl
   rotate_left; ·simp only [Act.put, sqA, sqB, sqC, i64_w, i32_w]; rfl
   refine take_ (i := 6) (N := some 14) (v := ?_) (a' := ?_) T44168_5 rfl rfl (take_ofW HT_.out HW_.out (by kernel_rfl)) idq (.inl ⟨by rfl, ?_⟩) hHeld ?_ ?_
   rotate_left
   ·rintro w' ⟨s0, s1, s2, s3, s4, s5, s6, s7⟩
    go_simp
    with_reducible rfl
   rotate_left; ·simp only [Act.put, sqA, sqB, sqC, i64_w, i32_w]; rfl
   refine one_ (i := 0) (N := some 8) T44168_6 rfl rfl (one_of HT_.out (by kernel_rfl)) (by decide) (fun K hK => ?_)
   refine Kd.R_lit_step (Kd.int .i32) _ 35 ?hg (N := 8) ?hd (xs := ([] : List Int)) (inner := []) (ok := fun _ => True) (okp := fun _ => True) ?hr ?hp (fun _ hk => hk) trivial (Below.refl _ _) (Nat.le_refl _) (by simp) ?_; (case hd => rfl); (case hg => rfl); (case hr => first | (go_simp; done) | (go_simp; rfl)); (case hp => exact (Reps.none _ _))
   intro v155 w6 ho7 hb hg_ hnew_
   clear hg_ hnew_
   (first | rw [← Ny154.out] at ho7 | (simp only [Int.reduceToNat] at ho7; rw [← Ny154.out] at ho7))
   have n0_ := Aside0.mk (Kd.V_elder' (by (with_reducible repeat (first | apply Kd.V_alloc | apply Kd.V_drewN | apply Kd.V_drew)); exact HO0_3.out) (Kd.R_base ho7) hb)
   have n1_ := Aside0.mk (Kd.R_lower (Kd.R_newM (M := fun k_ => (w.heap.size ≤ k_)) ho7 (below_size (by repeat (first | (with_reducible first | exact HB.out | apply bwA | apply bwN | apply bwD | refine below_set ?_ GE153.out) | exact HB.out))) (fun k_ h_ => h_)) (below_size (by repeat (first | (with_reducible first | exact HB.out | apply bwA | apply bwN | apply bwD | refine below_set ?_ GE153.out) | exact HB.out))))
   have n2_ := Aside0.mk (blk_below (g := gb153) (o := .cells #[.int .i64 a0_0, .int .i64 a0_1, .slice A0_2 l0_2.length c0_2, .slice A0_3 l0_3.length c0_3, .slice A0_4 l0_4.length c0_4, .int .i64 a0_5, .int .i64 a0_6, .slice A0_7 l0_7.length c0_7] 41 (0, 0)) (by (with_reducible repeat (first | apply bkN | apply bkD | apply bkA)); exact BK153.out) hb)
   have n3_ := Aside0.mk (below_step (by repeat (first | (with_reducible first | exact HB.out | apply bwA | apply bwN | apply bwD | refine below_set ?_ GE153.out) | exact HB.out)) hb)
   clear HO0_3
   clear BK153
   clear HB
   have HO0_3 := n0_
   have HO156 := n1_
   have BK153 := n2_
   have HB := n3_
   clear n0_ n1_ n2_ n3_
   clear hb ho7
   refine hK.out _ _ ⟨(blk_cell BK153.out 0).trans rfl, (blk_cell BK153.out 1).trans rfl, (blk_cell BK153.out 2).trans rfl, (blk_cell BK153.out 3).trans rfl, (blk_cell BK153.out 4).trans rfl, (blk_cell BK153.out 5).trans rfl, (blk_cell BK153.out 6).trans rfl, (blk_cell BK153.out 7).trans rfl⟩ (fun hHeld => ?_)
   clear hK K
   refine norm_ (a' := ?_) ?_ ?_
   rotate_left
   ·show Act.put _ (some 8) _ = _
    simp only [Act.put, sqA, sqB, sqC, i64_w, i32_w]
    rfl
   refine one_ (i := 4) (N := some 12) T44168_7 rfl rfl (one_of HT_.out (by kernel_rfl)) (by decide) (fun K hK => ?_)
   refine Kd.R_append_rows_step (Kd.int .i32) (w0 := w) w.heap.size (by rfl) (.tmp 8) (.tmp 11) 25 35 (.int .i32 0) 4 rfl Try.underlying25 info35 rfl (by decide) (by omega) v155 y154 l0_2 _ _ _ (fun k_ => (w.heap.size ≤ k_)) (fun _ => False) rfl rfl ?aO ?aR (fun _ _ h => h) (fun _ h => h.elim) ?aF ?aB ?aS ?aL ?_
   (case aR => repeat (first | exact (Kd.C_below HR0_2.out HB.out) | (with_reducible refine Kd.C_alloc ?_ _) | (with_reducible refine Kd.C_drewN ?_ _) | (with_reducible refine Kd.C_drew ?_)))
   (case aB => exact (by repeat (first | (with_reducible first | exact HB.out | apply bwA | apply bwN | apply bwD | refine below_set ?_ GE153.out) | exact HB.out)))
   (case aF => exact (fun k_ hk => (Nat.le_trans (below_size (by repeat (first | (with_reducible first | exact HB.out | apply bwA | apply bwN | apply bwD | refine below_set ?_ GE153.out) | exact HB.out))) hk)))
   (case aO => exact (by (with_reducible repeat (first | apply rwA | apply rwN | apply rwD)); exact Kd.R_mono HO156.out (fun _ hk => hk.1)))
   (case aS => exact (below_size (by repeat (first | (with_reducible first | exact HB.out | apply bwA | apply bwN | apply bwD | refine below_set ?_ GE153.out) | exact HB.out))))
   (case aL => have := LMc2.out; omega)
   intro v158 w8 ho hb hg hat
   rw [← Ny157.out] at ho
   have n0_ := Aside0.mk (Kd.V_afterv (ok := (fun k_ => (P0_3_ k_ ∨ w.heap.size ≤ k_) ∧ k_ ≠ gb153)) (by (with_reducible repeat (first | apply Kd.V_alloc | apply Kd.V_drewN | apply Kd.V_drew)); exact HO0_3.out) hg hat)
   have n1_ := Aside0.mk (blk_grown (g := gb153) (o := .cells #[.int .i64 a0_0, .int .i64 a0_1, .slice A0_2 l0_2.length c0_2, .slice A0_3 l0_3.length c0_3, .slice A0_4 l0_4.length c0_4, .int .i64 a0_5, .int .i64 a0_6, .slice A0_7 l0_7.length c0_7] 41 (0, 0)) (by (with_reducible repeat (first | apply bkN | apply bkD | apply bkA)); exact BK153.out) hg (Kd.R_ne HO156.out BK153.out (by decide)))
   have n2_ := Aside0.mk (hb)
   have n3_ := Aside0.mk (ho)
   clear HO0_3
   clear BK153
   clear HB
   clear HO156
   have HO0_3 := n0_
   have BK153 := n1_
   have HB := n2_
   have HO159 := n3_
   clear n0_ n1_ n2_ n3_
   clear ho hb hg hat
   refine hK.out _ _ ⟨(blk_cell BK153.out 0).trans rfl, (blk_cell BK153.out 1).trans rfl, (blk_cell BK153.out 2).trans rfl, (blk_cell BK153.out 3).trans rfl, (blk_cell BK153.out 4).trans rfl, (blk_cell BK153.out 5).trans rfl, (blk_cell BK153.out 6).trans rfl, (blk_cell BK153.out 7).trans rfl⟩ (fun hHeld => ?_)
   clear hK K
   refine norm_ (a' := ?_) ?_ ?_
   rotate_left
   ·show Act.put _ (some 12) _ = _
    simp only [Act.put, sqA, sqB, sqC, i64_w, i32_w]
    rfl
   refine one_ (i := 7) (N := some 15) T44168_8 rfl rfl (one_of HT_.out (by kernel_rfl)) (by decide) (fun K hK => ?_)
   refine Kd.R_append_rows_step (Kd.int .i32) (w0 := w) w.heap.size (by rfl) (.tmp 12) (.tmp 14) 25 35 (.int .i32 0) 4 rfl Try.underlying25 info35 rfl (by decide) (by omega) v158 y157 l0_4 _ _ _ (fun k_ => (w.heap.size ≤ k_)) (fun _ => False) rfl rfl ?aO ?aR (fun _ _ h => h) (fun _ h => h.elim) ?aF ?aB ?aS ?aL ?_
   (case aR => repeat (first | exact (Kd.C_below HR0_4.out HB.out) | (with_reducible refine Kd.C_alloc ?_ _) | (with_reducible refine Kd.C_drewN ?_ _) | (with_reducible refine Kd.C_drew ?_)))
   (case aB => exact (by repeat (first | (with_reducible first | exact HB.out | apply bwA | apply bwN | apply bwD | refine below_set ?_ GE153.out) | exact HB.out)))
   (case aF => exact (fun k_ hk => (Nat.le_trans (below_size (by repeat (first | (with_reducible first | exact HB.out | apply bwA | apply bwN | apply bwD | refine below_set ?_ GE153.out) | exact HB.out))) hk)))
   (case aO => exact (by (with_reducible repeat (first | apply rwA | apply rwN | apply rwD)); exact HO159.out))
   (case aS => exact (below_size (by repeat (first | (with_reducible first | exact HB.out | apply bwA | apply bwN | apply bwD | refine below_set ?_ GE153.out) | exact HB.out))))
   (case aL => have := LMc3.out; omega)
   intro v161 w9 ho hb hg hat
   rw [← Ny160.out] at ho
   have n0_ := Aside0.mk (Kd.V_afterv (ok := (fun k_ => (P0_3_ k_ ∨ w.heap.size ≤ k_) ∧ k_ ≠ gb153)) (by (with_reducible repeat (first | apply Kd.V_alloc | apply Kd.V_drewN | apply Kd.V_drew)); exact HO0_3.out) hg hat)
   have n1_ := Aside0.mk (blk_grown (g := gb153) (o := .cells #[.int .i64 a0_0, .int .i64 a0_1, .slice A0_2 l0_2.length c0_2, .slice A0_3 l0_3.length c0_3, .slice A0_4 l0_4.length c0_4, .int .i64 a0_5, .int .i64 a0_6, .slice A0_7 l0_7.length c0_7] 41 (0, 0)) (by (with_reducible repeat (first | apply bkN | apply bkD | apply bkA)); exact BK153.out) hg (Kd.R_ne HO159.out BK153.out (by decide)))
   have n2_ := Aside0.mk (hb)
   have n3_ := Aside0.mk (ho)
   clear HO0_3
   clear BK153
   clear HB
   clear HO159
   have HO0_3 := n0_
   have BK153 := n1_
   have HB := n2_
   have HO162 := n3_
   clear n0_ n1_ n2_ n3_
   clear ho hb hg hat
   refine hK.out _ _ ⟨(blk_cell BK153.out 0).trans rfl, (blk_cell BK153.out 1).trans rfl, (blk_cell BK153.out 2).trans rfl, (blk_cell BK153.out 3).trans rfl, (blk_cell BK153.out 4).trans rfl, (blk_cell BK153.out 5).trans rfl, (blk_cell BK153.out 6).trans rfl, (blk_cell BK153.out 7).trans rfl⟩ (fun hHeld => ?_)
   clear hK K
   refine norm_ (a' := ?_) ?_ ?_
   rotate_left
   ·show Act.put _ (some 15) _ = _
    simp only [Act.put, sqA, sqB, sqC, i64_w, i32_w]
    rfl
   refine pure_ (i := 8) (N := some 3) (v := ?_) (a' := ?_) T44168_9 rfl rfl (any_of HT_.out (by kernel_rfl)) idq (.inl ⟨by rfl, ?_⟩) ?_ ?_
   rotate_left; ·intro w'; go_simp; with_reducible rfl
   rotate_left; ·simp only [Act.put, sqA, sqB, sqC, i64_w, i32_w]; rfl
   refine done_ (done_of HT_.out (by kernel_rfl)) ?_
   have hcz10_0 : w9.cell? ⟨gb153, 0, none⟩ = some (.int .i64 a0_0) := (blk_cell BK153.out 0).trans rfl
   have hcz10_1 : w9.cell? ⟨gb153, 1, none⟩ = some (.int .i64 a0_1) := (blk_cell BK153.out 1).trans rfl
   have hcz10_2 : w9.cell? ⟨gb153, 2, none⟩ = some (.slice A0_2 l0_2.length c0_2) := (blk_cell BK153.out 2).trans rfl
   have hcz10_3 : w9.cell? ⟨gb153, 3, none⟩ = some (.slice A0_3 l0_3.length c0_3) := (blk_cell BK153.out 3).trans rfl
   have hcz10_4 : w9.cell? ⟨gb153, 4, none⟩ = some (.slice A0_4 l0_4.length c0_4) := (blk_cell BK153.out 4).trans rfl
   have hcz10_5 : w9.cell? ⟨gb153, 5, none⟩ = some (.int .i64 a0_5) := (blk_cell BK153.out 5).trans rfl
   have hcz10_6 : w9.cell? ⟨gb153, 6, none⟩ = some (.int .i64 a0_6) := (blk_cell BK153.out 6).trans rfl
   have hcz10_7 : w9.cell? ⟨gb153, 7, none⟩ = some (.slice A0_7 l0_7.length c0_7) := (blk_cell BK153.out 7).trans rfl
   have hfz10_0 := blk_frozen BK153.out 0
   have hfz10_1 := blk_frozen BK153.out 1
   have hfz10_2 := blk_frozen BK153.out 2
   have hfz10_3 := blk_frozen BK153.out 3
   have hfz10_4 := blk_frozen BK153.out 4
   have hfz10_5 := blk_frozen BK153.out 5
   have hfz10_6 := blk_frozen BK153.out 6
   have hfz10_7 := blk_frozen BK153.out 7
   try go_wp2
   go_loopg [3, 19] k (fun kq v3 v19 w' => ∃ (x3_1 : List Int) (x19_1 : Int), v19 = .int .i64 x19_1 ∧ Aside0 (tillerref06_List.l0 kq x3_1 l0_3 (l0_3.length : Int) x19_1 a0_0 a0_1 l0_2 l0_3 l0_4 a0_5 a0_6 l0_7 = some r) ∧ Aside0 (kq ≤ k) ∧ Aside0 (Kd.R (Kd.int .i32) 35 w' w.heap.size (fun k_ => (w.heap.size ≤ k_)) v3 x3_1) ∧ Aside0 (Kd.V k74 74 w' w.heap.size (fun k_ => (P0_3_ k_ ∨ w.heap.size ≤ k_) ∧ some k_ ≠ (v3 : Value).ownBlock ∧ k_ ≠ gb153) (.slice A0_3 l0_3.length c0_3) l0_3) ∧ Aside0 (Kd.V k74 74 w' w.heap.size (fun k_ => (P0_3_ k_ ∨ w.heap.size ≤ k_) ∧ some k_ ≠ (v3 : Value).ownBlock ∧ k_ ≠ gb153) (.slice A0_3 l0_3.length c0_3) l0_3) ∧ Aside0 (w'.heap[gb153]? = some (.cells #[.int .i64 a0_0, .int .i64 a0_1, (.slice A0_2 l0_2.length c0_2), (.slice A0_3 l0_3.length c0_3), (.slice A0_4 l0_4.length c0_4), .int .i64 a0_5, .int .i64 a0_6, (.slice A0_7 l0_7.length c0_7)] 41 (0, 0))) ∧ Aside0 (Below w.heap.size w w'))
   case atStart => exact ⟨(y160), (0), (by first | rfl | (simp; done) | (simp [*]; done)), H', ⟨Nat.le_refl _⟩, ⟨by (with_reducible repeat (first | apply rwA | apply rwN | apply rwD)); exact HO162.out⟩, ⟨by (with_reducible repeat (first | apply Kd.V_alloc | apply Kd.V_drewN | apply Kd.V_drew)); exact Kd.V_mono HO0_3.out (fun _ hk => ⟨hk.1.1, ⟨hk.2, hk.1.2⟩⟩)⟩, ⟨by (with_reducible repeat (first | apply Kd.V_alloc | apply Kd.V_drewN | apply Kd.V_drew)); exact Kd.V_mono HO0_3.out (fun _ hk => ⟨hk.1.1, ⟨hk.2, hk.1.2⟩⟩)⟩, ⟨by (with_reducible repeat (first | apply bkN | apply bkD | apply bkA)); exact BK153.out⟩, ⟨by repeat (first | (with_reducible first | exact HB.out | apply bwA | apply bwN | apply bwD | refine below_set ?_ GE153.out) | exact HB.out)⟩⟩
   case round =>
    clear H'
    try clear c1
    try clear c2
    try clear p2
    try clear c3
    try clear hcz10_0
    try clear hcz10_1
    try clear hcz10_2
    try clear hcz10_3
    try clear hcz10_4
    try clear hcz10_5
    try clear hcz10_6
    try clear hcz10_7
    try clear hfz10_0
    try clear hfz10_1
    try clear hfz10_2
    try clear hfz10_3
    try clear hfz10_4
    try clear hfz10_5
    try clear hfz10_6
    try clear hfz10_7
    obtain ⟨x3_1, x19_1, rfl, HA, HK1, HO_3, HO_17, HO_154003, BK153, HB⟩ := hrel
    cases gk with
    | zero => exact absurd HA.out (by simp [tillerref06_List.l0])
    | succ k1 =>
     have H := HA.out
     clear HA
     simp only [tillerref06_List.l0] at H
     by_cases c11 : x19_1 < (l0_3.length : Int)
     ·rw [if_pos c11] at H
      have c11b0 : decide (x19_1 < (l0_3.length : Int)) = true := decide_eq_true c11
      clear c11
      by_cases c12 : 0 ≤ x19_1
      ·rw [if_pos c12] at H
       have c12b0 : decide (0 ≤ x19_1) = true := decide_eq_true c12
       clear c12
       by_cases c13 : x19_1 < (l0_3.length : Int)
       ·rw [if_pos c13] at H
        have c13b0 : decide (x19_1 < (l0_3.length : Int)) = true := decide_eq_true c13
        clear c13
        by_cases c14 : x3_1.length + ((rd_T74 l0_3 x19_1).f0).length < 35184372088832
        ·rw [if_pos c14] at H
         have LMc14 := Aside0.mk c14
         clear c14
         obtain ⟨y168, hy168⟩ : ∃ y_ : List Int, y_ = (x3_1 ++ ((rd_T74 l0_3 x19_1).f0)) := ⟨_, rfl⟩
         replace H : (if y168.length + ((rd_T74 l0_3 x19_1).f5).length < 35184372088832 then ((some (([(⟨(rd_T74 l0_3 x19_1).f1.f0, (rd_T74 l0_3 x19_1).f1.f1, (rd_T74 l0_3 x19_1).f1.f2⟩ : S27), (⟨(rd_T74 l0_3 x19_1).f2.f0, (rd_T74 l0_3 x19_1).f2.f1, (rd_T74 l0_3 x19_1).f2.f2⟩ : S27), (⟨(rd_T74 l0_3 x19_1).f3.f0, (rd_T74 l0_3 x19_1).f3.f1, (rd_T74 l0_3 x19_1).f3.f2⟩ : S27), (⟨(rd_T74 l0_3 x19_1).f4.f0, (rd_T74 l0_3 x19_1).f4.f1, (rd_T74 l0_3 x19_1).f4.f2⟩ : S27), (⟨(rd_T74 l0_3 x19_1).f6.f0, (rd_T74 l0_3 x19_1).f6.f1, (rd_T74 l0_3 x19_1).f6.f2⟩ : S27), (⟨(rd_T74 l0_3 x19_1).f7.f0, (rd_T74 l0_3 x19_1).f7.f1, (rd_T74 l0_3 x19_1).f7.f2⟩ : S27)] : List (S27)) : List (S27))).bind fun y174 => (tillerref06_List.l1 k1 (y168 ++ ((rd_T74 l0_3 x19_1).f5)) l0_3 (l0_3.length : Int) x19_1 y174 (y174.length : Int) 0 a0_0 a0_1 l0_2 l0_3 l0_4 a0_5 a0_6 l0_7)) else (none)) = some r := by first | (rw [hy168]; with_reducible exact H) | (have H2_ := (Option.bind_some _ _).symm.trans H; rw [hy168]; with_reducible exact H2_) | (have H2_ := (Option.bind_some _ _).symm.trans H; with_reducible exact H2_) | with_reducible exact H | (rw [hy168]; exact H) | exact H
         have Ny168 := Aside0.mk hy168
         clear hy168
         by_cases c15 : y168.length + ((rd_T74 l0_3 x19_1).f5).length < 35184372088832
         ·rw [if_pos c15] at H
          have LMc15 := Aside0.mk c15
          clear c15
          obtain ⟨y171, hy171⟩ : ∃ y_ : List Int, y_ = (y168 ++ ((rd_T74 l0_3 x19_1).f5)) := ⟨_, rfl⟩
          replace H : ((some (([(⟨(rd_T74 l0_3 x19_1).f1.f0, (rd_T74 l0_3 x19_1).f1.f1, (rd_T74 l0_3 x19_1).f1.f2⟩ : S27), (⟨(rd_T74 l0_3 x19_1).f2.f0, (rd_T74 l0_3 x19_1).f2.f1, (rd_T74 l0_3 x19_1).f2.f2⟩ : S27), (⟨(rd_T74 l0_3 x19_1).f3.f0, (rd_T74 l0_3 x19_1).f3.f1, (rd_T74 l0_3 x19_1).f3.f2⟩ : S27), (⟨(rd_T74 l0_3 x19_1).f4.f0, (rd_T74 l0_3 x19_1).f4.f1, (rd_T74 l0_3 x19_1).f4.f2⟩ : S27), (⟨(rd_T74 l0_3 x19_1).f6.f0, (rd_T74 l0_3 x19_1).f6.f1, (rd_T74 l0_3 x19_1).f6.f2⟩ : S27), (⟨(rd_T74 l0_3 x19_1).f7.f0, (rd_T74 l0_3 x19_1).f7.f1, (rd_T74 l0_3 x19_1).f7.f2⟩ : S27)] : List (S27)) : List (S27))).bind fun y174 => (tillerref06_List.l1 k1 y171 l0_3 (l0_3.length : Int) x19_1 y174 (y174.length : Int) 0 a0_0 a0_1 l0_2 l0_3 l0_4 a0_5 a0_6 l0_7)) = some r := by first | (rw [hy171]; with_reducible exact H) | (have H2_ := (Option.bind_some _ _).symm.trans H; rw [hy171]; with_reducible exact H2_) | (have H2_ := (Option.bind_some _ _).symm.trans H; with_reducible exact H2_) | with_reducible exact H | (rw [hy171]; exact H) | exact H
          have Ny171 := Aside0.mk hy171
          clear hy171
          obtain ⟨y174, hy174⟩ : ∃ y_ : List (S27), y_ = (([(⟨(rd_T74 l0_3 x19_1).f1.f0, (rd_T74 l0_3 x19_1).f1.f1, (rd_T74 l0_3 x19_1).f1.f2⟩ : S27), (⟨(rd_T74 l0_3 x19_1).f2.f0, (rd_T74 l0_3 x19_1).f2.f1, (rd_T74 l0_3 x19_1).f2.f2⟩ : S27), (⟨(rd_T74 l0_3 x19_1).f3.f0, (rd_T74 l0_3 x19_1).f3.f1, (rd_T74 l0_3 x19_1).f3.f2⟩ : S27), (⟨(rd_T74 l0_3 x19_1).f4.f0, (rd_T74 l0_3 x19_1).f4.f1, (rd_T74 l0_3 x19_1).f4.f2⟩ : S27), (⟨(rd_T74 l0_3 x19_1).f6.f0, (rd_T74 l0_3 x19_1).f6.f1, (rd_T74 l0_3 x19_1).f6.f2⟩ : S27), (⟨(rd_T74 l0_3 x19_1).f7.f0, (rd_T74 l0_3 x19_1).f7.f1, (rd_T74 l0_3 x19_1).f7.f2⟩ : S27)] : List (S27))) := ⟨_, rfl⟩
          replace H : (tillerref06_List.l1 k1 y171 l0_3 (l0_3.length : Int) x19_1 y174 (y174.length : Int) 0 a0_0 a0_1 l0_2 l0_3 l0_4 a0_5 a0_6 l0_7) = some r := by first | (rw [hy174]; with_reducible exact H) | (have H2_ := (Option.bind_some _ _).symm.trans H; rw [hy174]; with_reducible exact H2_) | (have H2_ := (Option.bind_some _ _).symm.trans H; with_reducible exact H2_) | with_reducible exact H | (rw [hy174]; exact H) | exact H
          have Ny174 := Aside0.mk hy174
          clear hy174
          have H' := Aside0.mk H
          clear H
          have p166 : 0 ≤ (x19_1 : Int) := ofd_
          have q166 : x19_1 < (l0_3.length : Int) := ofd_
          obtain ⟨ad166, A166_0, c166_0, A166_3, c166_3, A166_6, c166_6, A166_9, c166_9, A166_12, c166_12, A166_13, c166_13, A166_16, c166_16, A166_19, c166_19, e166, hx166_0, hx166_1, hx166_2, hx166_3, hx166_4, hx166_5, hx166_6, hx166_7, hx166_8, hx166_9, hx166_10, hx166_11, hx166_12, hx166_13, hx166_14, hx166_15, hx166_16, hx166_17, hx166_18, hx166_19, hl166_0, hi166_0, hl166_3, hi166_3, hl166_6, hi166_6, hl166_9, hi166_9, hl166_12, hi166_12, hl166_13, hi166_13, hl166_16, hi166_16, hl166_19, hi166_19⟩ := at_T74 (Kd.V_reads' HO_17.out).2.2 x19_1 p166 q166
          cases e166
          obtain ⟨ce166, hce166, hMe166, hcc166⟩ := Kd.V_get HO_17.out z74 x19_1 p166 (by first | exact q166 | exact ofd_ | (have e_ := (Kd.V_reads' HO_17.out).1; omega))
          obtain ⟨ua166_0, uc166_0, ua166_3, uc166_3, ua166_6, uc166_6, ua166_9, uc166_9, ua166_12, uc166_12, ua166_13, uc166_13, ua166_16, uc166_16, ua166_19, uc166_19, rfl, ul166_0, ge166_0, ul166_3, ge166_3, ul166_6, ge166_6, ul166_9, ge166_9, ul166_12, ge166_12, ul166_13, ge166_13, ul166_16, ge166_16, ul166_19, ge166_19⟩ := k74_openF hMe166
          have hv166_0 := hcc166 0 _ rfl
          rw [Nat.add_zero] at hv166_0
          replace hv166_0 := Option.some.inj (hv166_0.symm.trans hx166_0)
          injection hv166_0 with hva_ hvn_ hvc_
          rw [hva_] at ge166_0
          rw [hvc_] at ul166_0
          have HL166_0 := Aside0.mk (show Kd.V (Kd.int .i32) 35 _ w.heap.size _ _ ((rd_T74 l0_3 x19_1).f0) from Kd.V_mk ul166_0 ge166_0)
          clear hva_ hvn_ hvc_ ge166_0 ul166_0
          have hv166_3 := hcc166 3 _ rfl
          rw [add_field _ _ 3 (by omega)] at hv166_3
          replace hv166_3 := Option.some.inj (hv166_3.symm.trans hx166_3)
          injection hv166_3 with hva_ hvn_ hvc_
          rw [hva_] at ge166_3
          rw [hvc_] at ul166_3
          have HL166_3 := Aside0.mk (show Kd.V (Kd.int .i32) 35 _ w.heap.size _ _ ((rd_T74 l0_3 x19_1).f1.f2) from Kd.V_mk ul166_3 ge166_3)
          clear hva_ hvn_ hvc_ ge166_3 ul166_3
          have hv166_6 := hcc166 6 _ rfl
          rw [add_field _ _ 6 (by omega)] at hv166_6
          replace hv166_6 := Option.some.inj (hv166_6.symm.trans hx166_6)
          injection hv166_6 with hva_ hvn_ hvc_
          rw [hva_] at ge166_6
          rw [hvc_] at ul166_6
          have HL166_6 := Aside0.mk (show Kd.V (Kd.int .i32) 35 _ w.heap.size _ _ ((rd_T74 l0_3 x19_1).f2.f2) from Kd.V_mk ul166_6 ge166_6)
          clear hva_ hvn_ hvc_ ge166_6 ul166_6
          have hv166_9 := hcc166 9 _ rfl
          rw [add_field _ _ 9 (by omega)] at hv166_9
          replace hv166_9 := Option.some.inj (hv166_9.symm.trans hx166_9)
          injection hv166_9 with hva_ hvn_ hvc_
          rw [hva_] at ge166_9
          rw [hvc_] at ul166_9
          have HL166_9 := Aside0.mk (show Kd.V (Kd.int .i32) 35 _ w.heap.size _ _ ((rd_T74 l0_3 x19_1).f3.f2) from Kd.V_mk ul166_9 ge166_9)
          clear hva_ hvn_ hvc_ ge166_9 ul166_9
          have hv166_12 := hcc166 12 _ rfl
          rw [add_field _ _ 12 (by omega)] at hv166_12
          replace hv166_12 := Option.some.inj (hv166_12.symm.trans hx166_12)
          injection hv166_12 with hva_ hvn_ hvc_
          rw [hva_] at ge166_12
          rw [hvc_] at ul166_12
          have HL166_12 := Aside0.mk (show Kd.V (Kd.int .i32) 35 _ w.heap.size _ _ ((rd_T74 l0_3 x19_1).f4.f2) from Kd.V_mk ul166_12 ge166_12)
          clear hva_ hvn_ hvc_ ge166_12 ul166_12
          have hv166_13 := hcc166 13 _ rfl
          rw [add_field _ _ 13 (by omega)] at hv166_13
          replace hv166_13 := Option.some.inj (hv166_13.symm.trans hx166_13)
          injection hv166_13 with hva_ hvn_ hvc_
          rw [hva_] at ge166_13
          rw [hvc_] at ul166_13
          have HL166_13 := Aside0.mk (show Kd.V (Kd.int .i32) 35 _ w.heap.size _ _ ((rd_T74 l0_3 x19_1).f5) from Kd.V_mk ul166_13 ge166_13)
          clear hva_ hvn_ hvc_ ge166_13 ul166_13
          have hv166_16 := hcc166 16 _ rfl
          rw [add_field _ _ 16 (by omega)] at hv166_16
          replace hv166_16 := Option.some.inj (hv166_16.symm.trans hx166_16)
          injection hv166_16 with hva_ hvn_ hvc_
          rw [hva_] at ge166_16
          rw [hvc_] at ul166_16
          have HL166_16 := Aside0.mk (show Kd.V (Kd.int .i32) 35 _ w.heap.size _ _ ((rd_T74 l0_3 x19_1).f6.f2) from Kd.V_mk ul166_16 ge166_16)
          clear hva_ hvn_ hvc_ ge166_16 ul166_16
          have hv166_19 := hcc166 19 _ rfl
          rw [add_field _ _ 19 (by omega)] at hv166_19
          replace hv166_19 := Option.some.inj (hv166_19.symm.trans hx166_19)
          injection hv166_19 with hva_ hvn_ hvc_
          rw [hva_] at ge166_19
          rw [hvc_] at ul166_19
          have HL166_19 := Aside0.mk (show Kd.V (Kd.int .i32) 35 _ w.heap.size _ _ ((rd_T74 l0_3 x19_1).f7.f2) from Kd.V_mk ul166_19 ge166_19)
          clear hva_ hvn_ hvc_ ge166_19 ul166_19
          clear hcc166 hce166
          have HR166_0 := Aside0.mk hi166_0
          have HC166_0 := Aside0.mk hl166_0
          clear hi166_0 hl166_0
          have HR166_3 := Aside0.mk hi166_3
          have HC166_3 := Aside0.mk hl166_3
          clear hi166_3 hl166_3
          have HR166_6 := Aside0.mk hi166_6
          have HC166_6 := Aside0.mk hl166_6
          clear hi166_6 hl166_6
          have HR166_9 := Aside0.mk hi166_9
          have HC166_9 := Aside0.mk hl166_9
          clear hi166_9 hl166_9
          have HR166_12 := Aside0.mk hi166_12
          have HC166_12 := Aside0.mk hl166_12
          clear hi166_12 hl166_12
          have HR166_13 := Aside0.mk hi166_13
          have HC166_13 := Aside0.mk hl166_13
          clear hi166_13 hl166_13
          have HR166_16 := Aside0.mk hi166_16
          have HC166_16 := Aside0.mk hl166_16
          clear hi166_16 hl166_16
          have HR166_19 := Aside0.mk hi166_19
          have HC166_19 := Aside0.mk hl166_19
          clear hi166_19 hl166_19
          replace p166 := eq_true p166
          replace q166 := eq_true q166
          try go_wp2_with (first | ((with_reducible refine gate_load (t := 74) rfl ?_); refine load_cells_event [.slice A166_0 ((rd_T74 l0_3 x19_1).f0).length c166_0, .int .i64 ((rd_T74 l0_3 x19_1).f1.f0), .int .i64 ((rd_T74 l0_3 x19_1).f1.f1), .slice A166_3 ((rd_T74 l0_3 x19_1).f1.f2).length c166_3, .int .i64 ((rd_T74 l0_3 x19_1).f2.f0), .int .i64 ((rd_T74 l0_3 x19_1).f2.f1), .slice A166_6 ((rd_T74 l0_3 x19_1).f2.f2).length c166_6, .int .i64 ((rd_T74 l0_3 x19_1).f3.f0), .int .i64 ((rd_T74 l0_3 x19_1).f3.f1), .slice A166_9 ((rd_T74 l0_3 x19_1).f3.f2).length c166_9, .int .i64 ((rd_T74 l0_3 x19_1).f4.f0), .int .i64 ((rd_T74 l0_3 x19_1).f4.f1), .slice A166_12 ((rd_T74 l0_3 x19_1).f4.f2).length c166_12, .slice A166_13 ((rd_T74 l0_3 x19_1).f5).length c166_13, .int .i64 ((rd_T74 l0_3 x19_1).f6.f0), .int .i64 ((rd_T74 l0_3 x19_1).f6.f1), .slice A166_16 ((rd_T74 l0_3 x19_1).f6.f2).length c166_16, .int .i64 ((rd_T74 l0_3 x19_1).f7.f0), .int .i64 ((rd_T74 l0_3 x19_1).f7.f1), .slice A166_19 ((rd_T74 l0_3 x19_1).f7.f2).length c166_19] rfl rfl rfl (by first | rfl | (go_simp; done) | (go_simp; rfl)) ⟨by rw [add_add, Nat.add_zero]; exact hx166_0, by rw [add_add, add_field _ _ 1 (by omega)]; exact hx166_1, by rw [add_add, add_field _ _ 2 (by omega)]; exact hx166_2, by rw [add_add, add_field _ _ 3 (by omega)]; exact hx166_3, by rw [add_add, add_field _ _ 4 (by omega)]; exact hx166_4, by rw [add_add, add_field _ _ 5 (by omega)]; exact hx166_5, by rw [add_add, add_field _ _ 6 (by omega)]; exact hx166_6, by rw [add_add, add_field _ _ 7 (by omega)]; exact hx166_7, by rw [add_add, add_field _ _ 8 (by omega)]; exact hx166_8, by rw [add_add, add_field _ _ 9 (by omega)]; exact hx166_9, by rw [add_add, add_field _ _ 10 (by omega)]; exact hx166_10, by rw [add_add, add_field _ _ 11 (by omega)]; exact hx166_11, by rw [add_add, add_field _ _ 12 (by omega)]; exact hx166_12, by rw [add_add, add_field _ _ 13 (by omega)]; exact hx166_13, by rw [add_add, add_field _ _ 14 (by omega)]; exact hx166_14, by rw [add_add, add_field _ _ 15 (by omega)]; exact hx166_15, by rw [add_add, add_field _ _ 16 (by omega)]; exact hx166_16, by rw [add_add, add_field _ _ 17 (by omega)]; exact hx166_17, by rw [add_add, add_field _ _ 18 (by omega)]; exact hx166_18, by rw [add_add, add_field _ _ 19 (by omega)]; exact hx166_19, trivial⟩ Try.underlying74 rfl (by kernel_rfl) ?_) | ((with_reducible refine gate_store (t := 74) (p := 5) rfl ?_); refine store_box_event #[.slice A166_0 ((rd_T74 l0_3 x19_1).f0).length c166_0, .int .i64 ((rd_T74 l0_3 x19_1).f1.f0), .int .i64 ((rd_T74 l0_3 x19_1).f1.f1), .slice A166_3 ((rd_T74 l0_3 x19_1).f1.f2).length c166_3, .int .i64 ((rd_T74 l0_3 x19_1).f2.f0), .int .i64 ((rd_T74 l0_3 x19_1).f2.f1), .slice A166_6 ((rd_T74 l0_3 x19_1).f2.f2).length c166_6, .int .i64 ((rd_T74 l0_3 x19_1).f3.f0), .int .i64 ((rd_T74 l0_3 x19_1).f3.f1), .slice A166_9 ((rd_T74 l0_3 x19_1).f3.f2).length c166_9, .int .i64 ((rd_T74 l0_3 x19_1).f4.f0), .int .i64 ((rd_T74 l0_3 x19_1).f4.f1), .slice A166_12 ((rd_T74 l0_3 x19_1).f4.f2).length c166_12, .slice A166_13 ((rd_T74 l0_3 x19_1).f5).length c166_13, .int .i64 ((rd_T74 l0_3 x19_1).f6.f0), .int .i64 ((rd_T74 l0_3 x19_1).f6.f1), .slice A166_16 ((rd_T74 l0_3 x19_1).f6.f2).length c166_16, .int .i64 ((rd_T74 l0_3 x19_1).f7.f0), .int .i64 ((rd_T74 l0_3 x19_1).f7.f1), .slice A166_19 ((rd_T74 l0_3 x19_1).f7.f2).length c166_19] rfl rfl rfl (by first | rfl | (go_simp; done) | (go_simp; rfl)) (by first | rfl | (go_simp; done) | (go_simp; rfl)) BK167.out (by kernel_rfl) rfl (by simp [Value.oneCell']) ?_) | ((with_reducible refine gate_dst (N := 5) rfl ?_); refine box_event ?hg (N := 5) ?hd (cs := #[.slice none 0 0, .int .i64 0, .int .i64 0, .slice none 0 0, .int .i64 0, .int .i64 0, .slice none 0 0, .int .i64 0, .int .i64 0, .slice none 0 0, .int .i64 0, .int .i64 0, .slice none 0 0, .slice none 0 0, .int .i64 0, .int .i64 0, .slice none 0 0, .int .i64 0, .int .i64 0, .slice none 0 0]) (t := 74) ?hr ?_; (case hd => rfl); (case hg => rfl); (case hr => first | (go_simp; done) | (go_simp; rfl)); intro gb167 hg w16 hbox hb; have n0_ := Aside0.mk (Kd.R_below (by (with_reducible repeat (first | apply rwA | apply rwN | apply rwD)); exact HO_3.out) hb); have n1_ := Aside0.mk (Kd.V_below (Kd.V_elderB (by (with_reducible repeat (first | apply Kd.V_alloc | apply Kd.V_drewN | apply Kd.V_drew)); exact HO_17.out) gb167 (Nat.le_of_eq hg.symm)) hb); have n2_ := Aside0.mk (Kd.V_below (Kd.V_elderB (by (with_reducible repeat (first | apply Kd.V_alloc | apply Kd.V_drewN | apply Kd.V_drew)); exact HO_154003.out) gb167 (Nat.le_of_eq hg.symm)) hb); have n3_ := Aside0.mk (Kd.V_below (Kd.V_elderB (by (with_reducible repeat (first | apply Kd.V_alloc | apply Kd.V_drewN | apply Kd.V_drew)); exact HL166_0.out) gb167 (Nat.le_of_eq hg.symm)) hb); have n4_ := Aside0.mk (Kd.V_below (Kd.V_elderB (by (with_reducible repeat (first | apply Kd.V_alloc | apply Kd.V_drewN | apply Kd.V_drew)); exact HL166_3.out) gb167 (Nat.le_of_eq hg.symm)) hb); have n5_ := Aside0.mk (Kd.V_below (Kd.V_elderB (by (with_reducible repeat (first | apply Kd.V_alloc | apply Kd.V_drewN | apply Kd.V_drew)); exact HL166_6.out) gb167 (Nat.le_of_eq hg.symm)) hb); have n6_ := Aside0.mk (Kd.V_below (Kd.V_elderB (by (with_reducible repeat (first | apply Kd.V_alloc | apply Kd.V_drewN | apply Kd.V_drew)); exact HL166_9.out) gb167 (Nat.le_of_eq hg.symm)) hb); have n7_ := Aside0.mk (Kd.V_below (Kd.V_elderB (by (with_reducible repeat (first | apply Kd.V_alloc | apply Kd.V_drewN | apply Kd.V_drew)); exact HL166_12.out) gb167 (Nat.le_of_eq hg.symm)) hb); have n8_ := Aside0.mk (Kd.V_below (Kd.V_elderB (by (with_reducible repeat (first | apply Kd.V_alloc | apply Kd.V_drewN | apply Kd.V_drew)); exact HL166_13.out) gb167 (Nat.le_of_eq hg.symm)) hb); have n9_ := Aside0.mk (Kd.V_below (Kd.V_elderB (by (with_reducible repeat (first | apply Kd.V_alloc | apply Kd.V_drewN | apply Kd.V_drew)); exact HL166_16.out) gb167 (Nat.le_of_eq hg.symm)) hb); have n10_ := Aside0.mk (Kd.V_below (Kd.V_elderB (by (with_reducible repeat (first | apply Kd.V_alloc | apply Kd.V_drewN | apply Kd.V_drew)); exact HL166_19.out) gb167 (Nat.le_of_eq hg.symm)) hb); have n11_ := Aside0.mk (blk_below (g := gb153) (o := .cells #[.int .i64 a0_0, .int .i64 a0_1, .slice A0_2 l0_2.length c0_2, .slice (some ad166) l0_3.length c0_3, .slice A0_4 l0_4.length c0_4, .int .i64 a0_5, .int .i64 a0_6, .slice A0_7 l0_7.length c0_7] 41 (0, 0)) (by (with_reducible repeat (first | apply bkN | apply bkD | apply bkA)); exact BK153.out) hb); have n12_ := Aside0.mk (Kd.C_below (by repeat (first | (with_reducible exact HR166_0.out) | (with_reducible refine Kd.C_alloc ?_ _) | (with_reducible refine Kd.C_drewN ?_ _) | (with_reducible refine Kd.C_drew ?_) | exact HR166_0.out)) hb); have n13_ := Aside0.mk (Kd.C_below (by repeat (first | (with_reducible exact HR166_3.out) | (with_reducible refine Kd.C_alloc ?_ _) | (with_reducible refine Kd.C_drewN ?_ _) | (with_reducible refine Kd.C_drew ?_) | exact HR166_3.out)) hb); have n14_ := Aside0.mk (Kd.C_below (by repeat (first | (with_reducible exact HR166_6.out) | (with_reducible refine Kd.C_alloc ?_ _) | (with_reducible refine Kd.C_drewN ?_ _) | (with_reducible refine Kd.C_drew ?_) | exact HR166_6.out)) hb); have n15_ := Aside0.mk (Kd.C_below (by repeat (first | (with_reducible exact HR166_9.out) | (with_reducible refine Kd.C_alloc ?_ _) | (with_reducible refine Kd.C_drewN ?_ _) | (with_reducible refine Kd.C_drew ?_) | exact HR166_9.out)) hb); have n16_ := Aside0.mk (Kd.C_below (by repeat (first | (with_reducible exact HR166_12.out) | (with_reducible refine Kd.C_alloc ?_ _) | (with_reducible refine Kd.C_drewN ?_ _) | (with_reducible refine Kd.C_drew ?_) | exact HR166_12.out)) hb); have n17_ := Aside0.mk (Kd.C_below (by repeat (first | (with_reducible exact HR166_13.out) | (with_reducible refine Kd.C_alloc ?_ _) | (with_reducible refine Kd.C_drewN ?_ _) | (with_reducible refine Kd.C_drew ?_) | exact HR166_13.out)) hb); have n18_ := Aside0.mk (Kd.C_below (by repeat (first | (with_reducible exact HR166_16.out) | (with_reducible refine Kd.C_alloc ?_ _) | (with_reducible refine Kd.C_drewN ?_ _) | (with_reducible refine Kd.C_drew ?_) | exact HR166_16.out)) hb); have n19_ := Aside0.mk (Kd.C_below (by repeat (first | (with_reducible exact HR166_19.out) | (with_reducible refine Kd.C_alloc ?_ _) | (with_reducible refine Kd.C_drewN ?_ _) | (with_reducible refine Kd.C_drew ?_) | exact HR166_19.out)) hb); have n20_ := Aside0.mk (below_step (by repeat (first | (with_reducible first | exact HB.out | apply bwA | apply bwN | apply bwD | refine below_set ?_ GE153.out) | exact HB.out)) hb); have n21_ := Aside0.mk (hbox); have n22_ := Aside0.mk ((by rw [hg]; exact (below_size (by repeat (first | (with_reducible first | exact HB.out | apply bwA | apply bwN | apply bwD | refine below_set ?_ GE153.out) | exact HB.out))) : w.heap.size ≤ gb167)); have n23_ := Aside0.mk ((by rw [hg]; exact (below_size (by repeat (first | (with_reducible first | exact HB.out | apply bwA | apply bwN | apply bwD | refine below_set ?_ GE153.out) | exact HB.out))) : w.heap.size ≤ gb167)); have n24_ := Aside0.mk ((by rw [hg]; exact Nat.ne_of_lt (blk_lt (g := gb153) (o := .cells #[.int .i64 a0_0, .int .i64 a0_1, .slice A0_2 l0_2.length c0_2, .slice (some ad166) l0_3.length c0_3, .slice A0_4 l0_4.length c0_4, .int .i64 a0_5, .int .i64 a0_6, .slice A0_7 l0_7.length c0_7] 41 (0, 0)) (by (with_reducible repeat (first | apply bkN | apply bkD | apply bkA)); exact BK153.out)) : gb153 ≠ gb167)); have n25_ := Aside0.mk ((by rw [hg]; exact Nat.ne_of_gt (blk_lt (g := gb153) (o := .cells #[.int .i64 a0_0, .int .i64 a0_1, .slice A0_2 l0_2.length c0_2, .slice (some ad166) l0_3.length c0_3, .slice A0_4 l0_4.length c0_4, .int .i64 a0_5, .int .i64 a0_6, .slice A0_7 l0_7.length c0_7] 41 (0, 0)) (by (with_reducible repeat (first | apply bkN | apply bkD | apply bkA)); exact BK153.out)) : gb167 ≠ gb153)); clear HO_3; clear HO_17; clear HO_154003; clear HL166_0; clear HL166_3; clear HL166_6; clear HL166_9; clear HL166_12; clear HL166_13; clear HL166_16; clear HL166_19; clear BK153; clear HR166_0; clear HR166_3; clear HR166_6; clear HR166_9; clear HR166_12; clear HR166_13; clear HR166_16; clear HR166_19; clear HB; have HO_3 := n0_; have HO_17 := n1_; have HO_154003 := n2_; have HL166_0 := n3_; have HL166_3 := n4_; have HL166_6 := n5_; have HL166_9 := n6_; have HL166_12 := n7_; have HL166_13 := n8_; have HL166_16 := n9_; have HL166_19 := n10_; have BK153 := n11_; have HR166_0 := n12_; have HR166_3 := n13_; have HR166_6 := n14_; have HR166_9 := n15_; have HR166_12 := n16_; have HR166_13 := n17_; have HR166_16 := n18_; have HR166_19 := n19_; have HB := n20_; have BK167 := n21_; have GW167 := n22_; have GE167 := n23_; have NB153_167 := n24_; have NB167_153 := n25_; clear n0_ n1_ n2_ n3_ n4_ n5_ n6_ n7_ n8_ n9_ n10_ n11_ n12_ n13_ n14_ n15_ n16_ n17_ n18_ n19_ n20_ n21_ n22_ n23_ n24_ n25_; clear hb hbox hg; have hnb17 := NB167_153.out; have hnc17 := NB153_167.out; have hcz18_0 : w16.cell? ⟨gb167, 0, none⟩ = some (.slice none 0 0) := (blk_cell BK167.out 0).trans rfl; have hcz18_1 : w16.cell? ⟨gb167, 1, none⟩ = some (.int .i64 0) := (blk_cell BK167.out 1).trans rfl; have hcz18_2 : w16.cell? ⟨gb167, 2, none⟩ = some (.int .i64 0) := (blk_cell BK167.out 2).trans rfl; have hcz18_3 : w16.cell? ⟨gb167, 3, none⟩ = some (.slice none 0 0) := (blk_cell BK167.out 3).trans rfl; have hcz18_4 : w16.cell? ⟨gb167, 4, none⟩ = some (.int .i64 0) := (blk_cell BK167.out 4).trans rfl; have hcz18_5 : w16.cell? ⟨gb167, 5, none⟩ = some (.int .i64 0) := (blk_cell BK167.out 5).trans rfl; have hcz18_6 : w16.cell? ⟨gb167, 6, none⟩ = some (.slice none 0 0) := (blk_cell BK167.out 6).trans rfl; have hcz18_7 : w16.cell? ⟨gb167, 7, none⟩ = some (.int .i64 0) := (blk_cell BK167.out 7).trans rfl; have hcz18_8 : w16.cell? ⟨gb167, 8, none⟩ = some (.int .i64 0) := (blk_cell BK167.out 8).trans rfl; have hcz18_9 : w16.cell? ⟨gb167, 9, none⟩ = some (.slice none 0 0) := (blk_cell BK167.out 9).trans rfl; have hcz18_10 : w16.cell? ⟨gb167, 10, none⟩ = some (.int .i64 0) := (blk_cell BK167.out 10).trans rfl; have hcz18_11 : w16.cell? ⟨gb167, 11, none⟩ = some (.int .i64 0) := (blk_cell BK167.out 11).trans rfl; have hcz18_12 : w16.cell? ⟨gb167, 12, none⟩ = some (.slice none 0 0) := (blk_cell BK167.out 12).trans rfl; have hcz18_13 : w16.cell? ⟨gb167, 13, none⟩ = some (.slice none 0 0) := (blk_cell BK167.out 13).trans rfl; have hcz18_14 : w16.cell? ⟨gb167, 14, none⟩ = some (.int .i64 0) := (blk_cell BK167.out 14).trans rfl; have hcz18_15 : w16.cell? ⟨gb167, 15, none⟩ = some (.int .i64 0) := (blk_cell BK167.out 15).trans rfl; have hcz18_16 : w16.cell? ⟨gb167, 16, none⟩ = some (.slice none 0 0) := (blk_cell BK167.out 16).trans rfl; have hcz18_17 : w16.cell? ⟨gb167, 17, none⟩ = some (.int .i64 0) := (blk_cell BK167.out 17).trans rfl; have hcz18_18 : w16.cell? ⟨gb167, 18, none⟩ = some (.int .i64 0) := (blk_cell BK167.out 18).trans rfl; have hcz18_19 : w16.cell? ⟨gb167, 19, none⟩ = some (.slice none 0 0) := (blk_cell BK167.out 19).trans rfl; have hfz18_0 := blk_frozen BK167.out 0; have hfz18_1 := blk_frozen BK167.out 1; have hfz18_2 := blk_frozen BK167.out 2; have hfz18_3 := blk_frozen BK167.out 3; have hfz18_4 := blk_frozen BK167.out 4; have hfz18_5 := blk_frozen BK167.out 5; have hfz18_6 := blk_frozen BK167.out 6; have hfz18_7 := blk_frozen BK167.out 7; have hfz18_8 := blk_frozen BK167.out 8; have hfz18_9 := blk_frozen BK167.out 9; have hfz18_10 := blk_frozen BK167.out 10; have hfz18_11 := blk_frozen BK167.out 11; have hfz18_12 := blk_frozen BK167.out 12; have hfz18_13 := blk_frozen BK167.out 13; have hfz18_14 := blk_frozen BK167.out 14; have hfz18_15 := blk_frozen BK167.out 15; have hfz18_16 := blk_frozen BK167.out 16; have hfz18_17 := blk_frozen BK167.out 17; have hfz18_18 := blk_frozen BK167.out 18; have hfz18_19 := blk_frozen BK167.out 19))
          have n0_ : Aside0 (Kd.R (Kd.int .i32) 35 (w16.setRow gb167 #[.slice A166_0 ((rd_T74 l0_3 x19_1).f0).length c166_0, .int .i64 ((rd_T74 l0_3 x19_1).f1.f0), .int .i64 ((rd_T74 l0_3 x19_1).f1.f1), .slice A166_3 ((rd_T74 l0_3 x19_1).f1.f2).length c166_3, .int .i64 ((rd_T74 l0_3 x19_1).f2.f0), .int .i64 ((rd_T74 l0_3 x19_1).f2.f1), .slice A166_6 ((rd_T74 l0_3 x19_1).f2.f2).length c166_6, .int .i64 ((rd_T74 l0_3 x19_1).f3.f0), .int .i64 ((rd_T74 l0_3 x19_1).f3.f1), .slice A166_9 ((rd_T74 l0_3 x19_1).f3.f2).length c166_9, .int .i64 ((rd_T74 l0_3 x19_1).f4.f0), .int .i64 ((rd_T74 l0_3 x19_1).f4.f1), .slice A166_12 ((rd_T74 l0_3 x19_1).f4.f2).length c166_12, .slice A166_13 ((rd_T74 l0_3 x19_1).f5).length c166_13, .int .i64 ((rd_T74 l0_3 x19_1).f6.f0), .int .i64 ((rd_T74 l0_3 x19_1).f6.f1), .slice A166_16 ((rd_T74 l0_3 x19_1).f6.f2).length c166_16, .int .i64 ((rd_T74 l0_3 x19_1).f7.f0), .int .i64 ((rd_T74 l0_3 x19_1).f7.f1), .slice A166_19 ((rd_T74 l0_3 x19_1).f7.f2).length c166_19]) w.heap.size (fun k_ => (w.heap.size ≤ k_)) u3 x3_1) := ⟨by (with_reducible repeat (first | apply rwA | apply rwN | apply rwD)); exact Kd.R_mono (Kd.R_keep (Kd.R_types HO_3.out BK167.out (by decide)) (keep_setRow _ _ _) (fun _ hk => hk.2)) (fun _ hk => hk.1)⟩
          have n1_ : Aside0 (Kd.V k74 74 (w16.setRow gb167 #[.slice A166_0 ((rd_T74 l0_3 x19_1).f0).length c166_0, .int .i64 ((rd_T74 l0_3 x19_1).f1.f0), .int .i64 ((rd_T74 l0_3 x19_1).f1.f1), .slice A166_3 ((rd_T74 l0_3 x19_1).f1.f2).length c166_3, .int .i64 ((rd_T74 l0_3 x19_1).f2.f0), .int .i64 ((rd_T74 l0_3 x19_1).f2.f1), .slice A166_6 ((rd_T74 l0_3 x19_1).f2.f2).length c166_6, .int .i64 ((rd_T74 l0_3 x19_1).f3.f0), .int .i64 ((rd_T74 l0_3 x19_1).f3.f1), .slice A166_9 ((rd_T74 l0_3 x19_1).f3.f2).length c166_9, .int .i64 ((rd_T74 l0_3 x19_1).f4.f0), .int .i64 ((rd_T74 l0_3 x19_1).f4.f1), .slice A166_12 ((rd_T74 l0_3 x19_1).f4.f2).length c166_12, .slice A166_13 ((rd_T74 l0_3 x19_1).f5).length c166_13, .int .i64 ((rd_T74 l0_3 x19_1).f6.f0), .int .i64 ((rd_T74 l0_3 x19_1).f6.f1), .slice A166_16 ((rd_T74 l0_3 x19_1).f6.f2).length c166_16, .int .i64 ((rd_T74 l0_3 x19_1).f7.f0), .int .i64 ((rd_T74 l0_3 x19_1).f7.f1), .slice A166_19 ((rd_T74 l0_3 x19_1).f7.f2).length c166_19]) w.heap.size (fun k_ => (P0_3_ k_ ∨ w.heap.size ≤ k_) ∧ some k_ ≠ (u3 : Value).ownBlock ∧ k_ ≠ gb153 ∧ k_ ≠ gb167) (.slice (some ad166) l0_3.length c0_3) l0_3) := ⟨by (with_reducible repeat (first | apply Kd.V_alloc | apply Kd.V_drewN | apply Kd.V_drew)); exact Kd.V_mono (Kd.V_keep (Kd.V_mono HO_17.out (fun k_ hk => (⟨hk, hk.2⟩ : _ ∧ k_ ≠ gb167))) (keep_setRow _ _ _) (fun _ hk => hk.2)) (fun _ hk => ⟨hk.1.1.1, ⟨hk.1.1.2.1, ⟨hk.1.1.2.2, hk.1.2⟩⟩⟩)⟩
          have n2_ : Aside0 (Kd.V k74 74 (w16.setRow gb167 #[.slice A166_0 ((rd_T74 l0_3 x19_1).f0).length c166_0, .int .i64 ((rd_T74 l0_3 x19_1).f1.f0), .int .i64 ((rd_T74 l0_3 x19_1).f1.f1), .slice A166_3 ((rd_T74 l0_3 x19_1).f1.f2).length c166_3, .int .i64 ((rd_T74 l0_3 x19_1).f2.f0), .int .i64 ((rd_T74 l0_3 x19_1).f2.f1), .slice A166_6 ((rd_T74 l0_3 x19_1).f2.f2).length c166_6, .int .i64 ((rd_T74 l0_3 x19_1).f3.f0), .int .i64 ((rd_T74 l0_3 x19_1).f3.f1), .slice A166_9 ((rd_T74 l0_3 x19_1).f3.f2).length c166_9, .int .i64 ((rd_T74 l0_3 x19_1).f4.f0), .int .i64 ((rd_T74 l0_3 x19_1).f4.f1), .slice A166_12 ((rd_T74 l0_3 x19_1).f4.f2).length c166_12, .slice A166_13 ((rd_T74 l0_3 x19_1).f5).length c166_13, .int .i64 ((rd_T74 l0_3 x19_1).f6.f0), .int .i64 ((rd_T74 l0_3 x19_1).f6.f1), .slice A166_16 ((rd_T74 l0_3 x19_1).f6.f2).length c166_16, .int .i64 ((rd_T74 l0_3 x19_1).f7.f0), .int .i64 ((rd_T74 l0_3 x19_1).f7.f1), .slice A166_19 ((rd_T74 l0_3 x19_1).f7.f2).length c166_19]) w.heap.size (fun k_ => (P0_3_ k_ ∨ w.heap.size ≤ k_) ∧ some k_ ≠ (u3 : Value).ownBlock ∧ k_ ≠ gb153 ∧ k_ ≠ gb167) (.slice (some ad166) l0_3.length c0_3) l0_3) := ⟨by (with_reducible repeat (first | apply Kd.V_alloc | apply Kd.V_drewN | apply Kd.V_drew)); exact Kd.V_mono (Kd.V_keep (Kd.V_mono HO_154003.out (fun k_ hk => (⟨hk, hk.2⟩ : _ ∧ k_ ≠ gb167))) (keep_setRow _ _ _) (fun _ hk => hk.2)) (fun _ hk => ⟨hk.1.1.1, ⟨hk.1.1.2.1, ⟨hk.1.1.2.2, hk.1.2⟩⟩⟩)⟩
          have n3_ : Aside0 (Kd.V (Kd.int .i32) 35 (w16.setRow gb167 #[.slice A166_0 ((rd_T74 l0_3 x19_1).f0).length c166_0, .int .i64 ((rd_T74 l0_3 x19_1).f1.f0), .int .i64 ((rd_T74 l0_3 x19_1).f1.f1), .slice A166_3 ((rd_T74 l0_3 x19_1).f1.f2).length c166_3, .int .i64 ((rd_T74 l0_3 x19_1).f2.f0), .int .i64 ((rd_T74 l0_3 x19_1).f2.f1), .slice A166_6 ((rd_T74 l0_3 x19_1).f2.f2).length c166_6, .int .i64 ((rd_T74 l0_3 x19_1).f3.f0), .int .i64 ((rd_T74 l0_3 x19_1).f3.f1), .slice A166_9 ((rd_T74 l0_3 x19_1).f3.f2).length c166_9, .int .i64 ((rd_T74 l0_3 x19_1).f4.f0), .int .i64 ((rd_T74 l0_3 x19_1).f4.f1), .slice A166_12 ((rd_T74 l0_3 x19_1).f4.f2).length c166_12, .slice A166_13 ((rd_T74 l0_3 x19_1).f5).length c166_13, .int .i64 ((rd_T74 l0_3 x19_1).f6.f0), .int .i64 ((rd_T74 l0_3 x19_1).f6.f1), .slice A166_16 ((rd_T74 l0_3 x19_1).f6.f2).length c166_16, .int .i64 ((rd_T74 l0_3 x19_1).f7.f0), .int .i64 ((rd_T74 l0_3 x19_1).f7.f1), .slice A166_19 ((rd_T74 l0_3 x19_1).f7.f2).length c166_19]) w.heap.size (fun k_ => (P0_3_ k_ ∨ w.heap.size ≤ k_) ∧ some k_ ≠ (u3 : Value).ownBlock ∧ k_ ≠ gb153 ∧ k_ ≠ gb167) (.slice A166_0 ((rd_T74 l0_3 x19_1).f0).length c166_0) ((rd_T74 l0_3 x19_1).f0)) := ⟨by (with_reducible repeat (first | apply Kd.V_alloc | apply Kd.V_drewN | apply Kd.V_drew)); exact Kd.V_mono (Kd.V_keep (Kd.V_mono HL166_0.out (fun k_ hk => (⟨hk, hk.2⟩ : _ ∧ k_ ≠ gb167))) (keep_setRow _ _ _) (fun _ hk => hk.2)) (fun _ hk => ⟨hk.1.1.1, ⟨hk.1.1.2.1, ⟨hk.1.1.2.2, hk.1.2⟩⟩⟩)⟩
          have n4_ : Aside0 (Kd.V (Kd.int .i32) 35 (w16.setRow gb167 #[.slice A166_0 ((rd_T74 l0_3 x19_1).f0).length c166_0, .int .i64 ((rd_T74 l0_3 x19_1).f1.f0), .int .i64 ((rd_T74 l0_3 x19_1).f1.f1), .slice A166_3 ((rd_T74 l0_3 x19_1).f1.f2).length c166_3, .int .i64 ((rd_T74 l0_3 x19_1).f2.f0), .int .i64 ((rd_T74 l0_3 x19_1).f2.f1), .slice A166_6 ((rd_T74 l0_3 x19_1).f2.f2).length c166_6, .int .i64 ((rd_T74 l0_3 x19_1).f3.f0), .int .i64 ((rd_T74 l0_3 x19_1).f3.f1), .slice A166_9 ((rd_T74 l0_3 x19_1).f3.f2).length c166_9, .int .i64 ((rd_T74 l0_3 x19_1).f4.f0), .int .i64 ((rd_T74 l0_3 x19_1).f4.f1), .slice A166_12 ((rd_T74 l0_3 x19_1).f4.f2).length c166_12, .slice A166_13 ((rd_T74 l0_3 x19_1).f5).length c166_13, .int .i64 ((rd_T74 l0_3 x19_1).f6.f0), .int .i64 ((rd_T74 l0_3 x19_1).f6.f1), .slice A166_16 ((rd_T74 l0_3 x19_1).f6.f2).length c166_16, .int .i64 ((rd_T74 l0_3 x19_1).f7.f0), .int .i64 ((rd_T74 l0_3 x19_1).f7.f1), .slice A166_19 ((rd_T74 l0_3 x19_1).f7.f2).length c166_19]) w.heap.size (fun k_ => (P0_3_ k_ ∨ w.heap.size ≤ k_) ∧ some k_ ≠ (u3 : Value).ownBlock ∧ k_ ≠ gb153 ∧ k_ ≠ gb167) (.slice A166_3 ((rd_T74 l0_3 x19_1).f1.f2).length c166_3) ((rd_T74 l0_3 x19_1).f1.f2)) := ⟨by (with_reducible repeat (first | apply Kd.V_alloc | apply Kd.V_drewN | apply Kd.V_drew)); exact Kd.V_mono (Kd.V_keep (Kd.V_mono HL166_3.out (fun k_ hk => (⟨hk, hk.2⟩ : _ ∧ k_ ≠ gb167))) (keep_setRow _ _ _) (fun _ hk => hk.2)) (fun _ hk => ⟨hk.1.1.1, ⟨hk.1.1.2.1, ⟨hk.1.1.2.2, hk.1.2⟩⟩⟩)⟩
          have n5_ : Aside0 (Kd.V (Kd.int .i32) 35 (w16.setRow gb167 #[.slice A166_0 ((rd_T74 l0_3 x19_1).f0).length c166_0, .int .i64 ((rd_T74 l0_3 x19_1).f1.f0), .int .i64 ((rd_T74 l0_3 x19_1).f1.f1), .slice A166_3 ((rd_T74 l0_3 x19_1).f1.f2).length c166_3, .int .i64 ((rd_T74 l0_3 x19_1).f2.f0), .int .i64 ((rd_T74 l0_3 x19_1).f2.f1), .slice A166_6 ((rd_T74 l0_3 x19_1).f2.f2).length c166_6, .int .i64 ((rd_T74 l0_3 x19_1).f3.f0), .int .i64 ((rd_T74 l0_3 x19_1).f3.f1), .slice A166_9 ((rd_T74 l0_3 x19_1).f3.f2).length c166_9, .int .i64 ((rd_T74 l0_3 x19_1).f4.f0), .int .i64 ((rd_T74 l0_3 x19_1).f4.f1), .slice A166_12 ((rd_T74 l0_3 x19_1).f4.f2).length c166_12, .slice A166_13 ((rd_T74 l0_3 x19_1).f5).length c166_13, .int .i64 ((rd_T74 l0_3 x19_1).f6.f0), .int .i64 ((rd_T74 l0_3 x19_1).f6.f1), .slice A166_16 ((rd_T74 l0_3 x19_1).f6.f2).length c166_16, .int .i64 ((rd_T74 l0_3 x19_1).f7.f0), .int .i64 ((rd_T74 l0_3 x19_1).f7.f1), .slice A166_19 ((rd_T74 l0_3 x19_1).f7.f2).length c166_19]) w.heap.size (fun k_ => (P0_3_ k_ ∨ w.heap.size ≤ k_) ∧ some k_ ≠ (u3 : Value).ownBlock ∧ k_ ≠ gb153 ∧ k_ ≠ gb167) (.slice A166_6 ((rd_T74 l0_3 x19_1).f2.f2).length c166_6) ((rd_T74 l0_3 x19_1).f2.f2)) := ⟨by (with_reducible repeat (first | apply Kd.V_alloc | apply Kd.V_drewN | apply Kd.V_drew)); exact Kd.V_mono (Kd.V_keep (Kd.V_mono HL166_6.out (fun k_ hk => (⟨hk, hk.2⟩ : _ ∧ k_ ≠ gb167))) (keep_setRow _ _ _) (fun _ hk => hk.2)) (fun _ hk => ⟨hk.1.1.1, ⟨hk.1.1.2.1, ⟨hk.1.1.2.2, hk.1.2⟩⟩⟩)⟩
          have n6_ : Aside0 (Kd.V (Kd.int .i32) 35 (w16.setRow gb167 #[.slice A166_0 ((rd_T74 l0_3 x19_1).f0).length c166_0, .int .i64 ((rd_T74 l0_3 x19_1).f1.f0), .int .i64 ((rd_T74 l0_3 x19_1).f1.f1), .slice A166_3 ((rd_T74 l0_3 x19_1).f1.f2).length c166_3, .int .i64 ((rd_T74 l0_3 x19_1).f2.f0), .int .i64 ((rd_T74 l0_3 x19_1).f2.f1), .slice A166_6 ((rd_T74 l0_3 x19_1).f2.f2).length c166_6, .int .i64 ((rd_T74 l0_3 x19_1).f3.f0), .int .i64 ((rd_T74 l0_3 x19_1).f3.f1), .slice A166_9 ((rd_T74 l0_3 x19_1).f3.f2).length c166_9, .int .i64 ((rd_T74 l0_3 x19_1).f4.f0), .int .i64 ((rd_T74 l0_3 x19_1).f4.f1), .slice A166_12 ((rd_T74 l0_3 x19_1).f4.f2).length c166_12, .slice A166_13 ((rd_T74 l0_3 x19_1).f5).length c166_13, .int .i64 ((rd_T74 l0_3 x19_1).f6.f0), .int .i64 ((rd_T74 l0_3 x19_1).f6.f1), .slice A166_16 ((rd_T74 l0_3 x19_1).f6.f2).length c166_16, .int .i64 ((rd_T74 l0_3 x19_1).f7.f0), .int .i64 ((rd_T74 l0_3 x19_1).f7.f1), .slice A166_19 ((rd_T74 l0_3 x19_1).f7.f2).length c166_19]) w.heap.size (fun k_ => (P0_3_ k_ ∨ w.heap.size ≤ k_) ∧ some k_ ≠ (u3 : Value).ownBlock ∧ k_ ≠ gb153 ∧ k_ ≠ gb167) (.slice A166_9 ((rd_T74 l0_3 x19_1).f3.f2).length c166_9) ((rd_T74 l0_3 x19_1).f3.f2)) := ⟨by (with_reducible repeat (first | apply Kd.V_alloc | apply Kd.V_drewN | apply Kd.V_drew)); exact Kd.V_mono (Kd.V_keep (Kd.V_mono HL166_9.out (fun k_ hk => (⟨hk, hk.2⟩ : _ ∧ k_ ≠ gb167))) (keep_setRow _ _ _) (fun _ hk => hk.2)) (fun _ hk => ⟨hk.1.1.1, ⟨hk.1.1.2.1, ⟨hk.1.1.2.2, hk.1.2⟩⟩⟩)⟩
          have n7_ : Aside0 (Kd.V (Kd.int .i32) 35 (w16.setRow gb167 #[.slice A166_0 ((rd_T74 l0_3 x19_1).f0).length c166_0, .int .i64 ((rd_T74 l0_3 x19_1).f1.f0), .int .i64 ((rd_T74 l0_3 x19_1).f1.f1), .slice A166_3 ((rd_T74 l0_3 x19_1).f1.f2).length c166_3, .int .i64 ((rd_T74 l0_3 x19_1).f2.f0), .int .i64 ((rd_T74 l0_3 x19_1).f2.f1), .slice A166_6 ((rd_T74 l0_3 x19_1).f2.f2).length c166_6, .int .i64 ((rd_T74 l0_3 x19_1).f3.f0), .int .i64 ((rd_T74 l0_3 x19_1).f3.f1), .slice A166_9 ((rd_T74 l0_3 x19_1).f3.f2).length c166_9, .int .i64 ((rd_T74 l0_3 x19_1).f4.f0), .int .i64 ((rd_T74 l0_3 x19_1).f4.f1), .slice A166_12 ((rd_T74 l0_3 x19_1).f4.f2).length c166_12, .slice A166_13 ((rd_T74 l0_3 x19_1).f5).length c166_13, .int .i64 ((rd_T74 l0_3 x19_1).f6.f0), .int .i64 ((rd_T74 l0_3 x19_1).f6.f1), .slice A166_16 ((rd_T74 l0_3 x19_1).f6.f2).length c166_16, .int .i64 ((rd_T74 l0_3 x19_1).f7.f0), .int .i64 ((rd_T74 l0_3 x19_1).f7.f1), .slice A166_19 ((rd_T74 l0_3 x19_1).f7.f2).length c166_19]) w.heap.size (fun k_ => (P0_3_ k_ ∨ w.heap.size ≤ k_) ∧ some k_ ≠ (u3 : Value).ownBlock ∧ k_ ≠ gb153 ∧ k_ ≠ gb167) (.slice A166_12 ((rd_T74 l0_3 x19_1).f4.f2).length c166_12) ((rd_T74 l0_3 x19_1).f4.f2)) := ⟨by (with_reducible repeat (first | apply Kd.V_alloc | apply Kd.V_drewN | apply Kd.V_drew)); exact Kd.V_mono (Kd.V_keep (Kd.V_mono HL166_12.out (fun k_ hk => (⟨hk, hk.2⟩ : _ ∧ k_ ≠ gb167))) (keep_setRow _ _ _) (fun _ hk => hk.2)) (fun _ hk => ⟨hk.1.1.1, ⟨hk.1.1.2.1, ⟨hk.1.1.2.2, hk.1.2⟩⟩⟩)⟩
          have n8_ : Aside0 (Kd.V (Kd.int .i32) 35 (w16.setRow gb167 #[.slice A166_0 ((rd_T74 l0_3 x19_1).f0).length c166_0, .int .i64 ((rd_T74 l0_3 x19_1).f1.f0), .int .i64 ((rd_T74 l0_3 x19_1).f1.f1), .slice A166_3 ((rd_T74 l0_3 x19_1).f1.f2).length c166_3, .int .i64 ((rd_T74 l0_3 x19_1).f2.f0), .int .i64 ((rd_T74 l0_3 x19_1).f2.f1), .slice A166_6 ((rd_T74 l0_3 x19_1).f2.f2).length c166_6, .int .i64 ((rd_T74 l0_3 x19_1).f3.f0), .int .i64 ((rd_T74 l0_3 x19_1).f3.f1), .slice A166_9 ((rd_T74 l0_3 x19_1).f3.f2).length c166_9, .int .i64 ((rd_T74 l0_3 x19_1).f4.f0), .int .i64 ((rd_T74 l0_3 x19_1).f4.f1), .slice A166_12 ((rd_T74 l0_3 x19_1).f4.f2).length c166_12, .slice A166_13 ((rd_T74 l0_3 x19_1).f5).length c166_13, .int .i64 ((rd_T74 l0_3 x19_1).f6.f0), .int .i64 ((rd_T74 l0_3 x19_1).f6.f1), .slice A166_16 ((rd_T74 l0_3 x19_1).f6.f2).length c166_16, .int .i64 ((rd_T74 l0_3 x19_1).f7.f0), .int .i64 ((rd_T74 l0_3 x19_1).f7.f1), .slice A166_19 ((rd_T74 l0_3 x19_1).f7.f2).length c166_19]) w.heap.size (fun k_ => (P0_3_ k_ ∨ w.heap.size ≤ k_) ∧ some k_ ≠ (u3 : Value).ownBlock ∧ k_ ≠ gb153 ∧ k_ ≠ gb167) (.slice A166_13 ((rd_T74 l0_3 x19_1).f5).length c166_13) ((rd_T74 l0_3 x19_1).f5)) := ⟨by (with_reducible repeat (first | apply Kd.V_alloc | apply Kd.V_drewN | apply Kd.V_drew)); exact Kd.V_mono (Kd.V_keep (Kd.V_mono HL166_13.out (fun k_ hk => (⟨hk, hk.2⟩ : _ ∧ k_ ≠ gb167))) (keep_setRow _ _ _) (fun _ hk => hk.2)) (fun _ hk => ⟨hk.1.1.1, ⟨hk.1.1.2.1, ⟨hk.1.1.2.2, hk.1.2⟩⟩⟩)⟩
          have n9_ : Aside0 (Kd.V (Kd.int .i32) 35 (w16.setRow gb167 #[.slice A166_0 ((rd_T74 l0_3 x19_1).f0).length c166_0, .int .i64 ((rd_T74 l0_3 x19_1).f1.f0), .int .i64 ((rd_T74 l0_3 x19_1).f1.f1), .slice A166_3 ((rd_T74 l0_3 x19_1).f1.f2).length c166_3, .int .i64 ((rd_T74 l0_3 x19_1).f2.f0), .int .i64 ((rd_T74 l0_3 x19_1).f2.f1), .slice A166_6 ((rd_T74 l0_3 x19_1).f2.f2).length c166_6, .int .i64 ((rd_T74 l0_3 x19_1).f3.f0), .int .i64 ((rd_T74 l0_3 x19_1).f3.f1), .slice A166_9 ((rd_T74 l0_3 x19_1).f3.f2).length c166_9, .int .i64 ((rd_T74 l0_3 x19_1).f4.f0), .int .i64 ((rd_T74 l0_3 x19_1).f4.f1), .slice A166_12 ((rd_T74 l0_3 x19_1).f4.f2).length c166_12, .slice A166_13 ((rd_T74 l0_3 x19_1).f5).length c166_13, .int .i64 ((rd_T74 l0_3 x19_1).f6.f0), .int .i64 ((rd_T74 l0_3 x19_1).f6.f1), .slice A166_16 ((rd_T74 l0_3 x19_1).f6.f2).length c166_16, .int .i64 ((rd_T74 l0_3 x19_1).f7.f0), .int .i64 ((rd_T74 l0_3 x19_1).f7.f1), .slice A166_19 ((rd_T74 l0_3 x19_1).f7.f2).length c166_19]) w.heap.size (fun k_ => (P0_3_ k_ ∨ w.heap.size ≤ k_) ∧ some k_ ≠ (u3 : Value).ownBlock ∧ k_ ≠ gb153 ∧ k_ ≠ gb167) (.slice A166_16 ((rd_T74 l0_3 x19_1).f6.f2).length c166_16) ((rd_T74 l0_3 x19_1).f6.f2)) := ⟨by (with_reducible repeat (first | apply Kd.V_alloc | apply Kd.V_drewN | apply Kd.V_drew)); exact Kd.V_mono (Kd.V_keep (Kd.V_mono HL166_16.out (fun k_ hk => (⟨hk, hk.2⟩ : _ ∧ k_ ≠ gb167))) (keep_setRow _ _ _) (fun _ hk => hk.2)) (fun _ hk => ⟨hk.1.1.1, ⟨hk.1.1.2.1, ⟨hk.1.1.2.2, hk.1.2⟩⟩⟩)⟩
          have n10_ : Aside0 (Kd.V (Kd.int .i32) 35 (w16.setRow gb167 #[.slice A166_0 ((rd_T74 l0_3 x19_1).f0).length c166_0, .int .i64 ((rd_T74 l0_3 x19_1).f1.f0), .int .i64 ((rd_T74 l0_3 x19_1).f1.f1), .slice A166_3 ((rd_T74 l0_3 x19_1).f1.f2).length c166_3, .int .i64 ((rd_T74 l0_3 x19_1).f2.f0), .int .i64 ((rd_T74 l0_3 x19_1).f2.f1), .slice A166_6 ((rd_T74 l0_3 x19_1).f2.f2).length c166_6, .int .i64 ((rd_T74 l0_3 x19_1).f3.f0), .int .i64 ((rd_T74 l0_3 x19_1).f3.f1), .slice A166_9 ((rd_T74 l0_3 x19_1).f3.f2).length c166_9, .int .i64 ((rd_T74 l0_3 x19_1).f4.f0), .int .i64 ((rd_T74 l0_3 x19_1).f4.f1), .slice A166_12 ((rd_T74 l0_3 x19_1).f4.f2).length c166_12, .slice A166_13 ((rd_T74 l0_3 x19_1).f5).length c166_13, .int .i64 ((rd_T74 l0_3 x19_1).f6.f0), .int .i64 ((rd_T74 l0_3 x19_1).f6.f1), .slice A166_16 ((rd_T74 l0_3 x19_1).f6.f2).length c166_16, .int .i64 ((rd_T74 l0_3 x19_1).f7.f0), .int .i64 ((rd_T74 l0_3 x19_1).f7.f1), .slice A166_19 ((rd_T74 l0_3 x19_1).f7.f2).length c166_19]) w.heap.size (fun k_ => (P0_3_ k_ ∨ w.heap.size ≤ k_) ∧ some k_ ≠ (u3 : Value).ownBlock ∧ k_ ≠ gb153 ∧ k_ ≠ gb167) (.slice A166_19 ((rd_T74 l0_3 x19_1).f7.f2).length c166_19) ((rd_T74 l0_3 x19_1).f7.f2)) := ⟨by (with_reducible repeat (first | apply Kd.V_alloc | apply Kd.V_drewN | apply Kd.V_drew)); exact Kd.V_mono (Kd.V_keep (Kd.V_mono HL166_19.out (fun k_ hk => (⟨hk, hk.2⟩ : _ ∧ k_ ≠ gb167))) (keep_setRow _ _ _) (fun _ hk => hk.2)) (fun _ hk => ⟨hk.1.1.1, ⟨hk.1.1.2.1, ⟨hk.1.1.2.2, hk.1.2⟩⟩⟩)⟩
          have n11_ : Aside0 ((w16.setRow gb167 #[.slice A166_0 ((rd_T74 l0_3 x19_1).f0).length c166_0, .int .i64 ((rd_T74 l0_3 x19_1).f1.f0), .int .i64 ((rd_T74 l0_3 x19_1).f1.f1), .slice A166_3 ((rd_T74 l0_3 x19_1).f1.f2).length c166_3, .int .i64 ((rd_T74 l0_3 x19_1).f2.f0), .int .i64 ((rd_T74 l0_3 x19_1).f2.f1), .slice A166_6 ((rd_T74 l0_3 x19_1).f2.f2).length c166_6, .int .i64 ((rd_T74 l0_3 x19_1).f3.f0), .int .i64 ((rd_T74 l0_3 x19_1).f3.f1), .slice A166_9 ((rd_T74 l0_3 x19_1).f3.f2).length c166_9, .int .i64 ((rd_T74 l0_3 x19_1).f4.f0), .int .i64 ((rd_T74 l0_3 x19_1).f4.f1), .slice A166_12 ((rd_T74 l0_3 x19_1).f4.f2).length c166_12, .slice A166_13 ((rd_T74 l0_3 x19_1).f5).length c166_13, .int .i64 ((rd_T74 l0_3 x19_1).f6.f0), .int .i64 ((rd_T74 l0_3 x19_1).f6.f1), .slice A166_16 ((rd_T74 l0_3 x19_1).f6.f2).length c166_16, .int .i64 ((rd_T74 l0_3 x19_1).f7.f0), .int .i64 ((rd_T74 l0_3 x19_1).f7.f1), .slice A166_19 ((rd_T74 l0_3 x19_1).f7.f2).length c166_19]).heap[gb153]? = some (.cells #[.int .i64 a0_0, .int .i64 a0_1, .slice A0_2 l0_2.length c0_2, .slice (some ad166) l0_3.length c0_3, .slice A0_4 l0_4.length c0_4, .int .i64 a0_5, .int .i64 a0_6, .slice A0_7 l0_7.length c0_7] 41 (0, 0))) := ⟨by refine blk_setRow_far ?_ (by exact NB153_167.out) _; (with_reducible repeat (first | apply bkN | apply bkD | apply bkA)); exact BK153.out⟩
          have n12_ : Aside0 ((w16.setRow gb167 #[.slice A166_0 ((rd_T74 l0_3 x19_1).f0).length c166_0, .int .i64 ((rd_T74 l0_3 x19_1).f1.f0), .int .i64 ((rd_T74 l0_3 x19_1).f1.f1), .slice A166_3 ((rd_T74 l0_3 x19_1).f1.f2).length c166_3, .int .i64 ((rd_T74 l0_3 x19_1).f2.f0), .int .i64 ((rd_T74 l0_3 x19_1).f2.f1), .slice A166_6 ((rd_T74 l0_3 x19_1).f2.f2).length c166_6, .int .i64 ((rd_T74 l0_3 x19_1).f3.f0), .int .i64 ((rd_T74 l0_3 x19_1).f3.f1), .slice A166_9 ((rd_T74 l0_3 x19_1).f3.f2).length c166_9, .int .i64 ((rd_T74 l0_3 x19_1).f4.f0), .int .i64 ((rd_T74 l0_3 x19_1).f4.f1), .slice A166_12 ((rd_T74 l0_3 x19_1).f4.f2).length c166_12, .slice A166_13 ((rd_T74 l0_3 x19_1).f5).length c166_13, .int .i64 ((rd_T74 l0_3 x19_1).f6.f0), .int .i64 ((rd_T74 l0_3 x19_1).f6.f1), .slice A166_16 ((rd_T74 l0_3 x19_1).f6.f2).length c166_16, .int .i64 ((rd_T74 l0_3 x19_1).f7.f0), .int .i64 ((rd_T74 l0_3 x19_1).f7.f1), .slice A166_19 ((rd_T74 l0_3 x19_1).f7.f2).length c166_19]).heap[gb167]? = some (.cells #[.slice A166_0 ((rd_T74 l0_3 x19_1).f0).length c166_0, .int .i64 ((rd_T74 l0_3 x19_1).f1.f0), .int .i64 ((rd_T74 l0_3 x19_1).f1.f1), .slice A166_3 ((rd_T74 l0_3 x19_1).f1.f2).length c166_3, .int .i64 ((rd_T74 l0_3 x19_1).f2.f0), .int .i64 ((rd_T74 l0_3 x19_1).f2.f1), .slice A166_6 ((rd_T74 l0_3 x19_1).f2.f2).length c166_6, .int .i64 ((rd_T74 l0_3 x19_1).f3.f0), .int .i64 ((rd_T74 l0_3 x19_1).f3.f1), .slice A166_9 ((rd_T74 l0_3 x19_1).f3.f2).length c166_9, .int .i64 ((rd_T74 l0_3 x19_1).f4.f0), .int .i64 ((rd_T74 l0_3 x19_1).f4.f1), .slice A166_12 ((rd_T74 l0_3 x19_1).f4.f2).length c166_12, .slice A166_13 ((rd_T74 l0_3 x19_1).f5).length c166_13, .int .i64 ((rd_T74 l0_3 x19_1).f6.f0), .int .i64 ((rd_T74 l0_3 x19_1).f6.f1), .slice A166_16 ((rd_T74 l0_3 x19_1).f6.f2).length c166_16, .int .i64 ((rd_T74 l0_3 x19_1).f7.f0), .int .i64 ((rd_T74 l0_3 x19_1).f7.f1), .slice A166_19 ((rd_T74 l0_3 x19_1).f7.f2).length c166_19] 74 (0, 0))) := ⟨by exact blk_setRow BK167.out _⟩
          have n13_ : Aside0 (Below w.heap.size w (w16.setRow gb167 #[.slice A166_0 ((rd_T74 l0_3 x19_1).f0).length c166_0, .int .i64 ((rd_T74 l0_3 x19_1).f1.f0), .int .i64 ((rd_T74 l0_3 x19_1).f1.f1), .slice A166_3 ((rd_T74 l0_3 x19_1).f1.f2).length c166_3, .int .i64 ((rd_T74 l0_3 x19_1).f2.f0), .int .i64 ((rd_T74 l0_3 x19_1).f2.f1), .slice A166_6 ((rd_T74 l0_3 x19_1).f2.f2).length c166_6, .int .i64 ((rd_T74 l0_3 x19_1).f3.f0), .int .i64 ((rd_T74 l0_3 x19_1).f3.f1), .slice A166_9 ((rd_T74 l0_3 x19_1).f3.f2).length c166_9, .int .i64 ((rd_T74 l0_3 x19_1).f4.f0), .int .i64 ((rd_T74 l0_3 x19_1).f4.f1), .slice A166_12 ((rd_T74 l0_3 x19_1).f4.f2).length c166_12, .slice A166_13 ((rd_T74 l0_3 x19_1).f5).length c166_13, .int .i64 ((rd_T74 l0_3 x19_1).f6.f0), .int .i64 ((rd_T74 l0_3 x19_1).f6.f1), .slice A166_16 ((rd_T74 l0_3 x19_1).f6.f2).length c166_16, .int .i64 ((rd_T74 l0_3 x19_1).f7.f0), .int .i64 ((rd_T74 l0_3 x19_1).f7.f1), .slice A166_19 ((rd_T74 l0_3 x19_1).f7.f2).length c166_19])) := ⟨by repeat (first | (with_reducible first | exact HB.out | apply bwA | apply bwN | apply bwD | refine below_set ?_ GE153.out | refine below_set ?_ GE167.out | refine below_setRow ?_ GE167.out _) | exact HB.out)⟩
          (try clear HO_3)
          (try clear HO_17)
          (try clear HO_154003)
          (try clear HL166_0)
          (try clear HL166_3)
          (try clear HL166_6)
          (try clear HL166_9)
          (try clear HL166_12)
          (try clear HL166_13)
          (try clear HL166_16)
          (try clear HL166_19)
          (try clear BK153)
          (try clear BK167)
          (try clear HB)
          generalize (w16.setRow gb167 #[.slice A166_0 ((rd_T74 l0_3 x19_1).f0).length c166_0, .int .i64 ((rd_T74 l0_3 x19_1).f1.f0), .int .i64 ((rd_T74 l0_3 x19_1).f1.f1), .slice A166_3 ((rd_T74 l0_3 x19_1).f1.f2).length c166_3, .int .i64 ((rd_T74 l0_3 x19_1).f2.f0), .int .i64 ((rd_T74 l0_3 x19_1).f2.f1), .slice A166_6 ((rd_T74 l0_3 x19_1).f2.f2).length c166_6, .int .i64 ((rd_T74 l0_3 x19_1).f3.f0), .int .i64 ((rd_T74 l0_3 x19_1).f3.f1), .slice A166_9 ((rd_T74 l0_3 x19_1).f3.f2).length c166_9, .int .i64 ((rd_T74 l0_3 x19_1).f4.f0), .int .i64 ((rd_T74 l0_3 x19_1).f4.f1), .slice A166_12 ((rd_T74 l0_3 x19_1).f4.f2).length c166_12, .slice A166_13 ((rd_T74 l0_3 x19_1).f5).length c166_13, .int .i64 ((rd_T74 l0_3 x19_1).f6.f0), .int .i64 ((rd_T74 l0_3 x19_1).f6.f1), .slice A166_16 ((rd_T74 l0_3 x19_1).f6.f2).length c166_16, .int .i64 ((rd_T74 l0_3 x19_1).f7.f0), .int .i64 ((rd_T74 l0_3 x19_1).f7.f1), .slice A166_19 ((rd_T74 l0_3 x19_1).f7.f2).length c166_19]) = w19 at n0_ n1_ n2_ n3_ n4_ n5_ n6_ n7_ n8_ n9_ n10_ n11_ n12_ n13_ ⊢
          have HO_3 := n0_
          have HO_17 := n1_
          have HO_154003 := n2_
          have HL166_0 := n3_
          have HL166_3 := n4_
          have HL166_6 := n5_
          have HL166_9 := n6_
          have HL166_12 := n7_
          have HL166_13 := n8_
          have HL166_16 := n9_
          have HL166_19 := n10_
          have BK153 := n11_
          have BK167 := n12_
          have HB := n13_
          clear n0_ n1_ n2_ n3_ n4_ n5_ n6_ n7_ n8_ n9_ n10_ n11_ n12_ n13_
          have n0_ := Aside0.mk (Kd.R_drew HO_3.out)
          have n1_ := Aside0.mk (Kd.V_drew HO_17.out)
          have n2_ := Aside0.mk (Kd.V_drew HO_154003.out)
          have n3_ := Aside0.mk (Kd.V_drew HL166_0.out)
          have n4_ := Aside0.mk (Kd.V_drew HL166_3.out)
          have n5_ := Aside0.mk (Kd.V_drew HL166_6.out)
          have n6_ := Aside0.mk (Kd.V_drew HL166_9.out)
          have n7_ := Aside0.mk (Kd.V_drew HL166_12.out)
          have n8_ := Aside0.mk (Kd.V_drew HL166_13.out)
          have n9_ := Aside0.mk (Kd.V_drew HL166_16.out)
          have n10_ := Aside0.mk (Kd.V_drew HL166_19.out)
          have n11_ := Aside0.mk (blk_drew BK153.out)
          have n12_ := Aside0.mk (blk_drew BK167.out)
          have n13_ := Aside0.mk (below_drew1 HB.out)
          clear HO_3
          clear HO_17
          clear HO_154003
          clear HL166_0
          clear HL166_3
          clear HL166_6
          clear HL166_9
          clear HL166_12
          clear HL166_13
          clear HL166_16
          clear HL166_19
          clear BK153
          clear BK167
          clear HB
          have HO_3 := n0_
          have HO_17 := n1_
          have HO_154003 := n2_
          have HL166_0 := n3_
          have HL166_3 := n4_
          have HL166_6 := n5_
          have HL166_9 := n6_
          have HL166_12 := n7_
          have HL166_13 := n8_
          have HL166_16 := n9_
          have HL166_19 := n10_
          have BK153 := n11_
          have BK167 := n12_
          have HB := n13_
          clear n0_ n1_ n2_ n3_ n4_ n5_ n6_ n7_ n8_ n9_ n10_ n11_ n12_ n13_
          refine start_ (n := 8) (S := fun w' => w'.cell? ⟨gb167, 0, none⟩ = some (.slice A166_0 ((rd_T74 l0_3 x19_1).f0).length c166_0) ∧ w'.cell? ⟨gb167, 1, none⟩ = some (.int .i64 ((rd_T74 l0_3 x19_1).f1.f0)) ∧ w'.cell? ⟨gb167, 2, none⟩ = some (.int .i64 ((rd_T74 l0_3 x19_1).f1.f1)) ∧ w'.cell? ⟨gb167, 3, none⟩ = some (.slice A166_3 ((rd_T74 l0_3 x19_1).f1.f2).length c166_3) ∧ w'.cell? ⟨gb167, 4, none⟩ = some (.int .i64 ((rd_T74 l0_3 x19_1).f2.f0)) ∧ w'.cell? ⟨gb167, 5, none⟩ = some (.int .i64 ((rd_T74 l0_3 x19_1).f2.f1)) ∧ w'.cell? ⟨gb167, 6, none⟩ = some (.slice A166_6 ((rd_T74 l0_3 x19_1).f2.f2).length c166_6) ∧ w'.cell? ⟨gb167, 7, none⟩ = some (.int .i64 ((rd_T74 l0_3 x19_1).f3.f0)) ∧ w'.cell? ⟨gb167, 8, none⟩ = some (.int .i64 ((rd_T74 l0_3 x19_1).f3.f1)) ∧ w'.cell? ⟨gb167, 9, none⟩ = some (.slice A166_9 ((rd_T74 l0_3 x19_1).f3.f2).length c166_9) ∧ w'.cell? ⟨gb167, 10, none⟩ = some (.int .i64 ((rd_T74 l0_3 x19_1).f4.f0)) ∧ w'.cell? ⟨gb167, 11, none⟩ = some (.int .i64 ((rd_T74 l0_3 x19_1).f4.f1)) ∧ w'.cell? ⟨gb167, 12, none⟩ = some (.slice A166_12 ((rd_T74 l0_3 x19_1).f4.f2).length c166_12) ∧ w'.cell? ⟨gb167, 13, none⟩ = some (.slice A166_13 ((rd_T74 l0_3 x19_1).f5).length c166_13) ∧ w'.cell? ⟨gb167, 14, none⟩ = some (.int .i64 ((rd_T74 l0_3 x19_1).f6.f0)) ∧ w'.cell? ⟨gb167, 15, none⟩ = some (.int .i64 ((rd_T74 l0_3 x19_1).f6.f1)) ∧ w'.cell? ⟨gb167, 16, none⟩ = some (.slice A166_16 ((rd_T74 l0_3 x19_1).f6.f2).length c166_16) ∧ w'.cell? ⟨gb167, 17, none⟩ = some (.int .i64 ((rd_T74 l0_3 x19_1).f7.f0)) ∧ w'.cell? ⟨gb167, 18, none⟩ = some (.int .i64 ((rd_T74 l0_3 x19_1).f7.f1)) ∧ w'.cell? ⟨gb167, 19, none⟩ = some (.slice A166_19 ((rd_T74 l0_3 x19_1).f7.f2).length c166_19)) (ds := []) T44168_10 (by kernel_rfl) rfl rfl ⟨(blk_cell BK167.out 0).trans rfl, (blk_cell BK167.out 1).trans rfl, (blk_cell BK167.out 2).trans rfl, (blk_cell BK167.out 3).trans rfl, (blk_cell BK167.out 4).trans rfl, (blk_cell BK167.out 5).trans rfl, (blk_cell BK167.out 6).trans rfl, (blk_cell BK167.out 7).trans rfl, (blk_cell BK167.out 8).trans rfl, (blk_cell BK167.out 9).trans rfl, (blk_cell BK167.out 10).trans rfl, (blk_cell BK167.out 11).trans rfl, (blk_cell BK167.out 12).trans rfl, (blk_cell BK167.out 13).trans rfl, (blk_cell BK167.out 14).trans rfl, (blk_cell BK167.out 15).trans rfl, (blk_cell BK167.out 16).trans rfl, (blk_cell BK167.out 17).trans rfl, (blk_cell BK167.out 18).trans rfl, (blk_cell BK167.out 19).trans rfl⟩ (fun hHeld => ?_); refine with_tabW tillerref06_List.tab5 tillerref06_List.bits5 (fun HT_ HW_ => ?_)
          generalize w19.drew = w20 at HO_3 HO_17 HO_154003 HL166_0 HL166_3 HL166_6 HL166_9 HL166_12 HL166_13 HL166_16 HL166_19 BK153 BK167 HB hHeld ⊢
          refine pure_ (i := 0) (N := some 23) (v := ?_) (a' := ?_) T44168_11 rfl rfl (any_of HT_.out (by kernel_rfl)) idq (.inl ⟨by rfl, ?_⟩) ?_ ?_
          rotate_left; ·intro w'; go_simp; with_reducible rfl
          rotate_left; ·simp only [Act.put, sqA, sqB, sqC, i64_w, i32_w]; rfl
          refine pure_ (i := 1) (N := some 24) (v := ?_) (a' := ?_) T44168_12 rfl rfl (any_of HT_.out (by kernel_rfl)) idq (.inl ⟨by rfl, ?_⟩) ?_ ?_
          rotate_left; ·intro w'; go_simp; with_reducible rfl
          rotate_left; ·simp only [Act.put, sqA, sqB, sqC, i64_w, i32_w]; rfl
          refine pure_ (i := 4) (N := some 27) (v := ?_) (a' := ?_) T44168_13 rfl rfl (any_of HT_.out (by kernel_rfl)) idq (.inl ⟨by rfl, ?_⟩) ?_ ?_
          rotate_left; ·intro w'; go_simp; with_reducible rfl
          rotate_left; ·simp only [Act.put, sqA, sqB, sqC, i64_w, i32_w]; rfl
          refine take_ (i := 2) (N := some 25) (v := ?_) (a' := ?_) T44168_14 rfl rfl (take_ofW HT_.out HW_.out (by kernel_rfl)) idq (.inl ⟨by rfl, ?_⟩) hHeld ?_ ?_
          rotate_left
          ·rintro w' ⟨s0, s1, s2, s3, s4, s5, s6, s7, s8, s9, s10, s11, s12, s13, s14, s15, s16, s17, s18, s19⟩
           go_simp
           with_reducible rfl
          rotate_left; ·simp only [Act.put, sqA, sqB, sqC, i64_w, i32_w]; rfl
          refine take_ (i := 5) (N := some 28) (v := ?_) (a' := ?_) T44168_15 rfl rfl (take_ofW HT_.out HW_.out (by kernel_rfl)) idq (.inl ⟨by rfl, ?_⟩) hHeld ?_ ?_
          rotate_left
          ·rintro w' ⟨s0, s1, s2, s3, s4, s5, s6, s7, s8, s9, s10, s11, s12, s13, s14, s15, s16, s17, s18, s19⟩
           go_simp
           with_reducible rfl
          rotate_left; ·simp only [Act.put, sqA, sqB, sqC, i64_w, i32_w]; rfl
          refine one_ (i := 3) (N := some 26) T44168_16 rfl rfl (one_of HT_.out (by kernel_rfl)) (by decide) (fun K hK => ?_)
          refine Kd.R_append_rows_step (Kd.int .i32) (w0 := w) w.heap.size (by rfl) (.tmp 23) (.tmp 25) 25 35 (.int .i32 0) 4 rfl Try.underlying25 info35 rfl (by decide) (by omega) u3 x3_1 ((rd_T74 l0_3 x19_1).f0) _ _ _ (fun k_ => (w.heap.size ≤ k_)) (fun _ => False) rfl rfl ?aO ?aR (fun _ _ h => h) (fun _ h => h.elim) ?aF ?aB ?aS ?aL ?_
          (case aR => repeat (first | exact ((Kd.V_reads' (by (with_reducible repeat (first | apply Kd.V_alloc | apply Kd.V_drewN | apply Kd.V_drew)); exact HL166_0.out)).2.2) | (with_reducible refine Kd.C_alloc ?_ _) | (with_reducible refine Kd.C_drewN ?_ _) | (with_reducible refine Kd.C_drew ?_)))
          (case aB => exact (by repeat (first | (with_reducible first | exact HB.out | apply bwA | apply bwN | apply bwD | refine below_set ?_ GE153.out | refine below_set ?_ GE167.out | refine below_setRow ?_ GE167.out _) | exact HB.out)))
          (case aF => exact (fun k_ hk => (Nat.le_trans (below_size (by repeat (first | (with_reducible first | exact HB.out | apply bwA | apply bwN | apply bwD | refine below_set ?_ GE153.out | refine below_set ?_ GE167.out | refine below_setRow ?_ GE167.out _) | exact HB.out))) hk)))
          (case aO => exact (by (with_reducible repeat (first | apply rwA | apply rwN | apply rwD)); exact HO_3.out))
          (case aS => exact (below_size (by repeat (first | (with_reducible first | exact HB.out | apply bwA | apply bwN | apply bwD | refine below_set ?_ GE153.out | refine below_set ?_ GE167.out | refine below_setRow ?_ GE167.out _) | exact HB.out))))
          (case aL => have := LMc14.out; omega)
          intro v169 w21 ho hb hg hat
          rw [← Ny168.out] at ho
          have n0_ := Aside0.mk (Kd.V_afterv (ok := (fun k_ => (P0_3_ k_ ∨ w.heap.size ≤ k_) ∧ k_ ≠ gb153 ∧ k_ ≠ gb167)) (by (with_reducible repeat (first | apply Kd.V_alloc | apply Kd.V_drewN | apply Kd.V_drew)); exact Kd.V_mono HO_17.out (fun _ hk => ⟨⟨hk.1, ⟨hk.2.2.1, hk.2.2.2⟩⟩, hk.2.1⟩)) hg hat)
          have n1_ := Aside0.mk (Kd.V_afterv (ok := (fun k_ => (P0_3_ k_ ∨ w.heap.size ≤ k_) ∧ k_ ≠ gb153 ∧ k_ ≠ gb167)) (by (with_reducible repeat (first | apply Kd.V_alloc | apply Kd.V_drewN | apply Kd.V_drew)); exact Kd.V_mono HO_154003.out (fun _ hk => ⟨⟨hk.1, ⟨hk.2.2.1, hk.2.2.2⟩⟩, hk.2.1⟩)) hg hat)
          have n2_ := Aside0.mk (blk_grown (g := gb153) (o := .cells #[.int .i64 a0_0, .int .i64 a0_1, .slice A0_2 l0_2.length c0_2, .slice (some ad166) l0_3.length c0_3, .slice A0_4 l0_4.length c0_4, .int .i64 a0_5, .int .i64 a0_6, .slice A0_7 l0_7.length c0_7] 41 (0, 0)) (by (with_reducible repeat (first | apply bkN | apply bkD | apply bkA)); exact BK153.out) hg (Kd.R_ne HO_3.out BK153.out (by decide)))
          have n3_ := Aside0.mk (Kd.V_afterv (ok := (fun k_ => (P0_3_ k_ ∨ w.heap.size ≤ k_) ∧ k_ ≠ gb153 ∧ k_ ≠ gb167)) (by (with_reducible repeat (first | apply Kd.V_alloc | apply Kd.V_drewN | apply Kd.V_drew)); exact Kd.V_mono HL166_0.out (fun _ hk => ⟨⟨hk.1, ⟨hk.2.2.1, hk.2.2.2⟩⟩, hk.2.1⟩)) hg hat)
          have n4_ := Aside0.mk (Kd.V_afterv (ok := (fun k_ => (P0_3_ k_ ∨ w.heap.size ≤ k_) ∧ k_ ≠ gb153 ∧ k_ ≠ gb167)) (by (with_reducible repeat (first | apply Kd.V_alloc | apply Kd.V_drewN | apply Kd.V_drew)); exact Kd.V_mono HL166_3.out (fun _ hk => ⟨⟨hk.1, ⟨hk.2.2.1, hk.2.2.2⟩⟩, hk.2.1⟩)) hg hat)
          have n5_ := Aside0.mk (Kd.V_afterv (ok := (fun k_ => (P0_3_ k_ ∨ w.heap.size ≤ k_) ∧ k_ ≠ gb153 ∧ k_ ≠ gb167)) (by (with_reducible repeat (first | apply Kd.V_alloc | apply Kd.V_drewN | apply Kd.V_drew)); exact Kd.V_mono HL166_6.out (fun _ hk => ⟨⟨hk.1, ⟨hk.2.2.1, hk.2.2.2⟩⟩, hk.2.1⟩)) hg hat)
          have n6_ := Aside0.mk (Kd.V_afterv (ok := (fun k_ => (P0_3_ k_ ∨ w.heap.size ≤ k_) ∧ k_ ≠ gb153 ∧ k_ ≠ gb167)) (by (with_reducible repeat (first | apply Kd.V_alloc | apply Kd.V_drewN | apply Kd.V_drew)); exact Kd.V_mono HL166_9.out (fun _ hk => ⟨⟨hk.1, ⟨hk.2.2.1, hk.2.2.2⟩⟩, hk.2.1⟩)) hg hat)
          have n7_ := Aside0.mk (Kd.V_afterv (ok := (fun k_ => (P0_3_ k_ ∨ w.heap.size ≤ k_) ∧ k_ ≠ gb153 ∧ k_ ≠ gb167)) (by (with_reducible repeat (first | apply Kd.V_alloc | apply Kd.V_drewN | apply Kd.V_drew)); exact Kd.V_mono HL166_12.out (fun _ hk => ⟨⟨hk.1, ⟨hk.2.2.1, hk.2.2.2⟩⟩, hk.2.1⟩)) hg hat)
          have n8_ := Aside0.mk (Kd.V_afterv (ok := (fun k_ => (P0_3_ k_ ∨ w.heap.size ≤ k_) ∧ k_ ≠ gb153 ∧ k_ ≠ gb167)) (by (with_reducible repeat (first | apply Kd.V_alloc | apply Kd.V_drewN | apply Kd.V_drew)); exact Kd.V_mono HL166_13.out (fun _ hk => ⟨⟨hk.1, ⟨hk.2.2.1, hk.2.2.2⟩⟩, hk.2.1⟩)) hg hat)
          have n9_ := Aside0.mk (Kd.V_afterv (ok := (fun k_ => (P0_3_ k_ ∨ w.heap.size ≤ k_) ∧ k_ ≠ gb153 ∧ k_ ≠ gb167)) (by (with_reducible repeat (first | apply Kd.V_alloc | apply Kd.V_drewN | apply Kd.V_drew)); exact Kd.V_mono HL166_16.out (fun _ hk => ⟨⟨hk.1, ⟨hk.2.2.1, hk.2.2.2⟩⟩, hk.2.1⟩)) hg hat)
          have n10_ := Aside0.mk (Kd.V_afterv (ok := (fun k_ => (P0_3_ k_ ∨ w.heap.size ≤ k_) ∧ k_ ≠ gb153 ∧ k_ ≠ gb167)) (by (with_reducible repeat (first | apply Kd.V_alloc | apply Kd.V_drewN | apply Kd.V_drew)); exact Kd.V_mono HL166_19.out (fun _ hk => ⟨⟨hk.1, ⟨hk.2.2.1, hk.2.2.2⟩⟩, hk.2.1⟩)) hg hat)
          have n11_ := Aside0.mk (blk_grown (g := gb167) (o := .cells #[.slice A166_0 ((rd_T74 l0_3 x19_1).f0).length c166_0, .int .i64 ((rd_T74 l0_3 x19_1).f1.f0), .int .i64 ((rd_T74 l0_3 x19_1).f1.f1), .slice A166_3 ((rd_T74 l0_3 x19_1).f1.f2).length c166_3, .int .i64 ((rd_T74 l0_3 x19_1).f2.f0), .int .i64 ((rd_T74 l0_3 x19_1).f2.f1), .slice A166_6 ((rd_T74 l0_3 x19_1).f2.f2).length c166_6, .int .i64 ((rd_T74 l0_3 x19_1).f3.f0), .int .i64 ((rd_T74 l0_3 x19_1).f3.f1), .slice A166_9 ((rd_T74 l0_3 x19_1).f3.f2).length c166_9, .int .i64 ((rd_T74 l0_3 x19_1).f4.f0), .int .i64 ((rd_T74 l0_3 x19_1).f4.f1), .slice A166_12 ((rd_T74 l0_3 x19_1).f4.f2).length c166_12, .slice A166_13 ((rd_T74 l0_3 x19_1).f5).length c166_13, .int .i64 ((rd_T74 l0_3 x19_1).f6.f0), .int .i64 ((rd_T74 l0_3 x19_1).f6.f1), .slice A166_16 ((rd_T74 l0_3 x19_1).f6.f2).length c166_16, .int .i64 ((rd_T74 l0_3 x19_1).f7.f0), .int .i64 ((rd_T74 l0_3 x19_1).f7.f1), .slice A166_19 ((rd_T74 l0_3 x19_1).f7.f2).length c166_19] 74 (0, 0)) (by (with_reducible repeat (first | apply bkN | apply bkD | apply bkA)); exact BK167.out) hg (Kd.R_ne HO_3.out BK167.out (by decide)))
          have n12_ := Aside0.mk (hb)
          have n13_ := Aside0.mk (ho)
          clear HO_17
          clear HO_154003
          clear BK153
          clear HL166_0
          clear HL166_3
          clear HL166_6
          clear HL166_9
          clear HL166_12
          clear HL166_13
          clear HL166_16
          clear HL166_19
          clear BK167
          clear HB
          clear HO_3
          have HO_17 := n0_
          have HO_154003 := n1_
          have BK153 := n2_
          have HL166_0 := n3_
          have HL166_3 := n4_
          have HL166_6 := n5_
          have HL166_9 := n6_
          have HL166_12 := n7_
          have HL166_13 := n8_
          have HL166_16 := n9_
          have HL166_19 := n10_
          have BK167 := n11_
          have HB := n12_
          have HO170 := n13_
          clear n0_ n1_ n2_ n3_ n4_ n5_ n6_ n7_ n8_ n9_ n10_ n11_ n12_ n13_
          clear ho hb hg hat
          refine hK.out _ _ ⟨(blk_cell BK167.out 0).trans rfl, (blk_cell BK167.out 1).trans rfl, (blk_cell BK167.out 2).trans rfl, (blk_cell BK167.out 3).trans rfl, (blk_cell BK167.out 4).trans rfl, (blk_cell BK167.out 5).trans rfl, (blk_cell BK167.out 6).trans rfl, (blk_cell BK167.out 7).trans rfl, (blk_cell BK167.out 8).trans rfl, (blk_cell BK167.out 9).trans rfl, (blk_cell BK167.out 10).trans rfl, (blk_cell BK167.out 11).trans rfl, (blk_cell BK167.out 12).trans rfl, (blk_cell BK167.out 13).trans rfl, (blk_cell BK167.out 14).trans rfl, (blk_cell BK167.out 15).trans rfl, (blk_cell BK167.out 16).trans rfl, (blk_cell BK167.out 17).trans rfl, (blk_cell BK167.out 18).trans rfl, (blk_cell BK167.out 19).trans rfl⟩ (fun hHeld => ?_)
          clear hK K
          refine norm_ (a' := ?_) ?_ ?_
          rotate_left
          ·show Act.put _ (some 26) _ = _
           simp only [Act.put, sqA, sqB, sqC, i64_w, i32_w]
           rfl
          refine one_ (i := 6) (N := some 29) T44168_17 rfl rfl (one_of HT_.out (by kernel_rfl)) (by decide) (fun K hK => ?_)
          refine Kd.R_append_rows_step (Kd.int .i32) (w0 := w) w.heap.size (by rfl) (.tmp 26) (.tmp 28) 25 35 (.int .i32 0) 4 rfl Try.underlying25 info35 rfl (by decide) (by omega) v169 y168 ((rd_T74 l0_3 x19_1).f5) _ _ _ (fun k_ => (w.heap.size ≤ k_)) (fun _ => False) rfl rfl ?aO ?aR (fun _ _ h => h) (fun _ h => h.elim) ?aF ?aB ?aS ?aL ?_
          (case aR => repeat (first | exact ((Kd.V_reads' (by (with_reducible repeat (first | apply Kd.V_alloc | apply Kd.V_drewN | apply Kd.V_drew)); exact HL166_13.out)).2.2) | (with_reducible refine Kd.C_alloc ?_ _) | (with_reducible refine Kd.C_drewN ?_ _) | (with_reducible refine Kd.C_drew ?_)))
          (case aB => exact (by repeat (first | (with_reducible first | exact HB.out | apply bwA | apply bwN | apply bwD | refine below_set ?_ GE153.out | refine below_set ?_ GE167.out | refine below_setRow ?_ GE167.out _) | exact HB.out)))
          (case aF => exact (fun k_ hk => (Nat.le_trans (below_size (by repeat (first | (with_reducible first | exact HB.out | apply bwA | apply bwN | apply bwD | refine below_set ?_ GE153.out | refine below_set ?_ GE167.out | refine below_setRow ?_ GE167.out _) | exact HB.out))) hk)))
          (case aO => exact (by (with_reducible repeat (first | apply rwA | apply rwN | apply rwD)); exact HO170.out))
          (case aS => exact (below_size (by repeat (first | (with_reducible first | exact HB.out | apply bwA | apply bwN | apply bwD | refine below_set ?_ GE153.out | refine below_set ?_ GE167.out | refine below_setRow ?_ GE167.out _) | exact HB.out))))
          (case aL => have := LMc15.out; omega)
          intro v172 w22 ho hb hg hat
          rw [← Ny171.out] at ho
          have n0_ := Aside0.mk (Kd.V_afterv (ok := (fun k_ => (P0_3_ k_ ∨ w.heap.size ≤ k_) ∧ k_ ≠ gb153 ∧ k_ ≠ gb167)) (by (with_reducible repeat (first | apply Kd.V_alloc | apply Kd.V_drewN | apply Kd.V_drew)); exact HO_17.out) hg hat)
          have n1_ := Aside0.mk (Kd.V_afterv (ok := (fun k_ => (P0_3_ k_ ∨ w.heap.size ≤ k_) ∧ k_ ≠ gb153 ∧ k_ ≠ gb167)) (by (with_reducible repeat (first | apply Kd.V_alloc | apply Kd.V_drewN | apply Kd.V_drew)); exact HO_154003.out) hg hat)
          have n2_ := Aside0.mk (blk_grown (g := gb153) (o := .cells #[.int .i64 a0_0, .int .i64 a0_1, .slice A0_2 l0_2.length c0_2, .slice (some ad166) l0_3.length c0_3, .slice A0_4 l0_4.length c0_4, .int .i64 a0_5, .int .i64 a0_6, .slice A0_7 l0_7.length c0_7] 41 (0, 0)) (by (with_reducible repeat (first | apply bkN | apply bkD | apply bkA)); exact BK153.out) hg (Kd.R_ne HO170.out BK153.out (by decide)))
          have n3_ := Aside0.mk (Kd.V_afterv (ok := (fun k_ => (P0_3_ k_ ∨ w.heap.size ≤ k_) ∧ k_ ≠ gb153 ∧ k_ ≠ gb167)) (by (with_reducible repeat (first | apply Kd.V_alloc | apply Kd.V_drewN | apply Kd.V_drew)); exact HL166_0.out) hg hat)
          have n4_ := Aside0.mk (Kd.V_afterv (ok := (fun k_ => (P0_3_ k_ ∨ w.heap.size ≤ k_) ∧ k_ ≠ gb153 ∧ k_ ≠ gb167)) (by (with_reducible repeat (first | apply Kd.V_alloc | apply Kd.V_drewN | apply Kd.V_drew)); exact HL166_3.out) hg hat)
          have n5_ := Aside0.mk (Kd.V_afterv (ok := (fun k_ => (P0_3_ k_ ∨ w.heap.size ≤ k_) ∧ k_ ≠ gb153 ∧ k_ ≠ gb167)) (by (with_reducible repeat (first | apply Kd.V_alloc | apply Kd.V_drewN | apply Kd.V_drew)); exact HL166_6.out) hg hat)
          have n6_ := Aside0.mk (Kd.V_afterv (ok := (fun k_ => (P0_3_ k_ ∨ w.heap.size ≤ k_) ∧ k_ ≠ gb153 ∧ k_ ≠ gb167)) (by (with_reducible repeat (first | apply Kd.V_alloc | apply Kd.V_drewN | apply Kd.V_drew)); exact HL166_9.out) hg hat)
          have n7_ := Aside0.mk (Kd.V_afterv (ok := (fun k_ => (P0_3_ k_ ∨ w.heap.size ≤ k_) ∧ k_ ≠ gb153 ∧ k_ ≠ gb167)) (by (with_reducible repeat (first | apply Kd.V_alloc | apply Kd.V_drewN | apply Kd.V_drew)); exact HL166_12.out) hg hat)
          have n8_ := Aside0.mk (Kd.V_afterv (ok := (fun k_ => (P0_3_ k_ ∨ w.heap.size ≤ k_) ∧ k_ ≠ gb153 ∧ k_ ≠ gb167)) (by (with_reducible repeat (first | apply Kd.V_alloc | apply Kd.V_drewN | apply Kd.V_drew)); exact HL166_13.out) hg hat)
          have n9_ := Aside0.mk (Kd.V_afterv (ok := (fun k_ => (P0_3_ k_ ∨ w.heap.size ≤ k_) ∧ k_ ≠ gb153 ∧ k_ ≠ gb167)) (by (with_reducible repeat (first | apply Kd.V_alloc | apply Kd.V_drewN | apply Kd.V_drew)); exact HL166_16.out) hg hat)
          have n10_ := Aside0.mk (Kd.V_afterv (ok := (fun k_ => (P0_3_ k_ ∨ w.heap.size ≤ k_) ∧ k_ ≠ gb153 ∧ k_ ≠ gb167)) (by (with_reducible repeat (first | apply Kd.V_alloc | apply Kd.V_drewN | apply Kd.V_drew)); exact HL166_19.out) hg hat)
          have n11_ := Aside0.mk (blk_grown (g := gb167) (o := .cells #[.slice A166_0 ((rd_T74 l0_3 x19_1).f0).length c166_0, .int .i64 ((rd_T74 l0_3 x19_1).f1.f0), .int .i64 ((rd_T74 l0_3 x19_1).f1.f1), .slice A166_3 ((rd_T74 l0_3 x19_1).f1.f2).length c166_3, .int .i64 ((rd_T74 l0_3 x19_1).f2.f0), .int .i64 ((rd_T74 l0_3 x19_1).f2.f1), .slice A166_6 ((rd_T74 l0_3 x19_1).f2.f2).length c166_6, .int .i64 ((rd_T74 l0_3 x19_1).f3.f0), .int .i64 ((rd_T74 l0_3 x19_1).f3.f1), .slice A166_9 ((rd_T74 l0_3 x19_1).f3.f2).length c166_9, .int .i64 ((rd_T74 l0_3 x19_1).f4.f0), .int .i64 ((rd_T74 l0_3 x19_1).f4.f1), .slice A166_12 ((rd_T74 l0_3 x19_1).f4.f2).length c166_12, .slice A166_13 ((rd_T74 l0_3 x19_1).f5).length c166_13, .int .i64 ((rd_T74 l0_3 x19_1).f6.f0), .int .i64 ((rd_T74 l0_3 x19_1).f6.f1), .slice A166_16 ((rd_T74 l0_3 x19_1).f6.f2).length c166_16, .int .i64 ((rd_T74 l0_3 x19_1).f7.f0), .int .i64 ((rd_T74 l0_3 x19_1).f7.f1), .slice A166_19 ((rd_T74 l0_3 x19_1).f7.f2).length c166_19] 74 (0, 0)) (by (with_reducible repeat (first | apply bkN | apply bkD | apply bkA)); exact BK167.out) hg (Kd.R_ne HO170.out BK167.out (by decide)))
          have n12_ := Aside0.mk (hb)
          have n13_ := Aside0.mk (ho)
          clear HO_17
          clear HO_154003
          clear BK153
          clear HL166_0
          clear HL166_3
          clear HL166_6
          clear HL166_9
          clear HL166_12
          clear HL166_13
          clear HL166_16
          clear HL166_19
          clear BK167
          clear HB
          clear HO170
          have HO_17 := n0_
          have HO_154003 := n1_
          have BK153 := n2_
          have HL166_0 := n3_
          have HL166_3 := n4_
          have HL166_6 := n5_
          have HL166_9 := n6_
          have HL166_12 := n7_
          have HL166_13 := n8_
          have HL166_16 := n9_
          have HL166_19 := n10_
          have BK167 := n11_
          have HB := n12_
          have HO173 := n13_
          clear n0_ n1_ n2_ n3_ n4_ n5_ n6_ n7_ n8_ n9_ n10_ n11_ n12_ n13_
          clear ho hb hg hat
          refine hK.out _ _ ⟨(blk_cell BK167.out 0).trans rfl, (blk_cell BK167.out 1).trans rfl, (blk_cell BK167.out 2).trans rfl, (blk_cell BK167.out 3).trans rfl, (blk_cell BK167.out 4).trans rfl, (blk_cell BK167.out 5).trans rfl, (blk_cell BK167.out 6).trans rfl, (blk_cell BK167.out 7).trans rfl, (blk_cell BK167.out 8).trans rfl, (blk_cell BK167.out 9).trans rfl, (blk_cell BK167.out 10).trans rfl, (blk_cell BK167.out 11).trans rfl, (blk_cell BK167.out 12).trans rfl, (blk_cell BK167.out 13).trans rfl, (blk_cell BK167.out 14).trans rfl, (blk_cell BK167.out 15).trans rfl, (blk_cell BK167.out 16).trans rfl, (blk_cell BK167.out 17).trans rfl, (blk_cell BK167.out 18).trans rfl, (blk_cell BK167.out 19).trans rfl⟩ (fun hHeld => ?_)
          clear hK K
          refine norm_ (a' := ?_) ?_ ?_
          rotate_left
          ·show Act.put _ (some 29) _ = _
           simp only [Act.put, sqA, sqB, sqC, i64_w, i32_w]
           rfl
          refine pure_ (i := 7) (N := some 3) (v := ?_) (a' := ?_) T44168_18 rfl rfl (any_of HT_.out (by kernel_rfl)) idq (.inl ⟨by rfl, ?_⟩) ?_ ?_
          rotate_left; ·intro w'; go_simp; with_reducible rfl
          rotate_left; ·simp only [Act.put, sqA, sqB, sqC, i64_w, i32_w]; rfl
          refine done_ (done_of HT_.out (by kernel_rfl)) ?_
          have hcz23_0 : w22.cell? ⟨gb167, 0, none⟩ = some (.slice A166_0 ((rd_T74 l0_3 x19_1).f0).length c166_0) := (blk_cell BK167.out 0).trans rfl
          have hcz23_1 : w22.cell? ⟨gb167, 1, none⟩ = some (.int .i64 ((rd_T74 l0_3 x19_1).f1.f0)) := (blk_cell BK167.out 1).trans rfl
          have hcz23_2 : w22.cell? ⟨gb167, 2, none⟩ = some (.int .i64 ((rd_T74 l0_3 x19_1).f1.f1)) := (blk_cell BK167.out 2).trans rfl
          have hcz23_3 : w22.cell? ⟨gb167, 3, none⟩ = some (.slice A166_3 ((rd_T74 l0_3 x19_1).f1.f2).length c166_3) := (blk_cell BK167.out 3).trans rfl
          have hcz23_4 : w22.cell? ⟨gb167, 4, none⟩ = some (.int .i64 ((rd_T74 l0_3 x19_1).f2.f0)) := (blk_cell BK167.out 4).trans rfl
          have hcz23_5 : w22.cell? ⟨gb167, 5, none⟩ = some (.int .i64 ((rd_T74 l0_3 x19_1).f2.f1)) := (blk_cell BK167.out 5).trans rfl
          have hcz23_6 : w22.cell? ⟨gb167, 6, none⟩ = some (.slice A166_6 ((rd_T74 l0_3 x19_1).f2.f2).length c166_6) := (blk_cell BK167.out 6).trans rfl
          have hcz23_7 : w22.cell? ⟨gb167, 7, none⟩ = some (.int .i64 ((rd_T74 l0_3 x19_1).f3.f0)) := (blk_cell BK167.out 7).trans rfl
          have hcz23_8 : w22.cell? ⟨gb167, 8, none⟩ = some (.int .i64 ((rd_T74 l0_3 x19_1).f3.f1)) := (blk_cell BK167.out 8).trans rfl
          have hcz23_9 : w22.cell? ⟨gb167, 9, none⟩ = some (.slice A166_9 ((rd_T74 l0_3 x19_1).f3.f2).length c166_9) := (blk_cell BK167.out 9).trans rfl
          have hcz23_10 : w22.cell? ⟨gb167, 10, none⟩ = some (.int .i64 ((rd_T74 l0_3 x19_1).f4.f0)) := (blk_cell BK167.out 10).trans rfl
          have hcz23_11 : w22.cell? ⟨gb167, 11, none⟩ = some (.int .i64 ((rd_T74 l0_3 x19_1).f4.f1)) := (blk_cell BK167.out 11).trans rfl
          have hcz23_12 : w22.cell? ⟨gb167, 12, none⟩ = some (.slice A166_12 ((rd_T74 l0_3 x19_1).f4.f2).length c166_12) := (blk_cell BK167.out 12).trans rfl
          have hcz23_13 : w22.cell? ⟨gb167, 13, none⟩ = some (.slice A166_13 ((rd_T74 l0_3 x19_1).f5).length c166_13) := (blk_cell BK167.out 13).trans rfl
          have hcz23_14 : w22.cell? ⟨gb167, 14, none⟩ = some (.int .i64 ((rd_T74 l0_3 x19_1).f6.f0)) := (blk_cell BK167.out 14).trans rfl
          have hcz23_15 : w22.cell? ⟨gb167, 15, none⟩ = some (.int .i64 ((rd_T74 l0_3 x19_1).f6.f1)) := (blk_cell BK167.out 15).trans rfl
          have hcz23_16 : w22.cell? ⟨gb167, 16, none⟩ = some (.slice A166_16 ((rd_T74 l0_3 x19_1).f6.f2).length c166_16) := (blk_cell BK167.out 16).trans rfl
          have hcz23_17 : w22.cell? ⟨gb167, 17, none⟩ = some (.int .i64 ((rd_T74 l0_3 x19_1).f7.f0)) := (blk_cell BK167.out 17).trans rfl
          have hcz23_18 : w22.cell? ⟨gb167, 18, none⟩ = some (.int .i64 ((rd_T74 l0_3 x19_1).f7.f1)) := (blk_cell BK167.out 18).trans rfl
          have hcz23_19 : w22.cell? ⟨gb167, 19, none⟩ = some (.slice A166_19 ((rd_T74 l0_3 x19_1).f7.f2).length c166_19) := (blk_cell BK167.out 19).trans rfl
          have hfz23_0 := blk_frozen BK167.out 0
          have hfz23_1 := blk_frozen BK167.out 1
          have hfz23_2 := blk_frozen BK167.out 2
          have hfz23_3 := blk_frozen BK167.out 3
          have hfz23_4 := blk_frozen BK167.out 4
          have hfz23_5 := blk_frozen BK167.out 5
          have hfz23_6 := blk_frozen BK167.out 6
          have hfz23_7 := blk_frozen BK167.out 7
          have hfz23_8 := blk_frozen BK167.out 8
          have hfz23_9 := blk_frozen BK167.out 9
          have hfz23_10 := blk_frozen BK167.out 10
          have hfz23_11 := blk_frozen BK167.out 11
          have hfz23_12 := blk_frozen BK167.out 12
          have hfz23_13 := blk_frozen BK167.out 13
          have hfz23_14 := blk_frozen BK167.out 14
          have hfz23_15 := blk_frozen BK167.out 15
          have hfz23_16 := blk_frozen BK167.out 16
          have hfz23_17 := blk_frozen BK167.out 17
          have hfz23_18 := blk_frozen BK167.out 18
          have hfz23_19 := blk_frozen BK167.out 19
          try go_wp2_with (first | ((with_reducible refine gate_dst (N := 42) rfl ?_); refine Kd.N_lit k27 _ 27 ?hg (N' := 42) ?hd (xs := ([(⟨(rd_T74 l0_3 x19_1).f1.f0, (rd_T74 l0_3 x19_1).f1.f1, (rd_T74 l0_3 x19_1).f1.f2⟩ : S27), (⟨(rd_T74 l0_3 x19_1).f2.f0, (rd_T74 l0_3 x19_1).f2.f1, (rd_T74 l0_3 x19_1).f2.f2⟩ : S27), (⟨(rd_T74 l0_3 x19_1).f3.f0, (rd_T74 l0_3 x19_1).f3.f1, (rd_T74 l0_3 x19_1).f3.f2⟩ : S27), (⟨(rd_T74 l0_3 x19_1).f4.f0, (rd_T74 l0_3 x19_1).f4.f1, (rd_T74 l0_3 x19_1).f4.f2⟩ : S27), (⟨(rd_T74 l0_3 x19_1).f6.f0, (rd_T74 l0_3 x19_1).f6.f1, (rd_T74 l0_3 x19_1).f6.f2⟩ : S27), (⟨(rd_T74 l0_3 x19_1).f7.f0, (rd_T74 l0_3 x19_1).f7.f1, (rd_T74 l0_3 x19_1).f7.f2⟩ : S27)] : List (S27))) (inner := [.int .i64 ((rd_T74 l0_3 x19_1).f1.f0), .int .i64 ((rd_T74 l0_3 x19_1).f1.f1), .slice A166_3 ((rd_T74 l0_3 x19_1).f1.f2).length c166_3, .int .i64 ((rd_T74 l0_3 x19_1).f2.f0), .int .i64 ((rd_T74 l0_3 x19_1).f2.f1), .slice A166_6 ((rd_T74 l0_3 x19_1).f2.f2).length c166_6, .int .i64 ((rd_T74 l0_3 x19_1).f3.f0), .int .i64 ((rd_T74 l0_3 x19_1).f3.f1), .slice A166_9 ((rd_T74 l0_3 x19_1).f3.f2).length c166_9, .int .i64 ((rd_T74 l0_3 x19_1).f4.f0), .int .i64 ((rd_T74 l0_3 x19_1).f4.f1), .slice A166_12 ((rd_T74 l0_3 x19_1).f4.f2).length c166_12, .int .i64 ((rd_T74 l0_3 x19_1).f6.f0), .int .i64 ((rd_T74 l0_3 x19_1).f6.f1), .slice A166_16 ((rd_T74 l0_3 x19_1).f6.f2).length c166_16, .int .i64 ((rd_T74 l0_3 x19_1).f7.f0), .int .i64 ((rd_T74 l0_3 x19_1).f7.f1), .slice A166_19 ((rd_T74 l0_3 x19_1).f7.f2).length c166_19]) (ok := (fun k_ => (P0_3_ k_ ∨ w.heap.size ≤ k_) ∧ some k_ ≠ (v172 : Value).ownBlock ∧ k_ ≠ gb153 ∧ k_ ≠ gb167)) (okp := (fun k_ => (P0_3_ k_ ∨ w.heap.size ≤ k_) ∧ some k_ ≠ (v172 : Value).ownBlock ∧ k_ ≠ gb153 ∧ k_ ≠ gb167)) ?hr ?hp (fun _ hk => hk) ((show ∀ k_, w22.heap.size ≤ k_ → (fun k_ => (P0_3_ k_ ∨ w.heap.size ≤ k_) ∧ some k_ ≠ (v172 : Value).ownBlock ∧ k_ ≠ gb153 ∧ k_ ≠ gb167) k_ from fun k_ hk => ⟨(.inr (Nat.le_trans (below_size (by repeat (first | (with_reducible first | exact HB.out | apply bwA | apply bwN | apply bwD | refine below_set ?_ GE153.out | refine below_set ?_ GE167.out | refine below_setRow ?_ GE167.out _) | exact HB.out))) hk)), Kd.fresh' (Kd.R_lt (by (with_reducible repeat (first | apply rwA | apply rwN | apply rwD)); exact HO173.out)) k_ hk, Kd.freshB (g := gb153) (o := .cells #[.int .i64 a0_0, .int .i64 a0_1, .slice A0_2 l0_2.length c0_2, .slice (some ad166) l0_3.length c0_3, .slice A0_4 l0_4.length c0_4, .int .i64 a0_5, .int .i64 a0_6, .slice A0_7 l0_7.length c0_7] 41 (0, 0)) (by (with_reducible repeat (first | apply bkN | apply bkD | apply bkA)); exact BK153.out) k_ hk, Kd.freshB (g := gb167) (o := .cells #[.slice A166_0 ((rd_T74 l0_3 x19_1).f0).length c166_0, .int .i64 ((rd_T74 l0_3 x19_1).f1.f0), .int .i64 ((rd_T74 l0_3 x19_1).f1.f1), .slice A166_3 ((rd_T74 l0_3 x19_1).f1.f2).length c166_3, .int .i64 ((rd_T74 l0_3 x19_1).f2.f0), .int .i64 ((rd_T74 l0_3 x19_1).f2.f1), .slice A166_6 ((rd_T74 l0_3 x19_1).f2.f2).length c166_6, .int .i64 ((rd_T74 l0_3 x19_1).f3.f0), .int .i64 ((rd_T74 l0_3 x19_1).f3.f1), .slice A166_9 ((rd_T74 l0_3 x19_1).f3.f2).length c166_9, .int .i64 ((rd_T74 l0_3 x19_1).f4.f0), .int .i64 ((rd_T74 l0_3 x19_1).f4.f1), .slice A166_12 ((rd_T74 l0_3 x19_1).f4.f2).length c166_12, .slice A166_13 ((rd_T74 l0_3 x19_1).f5).length c166_13, .int .i64 ((rd_T74 l0_3 x19_1).f6.f0), .int .i64 ((rd_T74 l0_3 x19_1).f6.f1), .slice A166_16 ((rd_T74 l0_3 x19_1).f6.f2).length c166_16, .int .i64 ((rd_T74 l0_3 x19_1).f7.f0), .int .i64 ((rd_T74 l0_3 x19_1).f7.f1), .slice A166_19 ((rd_T74 l0_3 x19_1).f7.f2).length c166_19] 74 (0, 0)) (by (with_reducible repeat (first | apply bkN | apply bkD | apply bkA)); exact BK167.out) k_ hk⟩) _ (Nat.le_refl _)) (Below.refl _ _) (Nat.le_refl _) (by simp) ?_; (case hd => rfl); (case hg => rfl); (case hr => first | (go_simp; done) | (go_simp; rfl)); (case hp => exact (Reps.c3 (show Kd.FK k27 _ _ (⟨(rd_T74 l0_3 x19_1).f1.f0, (rd_T74 l0_3 x19_1).f1.f1, (rd_T74 l0_3 x19_1).f1.f2⟩ : S27) [.int .i64 ((rd_T74 l0_3 x19_1).f1.f0), .int .i64 ((rd_T74 l0_3 x19_1).f1.f1), .slice A166_3 ((rd_T74 l0_3 x19_1).f1.f2).length c166_3] from (k27_mkF _ _ (⟨(rd_T74 l0_3 x19_1).f1.f0, (rd_T74 l0_3 x19_1).f1.f1, (rd_T74 l0_3 x19_1).f1.f2⟩ : S27) (Kd.V_reads' (Kd.V_mono (ok' := (fun k_ => (P0_3_ k_ ∨ w.heap.size ≤ k_) ∧ some k_ ≠ (v172 : Value).ownBlock ∧ k_ ≠ gb153 ∧ k_ ≠ gb167)) (HL166_3.out) (fun k_ hk => ⟨hk.1.1, ⟨hk.2, ⟨hk.1.2.1, hk.1.2.2⟩⟩⟩))).2.1 (Kd.V_F (Kd.V_mono (ok' := (fun k_ => (P0_3_ k_ ∨ w.heap.size ≤ k_) ∧ some k_ ≠ (v172 : Value).ownBlock ∧ k_ ≠ gb153 ∧ k_ ≠ gb167)) (HL166_3.out) (fun k_ hk => ⟨hk.1.1, ⟨hk.2, ⟨hk.1.2.1, hk.1.2.2⟩⟩⟩))))) (Reps.c3 (show Kd.FK k27 _ _ (⟨(rd_T74 l0_3 x19_1).f2.f0, (rd_T74 l0_3 x19_1).f2.f1, (rd_T74 l0_3 x19_1).f2.f2⟩ : S27) [.int .i64 ((rd_T74 l0_3 x19_1).f2.f0), .int .i64 ((rd_T74 l0_3 x19_1).f2.f1), .slice A166_6 ((rd_T74 l0_3 x19_1).f2.f2).length c166_6] from (k27_mkF _ _ (⟨(rd_T74 l0_3 x19_1).f2.f0, (rd_T74 l0_3 x19_1).f2.f1, (rd_T74 l0_3 x19_1).f2.f2⟩ : S27) (Kd.V_reads' (Kd.V_mono (ok' := (fun k_ => (P0_3_ k_ ∨ w.heap.size ≤ k_) ∧ some k_ ≠ (v172 : Value).ownBlock ∧ k_ ≠ gb153 ∧ k_ ≠ gb167)) (HL166_6.out) (fun k_ hk => ⟨hk.1.1, ⟨hk.2, ⟨hk.1.2.1, hk.1.2.2⟩⟩⟩))).2.1 (Kd.V_F (Kd.V_mono (ok' := (fun k_ => (P0_3_ k_ ∨ w.heap.size ≤ k_) ∧ some k_ ≠ (v172 : Value).ownBlock ∧ k_ ≠ gb153 ∧ k_ ≠ gb167)) (HL166_6.out) (fun k_ hk => ⟨hk.1.1, ⟨hk.2, ⟨hk.1.2.1, hk.1.2.2⟩⟩⟩))))) (Reps.c3 (show Kd.FK k27 _ _ (⟨(rd_T74 l0_3 x19_1).f3.f0, (rd_T74 l0_3 x19_1).f3.f1, (rd_T74 l0_3 x19_1).f3.f2⟩ : S27) [.int .i64 ((rd_T74 l0_3 x19_1).f3.f0), .int .i64 ((rd_T74 l0_3 x19_1).f3.f1), .slice A166_9 ((rd_T74 l0_3 x19_1).f3.f2).length c166_9] from (k27_mkF _ _ (⟨(rd_T74 l0_3 x19_1).f3.f0, (rd_T74 l0_3 x19_1).f3.f1, (rd_T74 l0_3 x19_1).f3.f2⟩ : S27) (Kd.V_reads' (Kd.V_mono (ok' := (fun k_ => (P0_3_ k_ ∨ w.heap.size ≤ k_) ∧ some k_ ≠ (v172 : Value).ownBlock ∧ k_ ≠ gb153 ∧ k_ ≠ gb167)) (HL166_9.out) (fun k_ hk => ⟨hk.1.1, ⟨hk.2, ⟨hk.1.2.1, hk.1.2.2⟩⟩⟩))).2.1 (Kd.V_F (Kd.V_mono (ok' := (fun k_ => (P0_3_ k_ ∨ w.heap.size ≤ k_) ∧ some k_ ≠ (v172 : Value).ownBlock ∧ k_ ≠ gb153 ∧ k_ ≠ gb167)) (HL166_9.out) (fun k_ hk => ⟨hk.1.1, ⟨hk.2, ⟨hk.1.2.1, hk.1.2.2⟩⟩⟩))))) (Reps.c3 (show Kd.FK k27 _ _ (⟨(rd_T74 l0_3 x19_1).f4.f0, (rd_T74 l0_3 x19_1).f4.f1, (rd_T74 l0_3 x19_1).f4.f2⟩ : S27) [.int .i64 ((rd_T74 l0_3 x19_1).f4.f0), .int .i64 ((rd_T74 l0_3 x19_1).f4.f1), .slice A166_12 ((rd_T74 l0_3 x19_1).f4.f2).length c166_12] from (k27_mkF _ _ (⟨(rd_T74 l0_3 x19_1).f4.f0, (rd_T74 l0_3 x19_1).f4.f1, (rd_T74 l0_3 x19_1).f4.f2⟩ : S27) (Kd.V_reads' (Kd.V_mono (ok' := (fun k_ => (P0_3_ k_ ∨ w.heap.size ≤ k_) ∧ some k_ ≠ (v172 : Value).ownBlock ∧ k_ ≠ gb153 ∧ k_ ≠ gb167)) (HL166_12.out) (fun k_ hk => ⟨hk.1.1, ⟨hk.2, ⟨hk.1.2.1, hk.1.2.2⟩⟩⟩))).2.1 (Kd.V_F (Kd.V_mono (ok' := (fun k_ => (P0_3_ k_ ∨ w.heap.size ≤ k_) ∧ some k_ ≠ (v172 : Value).ownBlock ∧ k_ ≠ gb153 ∧ k_ ≠ gb167)) (HL166_12.out) (fun k_ hk => ⟨hk.1.1, ⟨hk.2, ⟨hk.1.2.1, hk.1.2.2⟩⟩⟩))))) (Reps.c3 (show Kd.FK k27 _ _ (⟨(rd_T74 l0_3 x19_1).f6.f0, (rd_T74 l0_3 x19_1).f6.f1, (rd_T74 l0_3 x19_1).f6.f2⟩ : S27) [.int .i64 ((rd_T74 l0_3 x19_1).f6.f0), .int .i64 ((rd_T74 l0_3 x19_1).f6.f1), .slice A166_16 ((rd_T74 l0_3 x19_1).f6.f2).length c166_16] from (k27_mkF _ _ (⟨(rd_T74 l0_3 x19_1).f6.f0, (rd_T74 l0_3 x19_1).f6.f1, (rd_T74 l0_3 x19_1).f6.f2⟩ : S27) (Kd.V_reads' (Kd.V_mono (ok' := (fun k_ => (P0_3_ k_ ∨ w.heap.size ≤ k_) ∧ some k_ ≠ (v172 : Value).ownBlock ∧ k_ ≠ gb153 ∧ k_ ≠ gb167)) (HL166_16.out) (fun k_ hk => ⟨hk.1.1, ⟨hk.2, ⟨hk.1.2.1, hk.1.2.2⟩⟩⟩))).2.1 (Kd.V_F (Kd.V_mono (ok' := (fun k_ => (P0_3_ k_ ∨ w.heap.size ≤ k_) ∧ some k_ ≠ (v172 : Value).ownBlock ∧ k_ ≠ gb153 ∧ k_ ≠ gb167)) (HL166_16.out) (fun k_ hk => ⟨hk.1.1, ⟨hk.2, ⟨hk.1.2.1, hk.1.2.2⟩⟩⟩))))) (Reps.c3 (show Kd.FK k27 _ _ (⟨(rd_T74 l0_3 x19_1).f7.f0, (rd_T74 l0_3 x19_1).f7.f1, (rd_T74 l0_3 x19_1).f7.f2⟩ : S27) [.int .i64 ((rd_T74 l0_3 x19_1).f7.f0), .int .i64 ((rd_T74 l0_3 x19_1).f7.f1), .slice A166_19 ((rd_T74 l0_3 x19_1).f7.f2).length c166_19] from (k27_mkF _ _ (⟨(rd_T74 l0_3 x19_1).f7.f0, (rd_T74 l0_3 x19_1).f7.f1, (rd_T74 l0_3 x19_1).f7.f2⟩ : S27) (Kd.V_reads' (Kd.V_mono (ok' := (fun k_ => (P0_3_ k_ ∨ w.heap.size ≤ k_) ∧ some k_ ≠ (v172 : Value).ownBlock ∧ k_ ≠ gb153 ∧ k_ ≠ gb167)) (HL166_19.out) (fun k_ hk => ⟨hk.1.1, ⟨hk.2, ⟨hk.1.2.1, hk.1.2.2⟩⟩⟩))).2.1 (Kd.V_F (Kd.V_mono (ok' := (fun k_ => (P0_3_ k_ ∨ w.heap.size ≤ k_) ∧ some k_ ≠ (v172 : Value).ownBlock ∧ k_ ≠ gb153 ∧ k_ ≠ gb167)) (HL166_19.out) (fun k_ hk => ⟨hk.1.1, ⟨hk.2, ⟨hk.1.2.1, hk.1.2.2⟩⟩⟩))))) (Reps.none _ _)))))))); intro v175 w24 ho25 hb hg_ hnew_; clear hg_ hnew_; (first | rw [← Ny174.out] at ho25 | (simp only [Int.reduceToNat] at ho25; rw [← Ny174.out] at ho25)); have n0_ := Aside0.mk (Kd.V_elder' (by (with_reducible repeat (first | apply Kd.V_alloc | apply Kd.V_drewN | apply Kd.V_drew)); exact HO_17.out) (Kd.N_base ho25) hb); have n1_ := Aside0.mk (Kd.V_elder' (by (with_reducible repeat (first | apply Kd.V_alloc | apply Kd.V_drewN | apply Kd.V_drew)); exact HO_154003.out) (Kd.N_base ho25) hb); have n2_ := Aside0.mk (Kd.V_elder' (by (with_reducible repeat (first | apply Kd.V_alloc | apply Kd.V_drewN | apply Kd.V_drew)); exact HL166_0.out) (Kd.N_base ho25) hb); have n3_ := Aside0.mk (Kd.V_elder' (by (with_reducible repeat (first | apply Kd.V_alloc | apply Kd.V_drewN | apply Kd.V_drew)); exact HL166_3.out) (Kd.N_base ho25) hb); have n4_ := Aside0.mk (Kd.V_elder' (by (with_reducible repeat (first | apply Kd.V_alloc | apply Kd.V_drewN | apply Kd.V_drew)); exact HL166_6.out) (Kd.N_base ho25) hb); have n5_ := Aside0.mk (Kd.V_elder' (by (with_reducible repeat (first | apply Kd.V_alloc | apply Kd.V_drewN | apply Kd.V_drew)); exact HL166_9.out) (Kd.N_base ho25) hb); have n6_ := Aside0.mk (Kd.V_elder' (by (with_reducible repeat (first | apply Kd.V_alloc | apply Kd.V_drewN | apply Kd.V_drew)); exact HL166_12.out) (Kd.N_base ho25) hb); have n7_ := Aside0.mk (Kd.V_elder' (by (with_reducible repeat (first | apply Kd.V_alloc | apply Kd.V_drewN | apply Kd.V_drew)); exact HL166_13.out) (Kd.N_base ho25) hb); have n8_ := Aside0.mk (Kd.V_elder' (by (with_reducible repeat (first | apply Kd.V_alloc | apply Kd.V_drewN | apply Kd.V_drew)); exact HL166_16.out) (Kd.N_base ho25) hb); have n9_ := Aside0.mk (Kd.V_elder' (by (with_reducible repeat (first | apply Kd.V_alloc | apply Kd.V_drewN | apply Kd.V_drew)); exact HL166_19.out) (Kd.N_base ho25) hb); have n10_ := Aside0.mk (Kd.R_below (by (with_reducible repeat (first | apply rwA | apply rwN | apply rwD)); exact HO173.out) hb); have n11_ := Aside0.mk (Kd.N_lower ho25 (below_size (by repeat (first | (with_reducible first | exact HB.out | apply bwA | apply bwN | apply bwD | refine below_set ?_ GE153.out | refine below_set ?_ GE167.out | refine below_setRow ?_ GE167.out _) | exact HB.out)))); have n12_ := Aside0.mk (blk_below (g := gb153) (o := .cells #[.int .i64 a0_0, .int .i64 a0_1, .slice A0_2 l0_2.length c0_2, .slice (some ad166) l0_3.length c0_3, .slice A0_4 l0_4.length c0_4, .int .i64 a0_5, .int .i64 a0_6, .slice A0_7 l0_7.length c0_7] 41 (0, 0)) (by (with_reducible repeat (first | apply bkN | apply bkD | apply bkA)); exact BK153.out) hb); have n13_ := Aside0.mk (blk_below (g := gb167) (o := .cells #[.slice A166_0 ((rd_T74 l0_3 x19_1).f0).length c166_0, .int .i64 ((rd_T74 l0_3 x19_1).f1.f0), .int .i64 ((rd_T74 l0_3 x19_1).f1.f1), .slice A166_3 ((rd_T74 l0_3 x19_1).f1.f2).length c166_3, .int .i64 ((rd_T74 l0_3 x19_1).f2.f0), .int .i64 ((rd_T74 l0_3 x19_1).f2.f1), .slice A166_6 ((rd_T74 l0_3 x19_1).f2.f2).length c166_6, .int .i64 ((rd_T74 l0_3 x19_1).f3.f0), .int .i64 ((rd_T74 l0_3 x19_1).f3.f1), .slice A166_9 ((rd_T74 l0_3 x19_1).f3.f2).length c166_9, .int .i64 ((rd_T74 l0_3 x19_1).f4.f0), .int .i64 ((rd_T74 l0_3 x19_1).f4.f1), .slice A166_12 ((rd_T74 l0_3 x19_1).f4.f2).length c166_12, .slice A166_13 ((rd_T74 l0_3 x19_1).f5).length c166_13, .int .i64 ((rd_T74 l0_3 x19_1).f6.f0), .int .i64 ((rd_T74 l0_3 x19_1).f6.f1), .slice A166_16 ((rd_T74 l0_3 x19_1).f6.f2).length c166_16, .int .i64 ((rd_T74 l0_3 x19_1).f7.f0), .int .i64 ((rd_T74 l0_3 x19_1).f7.f1), .slice A166_19 ((rd_T74 l0_3 x19_1).f7.f2).length c166_19] 74 (0, 0)) (by (with_reducible repeat (first | apply bkN | apply bkD | apply bkA)); exact BK167.out) hb); have n14_ := Aside0.mk (below_step (by repeat (first | (with_reducible first | exact HB.out | apply bwA | apply bwN | apply bwD | refine below_set ?_ GE153.out | refine below_set ?_ GE167.out | refine below_setRow ?_ GE167.out _) | exact HB.out)) hb); clear HO_17; clear HO_154003; clear HL166_0; clear HL166_3; clear HL166_6; clear HL166_9; clear HL166_12; clear HL166_13; clear HL166_16; clear HL166_19; clear HO173; clear BK153; clear BK167; clear HB; have HO_17 := n0_; have HO_154003 := n1_; have HL166_0 := n2_; have HL166_3 := n3_; have HL166_6 := n4_; have HL166_9 := n5_; have HL166_12 := n6_; have HL166_13 := n7_; have HL166_16 := n8_; have HL166_19 := n9_; have HO173 := n10_; have HO176 := n11_; have BK153 := n12_; have BK167 := n13_; have HB := n14_; clear n0_ n1_ n2_ n3_ n4_ n5_ n6_ n7_ n8_ n9_ n10_ n11_ n12_ n13_ n14_; clear hb ho25; obtain ⟨Ao26, co26, eo26⟩ := Kd.N_slice HO176.out; subst eo26))
          go_loopg [3, 44] k1 (fun kq v3 v44 w' => ∃ (x3_2 : List Int) (x44_2 : Int), v44 = .int .i64 x44_2 ∧ Aside0 (tillerref06_List.l1 kq x3_2 l0_3 (l0_3.length : Int) x19_1 y174 (y174.length : Int) x44_2 a0_0 a0_1 l0_2 l0_3 l0_4 a0_5 a0_6 l0_7 = some r) ∧ Aside0 (kq ≤ k1) ∧ Aside0 (Kd.R (Kd.int .i32) 35 w' w.heap.size (fun k_ => (w.heap.size ≤ k_)) v3 x3_2) ∧ Aside0 (Kd.V k74 74 w' w.heap.size (fun k_ => (P0_3_ k_ ∨ w.heap.size ≤ k_) ∧ some k_ ≠ (v3 : Value).ownBlock ∧ some k_ ≠ ((.slice Ao26 y174.length co26) : Value).ownBlock ∧ k_ ≠ gb153 ∧ k_ ≠ gb167) (.slice (some ad166) l0_3.length c0_3) l0_3) ∧ Aside0 (Kd.N k27 27 w' w.heap.size (fun k_ => (P0_3_ k_ ∨ w.heap.size ≤ k_) ∧ some k_ ≠ (v3 : Value).ownBlock ∧ k_ ≠ gb153 ∧ k_ ≠ gb167) (.slice Ao26 y174.length co26) y174) ∧ Aside0 (Kd.V k74 74 w' w.heap.size (fun k_ => (P0_3_ k_ ∨ w.heap.size ≤ k_) ∧ some k_ ≠ (v3 : Value).ownBlock ∧ some k_ ≠ ((.slice Ao26 y174.length co26) : Value).ownBlock ∧ k_ ≠ gb153 ∧ k_ ≠ gb167) (.slice (some ad166) l0_3.length c0_3) l0_3) ∧ Aside0 (w'.heap[gb153]? = some (.cells #[.int .i64 a0_0, .int .i64 a0_1, (.slice A0_2 l0_2.length c0_2), (.slice (some ad166) l0_3.length c0_3), (.slice A0_4 l0_4.length c0_4), .int .i64 a0_5, .int .i64 a0_6, (.slice A0_7 l0_7.length c0_7)] 41 (0, 0))) ∧ Aside0 (w'.heap[gb167]? = some (.cells #[(.slice A166_0 ((rd_T74 l0_3 x19_1).f0).length c166_0), .int .i64 ((rd_T74 l0_3 x19_1).f1.f0), .int .i64 ((rd_T74 l0_3 x19_1).f1.f1), (.slice A166_3 ((rd_T74 l0_3 x19_1).f1.f2).length c166_3), .int .i64 ((rd_T74 l0_3 x19_1).f2.f0), .int .i64 ((rd_T74 l0_3 x19_1).f2.f1), (.slice A166_6 ((rd_T74 l0_3 x19_1).f2.f2).length c166_6), .int .i64 ((rd_T74 l0_3 x19_1).f3.f0), .int .i64 ((rd_T74 l0_3 x19_1).f3.f1), (.slice A166_9 ((rd_T74 l0_3 x19_1).f3.f2).length c166_9), .int .i64 ((rd_T74 l0_3 x19_1).f4.f0), .int .i64 ((rd_T74 l0_3 x19_1).f4.f1), (.slice A166_12 ((rd_T74 l0_3 x19_1).f4.f2).length c166_12), (.slice A166_13 ((rd_T74 l0_3 x19_1).f5).length c166_13), .int .i64 ((rd_T74 l0_3 x19_1).f6.f0), .int .i64 ((rd_T74 l0_3 x19_1).f6.f1), (.slice A166_16 ((rd_T74 l0_3 x19_1).f6.f2).length c166_16), .int .i64 ((rd_T74 l0_3 x19_1).f7.f0), .int .i64 ((rd_T74 l0_3 x19_1).f7.f1), (.slice A166_19 ((rd_T74 l0_3 x19_1).f7.f2).length c166_19)] 74 (0, 0))) ∧ Aside0 (Below w.heap.size w w'))
          case atStart => exact ⟨(y171), (0), (by first | rfl | (simp; done) | (simp [*]; done)), H', ⟨Nat.le_refl _⟩, ⟨by (with_reducible repeat (first | apply rwA | apply rwN | apply rwD)); exact HO173.out⟩, ⟨by (with_reducible repeat (first | apply Kd.V_alloc | apply Kd.V_drewN | apply Kd.V_drew)); exact Kd.V_mono HO_17.out (fun _ hk => ⟨hk.1.1.1, ⟨hk.1.2, ⟨hk.2, ⟨hk.1.1.2.1, hk.1.1.2.2⟩⟩⟩⟩)⟩, ⟨by (with_reducible repeat (first | apply Kd.N_alloc | apply Kd.N_drewN | apply Kd.N_drew)); exact HO176.out⟩, ⟨by (with_reducible repeat (first | apply Kd.V_alloc | apply Kd.V_drewN | apply Kd.V_drew)); exact Kd.V_mono HO_154003.out (fun _ hk => ⟨hk.1.1.1, ⟨hk.1.2, ⟨hk.2, ⟨hk.1.1.2.1, hk.1.1.2.2⟩⟩⟩⟩)⟩, ⟨by (with_reducible repeat (first | apply bkN | apply bkD | apply bkA)); exact BK153.out⟩, ⟨by (with_reducible repeat (first | apply bkN | apply bkD | apply bkA)); exact BK167.out⟩, ⟨by repeat (first | (with_reducible first | exact HB.out | apply bwA | apply bwN | apply bwD | refine below_set ?_ GE153.out | refine below_set ?_ GE167.out | refine below_setRow ?_ GE167.out _) | exact HB.out)⟩⟩
          case round =>
           clear H'
           try clear c1
           try clear p1
           try clear q1
           try clear hx1
           try clear c2
           try clear p2
           try clear c3
           try clear c11
           try clear c11b0
           try clear c12
           try clear c12b0
           try clear c13
           try clear c13b0
           try clear c14
           try clear c15
           try clear c16
           try clear p16
           try clear q16
           try clear hx16
           try clear c17
           try clear hcz10_0
           try clear hcz10_1
           try clear hcz10_2
           try clear hcz10_3
           try clear hcz10_4
           try clear hcz10_5
           try clear hcz10_6
           try clear hcz10_7
           try clear hcz18_0
           try clear hcz18_1
           try clear hcz18_10
           try clear hcz18_11
           try clear hcz18_12
           try clear hcz18_13
           try clear hcz18_14
           try clear hcz18_15
           try clear hcz18_16
           try clear hcz18_17
           try clear hcz18_18
           try clear hcz18_19
           try clear hcz18_2
           try clear hcz18_3
           try clear hcz18_4
           try clear hcz18_5
           try clear hcz18_6
           try clear hcz18_7
           try clear hcz18_8
           try clear hcz18_9
           try clear hcz23_0
           try clear hcz23_1
           try clear hcz23_10
           try clear hcz23_11
           try clear hcz23_12
           try clear hcz23_13
           try clear hcz23_14
           try clear hcz23_15
           try clear hcz23_16
           try clear hcz23_17
           try clear hcz23_18
           try clear hcz23_19
           try clear hcz23_2
           try clear hcz23_3
           try clear hcz23_4
           try clear hcz23_5
           try clear hcz23_6
           try clear hcz23_7
           try clear hcz23_8
           try clear hcz23_9
           try clear hfz10_0
           try clear hfz10_1
           try clear hfz10_2
           try clear hfz10_3
           try clear hfz10_4
           try clear hfz10_5
           try clear hfz10_6
           try clear hfz10_7
           try clear hfz18_0
           try clear hfz18_1
           try clear hfz18_10
           try clear hfz18_11
           try clear hfz18_12
           try clear hfz18_13
           try clear hfz18_14
           try clear hfz18_15
           try clear hfz18_16
           try clear hfz18_17
           try clear hfz18_18
           try clear hfz18_19
           try clear hfz18_2
           try clear hfz18_3
           try clear hfz18_4
           try clear hfz18_5
           try clear hfz18_6
           try clear hfz18_7
           try clear hfz18_8
           try clear hfz18_9
           try clear hfz23_0
           try clear hfz23_1
           try clear hfz23_10
           try clear hfz23_11
           try clear hfz23_12
           try clear hfz23_13
           try clear hfz23_14
           try clear hfz23_15
           try clear hfz23_16
           try clear hfz23_17
           try clear hfz23_18
           try clear hfz23_19
           try clear hfz23_2
           try clear hfz23_3
           try clear hfz23_4
           try clear hfz23_5
           try clear hfz23_6
           try clear hfz23_7
           try clear hfz23_8
           try clear hfz23_9
           try clear hx166_0
           try clear hx166_1
           try clear hx166_10
           try clear hx166_11
           try clear hx166_12
           try clear hx166_13
           try clear hx166_14
           try clear hx166_15
           try clear hx166_16
           try clear hx166_17
           try clear hx166_18
           try clear hx166_19
           try clear hx166_2
           try clear hx166_3
           try clear hx166_4
           try clear hx166_5
           try clear hx166_6
           try clear hx166_7
           try clear hx166_8
           try clear hx166_9
           try clear p166
           try clear p2
           try clear q166
           obtain ⟨x3_2, x44_2, rfl, HA, HK2, HO_3, HO_17, HO_42, HO_154003, BK153, BK167, HB⟩ := hrel
           cases gk with
           | zero => exact absurd HA.out (by simp [tillerref06_List.l1])
           | succ k2 =>
            have H := HA.out
            clear HA
            simp only [tillerref06_List.l1] at H
            by_cases c27 : x44_2 < (y174.length : Int)
            ·rw [if_pos c27] at H
             have c27b0 : decide (x44_2 < (y174.length : Int)) = true := decide_eq_true c27
             clear c27
             by_cases c28 : 0 ≤ x44_2
             ·rw [if_pos c28] at H
              have c28b0 : decide (0 ≤ x44_2) = true := decide_eq_true c28
              clear c28
              by_cases c29 : x44_2 < (y174.length : Int)
              ·rw [if_pos c29] at H
               have c29b0 : decide (x44_2 < (y174.length : Int)) = true := decide_eq_true c29
               clear c29
               by_cases c30 : x3_2.length + ((rd_T27 y174 x44_2).f2).length < 35184372088832
               ·rw [if_pos c30] at H
                have LMc30 := Aside0.mk c30
                clear c30
                obtain ⟨y179, hy179⟩ : ∃ y_ : List Int, y_ = (x3_2 ++ ((rd_T27 y174 x44_2).f2)) := ⟨_, rfl⟩
                replace H : (tillerref06_List.l1 k2 y179 l0_3 (l0_3.length : Int) x19_1 y174 (y174.length : Int) (wrap64 (x44_2 + 1)) a0_0 a0_1 l0_2 l0_3 l0_4 a0_5 a0_6 l0_7) = some r := by first | (rw [hy179]; with_reducible exact H) | (have H2_ := (Option.bind_some _ _).symm.trans H; rw [hy179]; with_reducible exact H2_) | (have H2_ := (Option.bind_some _ _).symm.trans H; with_reducible exact H2_) | with_reducible exact H | (rw [hy179]; exact H) | exact H
                have Ny179 := Aside0.mk hy179
                clear hy179
                have H' := Aside0.mk H
                clear H
                have p177 : 0 ≤ (x44_2 : Int) := ofd_
                have q177 : x44_2 < (y174.length : Int) := ofd_
                obtain ⟨ad177, A177_2, c177_2, e177, hx177_0, hx177_1, hx177_2, hl177_2, hi177_2⟩ := at_T27 (Kd.N_reads' HO_42.out).2.2 x44_2 p177 q177
                cases e177
                obtain ⟨ce177, hce177, hMe177, hcc177⟩ := Kd.N_get HO_42.out z27 x44_2 p177 (by first | exact q177 | exact ofd_ | (have e_ := (Kd.N_reads' HO_42.out).1; omega))
                obtain ⟨ua177_2, uc177_2, rfl, ul177_2, ge177_2⟩ := k27_openF hMe177
                have hv177_2 := hcc177 2 _ rfl
                rw [add_field _ _ 2 (by omega)] at hv177_2
                replace hv177_2 := Option.some.inj (hv177_2.symm.trans hx177_2)
                injection hv177_2 with hva_ hvn_ hvc_
                rw [hva_] at ge177_2
                rw [hvc_] at ul177_2
                have HL177_2 := Aside0.mk (show Kd.V (Kd.int .i32) 35 _ w.heap.size _ _ ((rd_T27 y174 x44_2).f2) from Kd.V_mk ul177_2 ge177_2)
                clear hva_ hvn_ hvc_ ge177_2 ul177_2
                clear hcc177 hce177
                have HR177_2 := Aside0.mk hi177_2
                have HC177_2 := Aside0.mk hl177_2
                clear hi177_2 hl177_2
                replace p177 := eq_true p177
                replace q177 := eq_true q177
                go_wp2_with (first | ((with_reducible refine gate_dst (N := 7) rfl ?_); refine box_event ?hg (N := 7) ?hd (cs := #[.int .i64 0, .int .i64 0, .slice none 0 0]) (t := 27) ?hr ?_; (case hd => rfl); (case hg => rfl); (case hr => first | (go_simp; done) | (go_simp; rfl)); intro gb178 hg w31 hbox hb; have n0_ := Aside0.mk (Kd.R_below (by (with_reducible repeat (first | apply rwA | apply rwN | apply rwD)); exact HO_3.out) hb); have n1_ := Aside0.mk (Kd.V_below (Kd.V_elderB (by (with_reducible repeat (first | apply Kd.V_alloc | apply Kd.V_drewN | apply Kd.V_drew)); exact HO_17.out) gb178 (Nat.le_of_eq hg.symm)) hb); have n2_ := Aside0.mk (Kd.N_below (Kd.N_elderB (by (with_reducible repeat (first | apply Kd.N_alloc | apply Kd.N_drewN | apply Kd.N_drew)); exact HO_42.out) gb178 (Nat.le_of_eq hg.symm)) hb); have n3_ := Aside0.mk (Kd.V_below (Kd.V_elderB (by (with_reducible repeat (first | apply Kd.V_alloc | apply Kd.V_drewN | apply Kd.V_drew)); exact HO_154003.out) gb178 (Nat.le_of_eq hg.symm)) hb); have n4_ := Aside0.mk (Kd.V_below (Kd.V_elderB (by (with_reducible repeat (first | apply Kd.V_alloc | apply Kd.V_drewN | apply Kd.V_drew)); exact HL177_2.out) gb178 (Nat.le_of_eq hg.symm)) hb); have n5_ := Aside0.mk (blk_below (g := gb153) (o := .cells #[.int .i64 a0_0, .int .i64 a0_1, .slice A0_2 l0_2.length c0_2, .slice (some ad166) l0_3.length c0_3, .slice A0_4 l0_4.length c0_4, .int .i64 a0_5, .int .i64 a0_6, .slice A0_7 l0_7.length c0_7] 41 (0, 0)) (by (with_reducible repeat (first | apply bkN | apply bkD | apply bkA)); exact BK153.out) hb); have n6_ := Aside0.mk (blk_below (g := gb167) (o := .cells #[.slice A166_0 ((rd_T74 l0_3 x19_1).f0).length c166_0, .int .i64 ((rd_T74 l0_3 x19_1).f1.f0), .int .i64 ((rd_T74 l0_3 x19_1).f1.f1), .slice A166_3 ((rd_T74 l0_3 x19_1).f1.f2).length c166_3, .int .i64 ((rd_T74 l0_3 x19_1).f2.f0), .int .i64 ((rd_T74 l0_3 x19_1).f2.f1), .slice A166_6 ((rd_T74 l0_3 x19_1).f2.f2).length c166_6, .int .i64 ((rd_T74 l0_3 x19_1).f3.f0), .int .i64 ((rd_T74 l0_3 x19_1).f3.f1), .slice A166_9 ((rd_T74 l0_3 x19_1).f3.f2).length c166_9, .int .i64 ((rd_T74 l0_3 x19_1).f4.f0), .int .i64 ((rd_T74 l0_3 x19_1).f4.f1), .slice A166_12 ((rd_T74 l0_3 x19_1).f4.f2).length c166_12, .slice A166_13 ((rd_T74 l0_3 x19_1).f5).length c166_13, .int .i64 ((rd_T74 l0_3 x19_1).f6.f0), .int .i64 ((rd_T74 l0_3 x19_1).f6.f1), .slice A166_16 ((rd_T74 l0_3 x19_1).f6.f2).length c166_16, .int .i64 ((rd_T74 l0_3 x19_1).f7.f0), .int .i64 ((rd_T74 l0_3 x19_1).f7.f1), .slice A166_19 ((rd_T74 l0_3 x19_1).f7.f2).length c166_19] 74 (0, 0)) (by (with_reducible repeat (first | apply bkN | apply bkD | apply bkA)); exact BK167.out) hb); have n7_ := Aside0.mk (Kd.C_below (by repeat (first | (with_reducible exact HR177_2.out) | (with_reducible refine Kd.C_alloc ?_ _) | (with_reducible refine Kd.C_drewN ?_ _) | (with_reducible refine Kd.C_drew ?_) | exact HR177_2.out)) hb); have n8_ := Aside0.mk (below_step (by repeat (first | (with_reducible first | exact HB.out | apply bwA | apply bwN | apply bwD | refine below_set ?_ GE153.out | refine below_set ?_ GE167.out | refine below_setRow ?_ GE167.out _) | exact HB.out)) hb); have n9_ := Aside0.mk (hbox); have n10_ := Aside0.mk ((by rw [hg]; exact (below_size (by repeat (first | (with_reducible first | exact HB.out | apply bwA | apply bwN | apply bwD | refine below_set ?_ GE153.out | refine below_set ?_ GE167.out | refine below_setRow ?_ GE167.out _) | exact HB.out))) : w.heap.size ≤ gb178)); have n11_ := Aside0.mk ((by rw [hg]; exact (below_size (by repeat (first | (with_reducible first | exact HB.out | apply bwA | apply bwN | apply bwD | refine below_set ?_ GE153.out | refine below_set ?_ GE167.out | refine below_setRow ?_ GE167.out _) | exact HB.out))) : w.heap.size ≤ gb178)); have n12_ := Aside0.mk ((by rw [hg]; exact Nat.ne_of_lt (blk_lt (g := gb153) (o := .cells #[.int .i64 a0_0, .int .i64 a0_1, .slice A0_2 l0_2.length c0_2, .slice (some ad166) l0_3.length c0_3, .slice A0_4 l0_4.length c0_4, .int .i64 a0_5, .int .i64 a0_6, .slice A0_7 l0_7.length c0_7] 41 (0, 0)) (by (with_reducible repeat (first | apply bkN | apply bkD | apply bkA)); exact BK153.out)) : gb153 ≠ gb178)); have n13_ := Aside0.mk ((by rw [hg]; exact Nat.ne_of_gt (blk_lt (g := gb153) (o := .cells #[.int .i64 a0_0, .int .i64 a0_1, .slice A0_2 l0_2.length c0_2, .slice (some ad166) l0_3.length c0_3, .slice A0_4 l0_4.length c0_4, .int .i64 a0_5, .int .i64 a0_6, .slice A0_7 l0_7.length c0_7] 41 (0, 0)) (by (with_reducible repeat (first | apply bkN | apply bkD | apply bkA)); exact BK153.out)) : gb178 ≠ gb153)); have n14_ := Aside0.mk ((by rw [hg]; exact Nat.ne_of_lt (blk_lt (g := gb167) (o := .cells #[.slice A166_0 ((rd_T74 l0_3 x19_1).f0).length c166_0, .int .i64 ((rd_T74 l0_3 x19_1).f1.f0), .int .i64 ((rd_T74 l0_3 x19_1).f1.f1), .slice A166_3 ((rd_T74 l0_3 x19_1).f1.f2).length c166_3, .int .i64 ((rd_T74 l0_3 x19_1).f2.f0), .int .i64 ((rd_T74 l0_3 x19_1).f2.f1), .slice A166_6 ((rd_T74 l0_3 x19_1).f2.f2).length c166_6, .int .i64 ((rd_T74 l0_3 x19_1).f3.f0), .int .i64 ((rd_T74 l0_3 x19_1).f3.f1), .slice A166_9 ((rd_T74 l0_3 x19_1).f3.f2).length c166_9, .int .i64 ((rd_T74 l0_3 x19_1).f4.f0), .int .i64 ((rd_T74 l0_3 x19_1).f4.f1), .slice A166_12 ((rd_T74 l0_3 x19_1).f4.f2).length c166_12, .slice A166_13 ((rd_T74 l0_3 x19_1).f5).length c166_13, .int .i64 ((rd_T74 l0_3 x19_1).f6.f0), .int .i64 ((rd_T74 l0_3 x19_1).f6.f1), .slice A166_16 ((rd_T74 l0_3 x19_1).f6.f2).length c166_16, .int .i64 ((rd_T74 l0_3 x19_1).f7.f0), .int .i64 ((rd_T74 l0_3 x19_1).f7.f1), .slice A166_19 ((rd_T74 l0_3 x19_1).f7.f2).length c166_19] 74 (0, 0)) (by (with_reducible repeat (first | apply bkN | apply bkD | apply bkA)); exact BK167.out)) : gb167 ≠ gb178)); have n15_ := Aside0.mk ((by rw [hg]; exact Nat.ne_of_gt (blk_lt (g := gb167) (o := .cells #[.slice A166_0 ((rd_T74 l0_3 x19_1).f0).length c166_0, .int .i64 ((rd_T74 l0_3 x19_1).f1.f0), .int .i64 ((rd_T74 l0_3 x19_1).f1.f1), .slice A166_3 ((rd_T74 l0_3 x19_1).f1.f2).length c166_3, .int .i64 ((rd_T74 l0_3 x19_1).f2.f0), .int .i64 ((rd_T74 l0_3 x19_1).f2.f1), .slice A166_6 ((rd_T74 l0_3 x19_1).f2.f2).length c166_6, .int .i64 ((rd_T74 l0_3 x19_1).f3.f0), .int .i64 ((rd_T74 l0_3 x19_1).f3.f1), .slice A166_9 ((rd_T74 l0_3 x19_1).f3.f2).length c166_9, .int .i64 ((rd_T74 l0_3 x19_1).f4.f0), .int .i64 ((rd_T74 l0_3 x19_1).f4.f1), .slice A166_12 ((rd_T74 l0_3 x19_1).f4.f2).length c166_12, .slice A166_13 ((rd_T74 l0_3 x19_1).f5).length c166_13, .int .i64 ((rd_T74 l0_3 x19_1).f6.f0), .int .i64 ((rd_T74 l0_3 x19_1).f6.f1), .slice A166_16 ((rd_T74 l0_3 x19_1).f6.f2).length c166_16, .int .i64 ((rd_T74 l0_3 x19_1).f7.f0), .int .i64 ((rd_T74 l0_3 x19_1).f7.f1), .slice A166_19 ((rd_T74 l0_3 x19_1).f7.f2).length c166_19] 74 (0, 0)) (by (with_reducible repeat (first | apply bkN | apply bkD | apply bkA)); exact BK167.out)) : gb178 ≠ gb167)); clear HO_3; clear HO_17; clear HO_42; clear HO_154003; clear HL177_2; clear BK153; clear BK167; clear HR177_2; clear HB; have HO_3 := n0_; have HO_17 := n1_; have HO_42 := n2_; have HO_154003 := n3_; have HL177_2 := n4_; have BK153 := n5_; have BK167 := n6_; have HR177_2 := n7_; have HB := n8_; have BK178 := n9_; have GW178 := n10_; have GE178 := n11_; have NB153_178 := n12_; have NB178_153 := n13_; have NB167_178 := n14_; have NB178_167 := n15_; clear n0_ n1_ n2_ n3_ n4_ n5_ n6_ n7_ n8_ n9_ n10_ n11_ n12_ n13_ n14_ n15_; clear hb hbox hg; have hnb32 := NB178_153.out; have hnc32 := NB153_178.out; have hnb33 := NB178_167.out; have hnc33 := NB167_178.out; have hcz34_0 : w31.cell? ⟨gb178, 0, none⟩ = some (.int .i64 0) := (blk_cell BK178.out 0).trans rfl; have hcz34_1 : w31.cell? ⟨gb178, 1, none⟩ = some (.int .i64 0) := (blk_cell BK178.out 1).trans rfl; have hcz34_2 : w31.cell? ⟨gb178, 2, none⟩ = some (.slice none 0 0) := (blk_cell BK178.out 2).trans rfl; have hfz34_0 := blk_frozen BK178.out 0; have hfz34_1 := blk_frozen BK178.out 1; have hfz34_2 := blk_frozen BK178.out 2) | ((with_reducible refine gate_builtin (b := .append) (xs := #[.tmp 48, .tmp 50]) rfl ?_); at_builtin; refine Kd.R_append_rows (Kd.int .i32) (w0 := w) w.heap.size rfl (.tmp 48) (.tmp 50) 25 35 (.int .i32 0) 4 rfl Try.underlying25 info35 rfl (by decide) (by omega) u3 x3_2 ((rd_T27 y174 x44_2).f2) _ _ _ (fun k_ => (w.heap.size ≤ k_)) (fun _ => False) rfl rfl ?aO ?aR (fun _ _ h => h) (fun _ h => h.elim) ?aF ?aB ?aS ?aL ?_; (case aR => repeat (first | exact ((Kd.V_reads' (by (with_reducible repeat (first | apply Kd.V_alloc | apply Kd.V_drewN | apply Kd.V_drew)); exact (Kd.V_mono (Kd.V_far (p := ⟨gb178, 2, none⟩) (Kd.V_far (p := ⟨gb178, 1, none⟩) (Kd.V_far (p := ⟨gb178, 0, none⟩) (Kd.V_mono HL177_2.out (fun k_ hk => (⟨hk, hk.2⟩ : _ ∧ k_ ≠ gb178))) (fun _ hk => hk.2) (.int .i64 ((rd_T27 y174 x44_2).f0))) (fun _ hk => hk.2) (.int .i64 ((rd_T27 y174 x44_2).f1))) (fun _ hk => hk.2) (.slice A177_2 ((rd_T27 y174 x44_2).f2).length c177_2)) (fun _ h_ => h_.1)))).2.2) | (with_reducible refine Kd.C_alloc ?_ _) | (with_reducible refine Kd.C_drewN ?_ _) | (with_reducible refine Kd.C_drew ?_))); (case aB => exact (by repeat (first | (with_reducible first | exact HB.out | apply bwA | apply bwN | apply bwD | refine below_set ?_ GE153.out | refine below_set ?_ GE167.out | refine below_setRow ?_ GE167.out _ | refine below_set ?_ GE178.out) | exact HB.out))); (case aF => exact (fun k_ hk => (Nat.le_trans (below_size (by repeat (first | (with_reducible first | exact HB.out | apply bwA | apply bwN | apply bwD | refine below_set ?_ GE153.out | refine below_set ?_ GE167.out | refine below_setRow ?_ GE167.out _ | refine below_set ?_ GE178.out) | exact HB.out))) hk))); (case aO => exact (by (with_reducible repeat (first | apply rwA | apply rwN | apply rwD)); exact Kd.R_mono (Kd.R_far (p := ⟨gb178, 2, none⟩) (Kd.R_far (p := ⟨gb178, 1, none⟩) (Kd.R_far (p := ⟨gb178, 0, none⟩) (Kd.R_types HO_3.out BK178.out (by decide)) (fun _ hk => hk.2) (.int .i64 ((rd_T27 y174 x44_2).f0))) (fun _ hk => hk.2) (.int .i64 ((rd_T27 y174 x44_2).f1))) (fun _ hk => hk.2) (.slice A177_2 ((rd_T27 y174 x44_2).f2).length c177_2)) (fun _ hk => hk.1))); (case aS => exact (below_size (by repeat (first | (with_reducible first | exact HB.out | apply bwA | apply bwN | apply bwD | refine below_set ?_ GE153.out | refine below_set ?_ GE167.out | refine below_setRow ?_ GE167.out _ | refine below_set ?_ GE178.out) | exact HB.out)))); (case aL => have := LMc30.out; omega); intro v180 w35 ho hb hg hat; rw [← Ny179.out] at ho; have n0_ := Aside0.mk (Kd.V_afterv (ok := (fun k_ => (P0_3_ k_ ∨ w.heap.size ≤ k_) ∧ some k_ ≠ (.slice (some ad177) y174.length co26 : Value).ownBlock ∧ k_ ≠ gb153 ∧ k_ ≠ gb167 ∧ k_ ≠ gb178)) (by (with_reducible repeat (first | apply Kd.V_alloc | apply Kd.V_drewN | apply Kd.V_drew)); exact Kd.V_mono (Kd.V_far (p := ⟨gb178, 2, none⟩) (Kd.V_far (p := ⟨gb178, 1, none⟩) (Kd.V_far (p := ⟨gb178, 0, none⟩) (Kd.V_mono HO_17.out (fun k_ hk => (⟨hk, hk.2⟩ : _ ∧ k_ ≠ gb178))) (fun _ hk => hk.2) (.int .i64 ((rd_T27 y174 x44_2).f0))) (fun _ hk => hk.2) (.int .i64 ((rd_T27 y174 x44_2).f1))) (fun _ hk => hk.2) (.slice A177_2 ((rd_T27 y174 x44_2).f2).length c177_2)) (fun _ hk => ⟨⟨hk.1.1.1, ⟨hk.1.1.2.2.1, ⟨hk.1.1.2.2.2.1, ⟨hk.1.1.2.2.2.2, hk.1.2⟩⟩⟩⟩, hk.1.1.2.1⟩)) hg hat); have n1_ := Aside0.mk (Kd.N_afterv (ok := (fun k_ => (P0_3_ k_ ∨ w.heap.size ≤ k_) ∧ k_ ≠ gb153 ∧ k_ ≠ gb167 ∧ k_ ≠ gb178)) (by (with_reducible repeat (first | apply Kd.N_alloc | apply Kd.N_drewN | apply Kd.N_drew)); exact Kd.N_mono (Kd.N_far (p := ⟨gb178, 2, none⟩) (Kd.N_far (p := ⟨gb178, 1, none⟩) (Kd.N_far (p := ⟨gb178, 0, none⟩) (Kd.N_mono HO_42.out (fun k_ hk => (⟨hk, hk.2⟩ : _ ∧ k_ ≠ gb178))) (fun _ hk => hk.2) (.int .i64 ((rd_T27 y174 x44_2).f0))) (fun _ hk => hk.2) (.int .i64 ((rd_T27 y174 x44_2).f1))) (fun _ hk => hk.2) (.slice A177_2 ((rd_T27 y174 x44_2).f2).length c177_2)) (fun _ hk => ⟨⟨hk.1.1.1, ⟨hk.1.1.2.2.1, ⟨hk.1.1.2.2.2, hk.1.2⟩⟩⟩, hk.1.1.2.1⟩)) hg hat); have n2_ := Aside0.mk (Kd.V_afterv (ok := (fun k_ => (P0_3_ k_ ∨ w.heap.size ≤ k_) ∧ some k_ ≠ (.slice (some ad177) y174.length co26 : Value).ownBlock ∧ k_ ≠ gb153 ∧ k_ ≠ gb167 ∧ k_ ≠ gb178)) (by (with_reducible repeat (first | apply Kd.V_alloc | apply Kd.V_drewN | apply Kd.V_drew)); exact Kd.V_mono (Kd.V_far (p := ⟨gb178, 2, none⟩) (Kd.V_far (p := ⟨gb178, 1, none⟩) (Kd.V_far (p := ⟨gb178, 0, none⟩) (Kd.V_mono HO_154003.out (fun k_ hk => (⟨hk, hk.2⟩ : _ ∧ k_ ≠ gb178))) (fun _ hk => hk.2) (.int .i64 ((rd_T27 y174 x44_2).f0))) (fun _ hk => hk.2) (.int .i64 ((rd_T27 y174 x44_2).f1))) (fun _ hk => hk.2) (.slice A177_2 ((rd_T27 y174 x44_2).f2).length c177_2)) (fun _ hk => ⟨⟨hk.1.1.1, ⟨hk.1.1.2.2.1, ⟨hk.1.1.2.2.2.1, ⟨hk.1.1.2.2.2.2, hk.1.2⟩⟩⟩⟩, hk.1.1.2.1⟩)) hg hat); have n3_ := Aside0.mk (blk_grown (g := gb153) (o := .cells #[.int .i64 a0_0, .int .i64 a0_1, .slice A0_2 l0_2.length c0_2, .slice (some ad166) l0_3.length c0_3, .slice A0_4 l0_4.length c0_4, .int .i64 a0_5, .int .i64 a0_6, .slice A0_7 l0_7.length c0_7] 41 (0, 0)) (by (with_reducible repeat (first | apply bkN | apply bkD | apply bkA)); refine blk_far ?_ NB153_178.out _; (with_reducible repeat (first | apply bkN | apply bkD | apply bkA)); refine blk_far ?_ NB153_178.out _; (with_reducible repeat (first | apply bkN | apply bkD | apply bkA)); refine blk_far ?_ NB153_178.out _; (with_reducible repeat (first | apply bkN | apply bkD | apply bkA)); exact BK153.out) hg (Kd.R_ne HO_3.out BK153.out (by decide))); have n4_ := Aside0.mk (blk_grown (g := gb167) (o := .cells #[.slice A166_0 ((rd_T74 l0_3 x19_1).f0).length c166_0, .int .i64 ((rd_T74 l0_3 x19_1).f1.f0), .int .i64 ((rd_T74 l0_3 x19_1).f1.f1), .slice A166_3 ((rd_T74 l0_3 x19_1).f1.f2).length c166_3, .int .i64 ((rd_T74 l0_3 x19_1).f2.f0), .int .i64 ((rd_T74 l0_3 x19_1).f2.f1), .slice A166_6 ((rd_T74 l0_3 x19_1).f2.f2).length c166_6, .int .i64 ((rd_T74 l0_3 x19_1).f3.f0), .int .i64 ((rd_T74 l0_3 x19_1).f3.f1), .slice A166_9 ((rd_T74 l0_3 x19_1).f3.f2).length c166_9, .int .i64 ((rd_T74 l0_3 x19_1).f4.f0), .int .i64 ((rd_T74 l0_3 x19_1).f4.f1), .slice A166_12 ((rd_T74 l0_3 x19_1).f4.f2).length c166_12, .slice A166_13 ((rd_T74 l0_3 x19_1).f5).length c166_13, .int .i64 ((rd_T74 l0_3 x19_1).f6.f0), .int .i64 ((rd_T74 l0_3 x19_1).f6.f1), .slice A166_16 ((rd_T74 l0_3 x19_1).f6.f2).length c166_16, .int .i64 ((rd_T74 l0_3 x19_1).f7.f0), .int .i64 ((rd_T74 l0_3 x19_1).f7.f1), .slice A166_19 ((rd_T74 l0_3 x19_1).f7.f2).length c166_19] 74 (0, 0)) (by (with_reducible repeat (first | apply bkN | apply bkD | apply bkA)); refine blk_far ?_ NB167_178.out _; (with_reducible repeat (first | apply bkN | apply bkD | apply bkA)); refine blk_far ?_ NB167_178.out _; (with_reducible repeat (first | apply bkN | apply bkD | apply bkA)); refine blk_far ?_ NB167_178.out _; (with_reducible repeat (first | apply bkN | apply bkD | apply bkA)); exact BK167.out) hg (Kd.R_ne HO_3.out BK167.out (by decide))); have n5_ := Aside0.mk (Kd.V_afterv (ok := (fun k_ => (P0_3_ k_ ∨ w.heap.size ≤ k_) ∧ some k_ ≠ (.slice (some ad177) y174.length co26 : Value).ownBlock ∧ k_ ≠ gb153 ∧ k_ ≠ gb167 ∧ k_ ≠ gb178)) (by (with_reducible repeat (first | apply Kd.V_alloc | apply Kd.V_drewN | apply Kd.V_drew)); exact Kd.V_mono (Kd.V_far (p := ⟨gb178, 2, none⟩) (Kd.V_far (p := ⟨gb178, 1, none⟩) (Kd.V_far (p := ⟨gb178, 0, none⟩) (Kd.V_mono HL177_2.out (fun k_ hk => (⟨hk, hk.2⟩ : _ ∧ k_ ≠ gb178))) (fun _ hk => hk.2) (.int .i64 ((rd_T27 y174 x44_2).f0))) (fun _ hk => hk.2) (.int .i64 ((rd_T27 y174 x44_2).f1))) (fun _ hk => hk.2) (.slice A177_2 ((rd_T27 y174 x44_2).f2).length c177_2)) (fun _ hk => ⟨⟨hk.1.1.1.1, ⟨hk.1.1.2, ⟨hk.1.1.1.2.2.1, ⟨hk.1.1.1.2.2.2, hk.1.2⟩⟩⟩⟩, hk.1.1.1.2.1⟩)) hg hat); have n6_ := Aside0.mk (blk_grown (g := gb178) (o := .cells #[.int .i64 ((rd_T27 y174 x44_2).f0), .int .i64 ((rd_T27 y174 x44_2).f1), .slice A177_2 ((rd_T27 y174 x44_2).f2).length c177_2] 27 (0, 0)) (by (with_reducible repeat (first | apply bkN | apply bkD | apply bkA)); refine blk_put (cs := #[.int .i64 ((rd_T27 y174 x44_2).f0), .int .i64 ((rd_T27 y174 x44_2).f1), .slice none 0 0]) ?_ 2 _ rfl; (with_reducible repeat (first | apply bkN | apply bkD | apply bkA)); refine blk_put (cs := #[.int .i64 ((rd_T27 y174 x44_2).f0), .int .i64 0, .slice none 0 0]) ?_ 1 _ rfl; (with_reducible repeat (first | apply bkN | apply bkD | apply bkA)); refine blk_put (cs := #[.int .i64 0, .int .i64 0, .slice none 0 0]) ?_ 0 _ rfl; (with_reducible repeat (first | apply bkN | apply bkD | apply bkA)); exact BK178.out) hg (Kd.R_ne HO_3.out BK178.out (by decide))); have n7_ := Aside0.mk (hb); have n8_ := Aside0.mk (ho); clear HO_17; clear HO_42; clear HO_154003; clear BK153; clear BK167; clear HL177_2; clear BK178; clear HB; clear HO_3; have HO_17 := n0_; have HO_42 := n1_; have HO_154003 := n2_; have BK153 := n3_; have BK167 := n4_; have HL177_2 := n5_; have BK178 := n6_; have HB := n7_; have HO181 := n8_; clear n0_ n1_ n2_ n3_ n4_ n5_ n6_ n7_ n8_; clear ho hb hg hat))
                go_roundg k2
                case measure => have := HK1.out; have := HK2.out; omega
                case rel => exact ⟨(y179), (wrap64 (x44_2 + 1)), (by first | rfl | (simp; done) | (simp [*]; done)), H', ⟨by have := HK1.out; have := HK2.out; omega⟩, ⟨by (with_reducible repeat (first | apply rwA | apply rwN | apply rwD)); exact HO181.out⟩, ⟨by (with_reducible repeat (first | apply Kd.V_alloc | apply Kd.V_drewN | apply Kd.V_drew)); exact Kd.V_mono HO_17.out (fun _ hk => ⟨hk.1.1, ⟨hk.2, ⟨hk.1.2.1, ⟨hk.1.2.2.1, hk.1.2.2.2.1⟩⟩⟩⟩)⟩, ⟨by (with_reducible repeat (first | apply Kd.N_alloc | apply Kd.N_drewN | apply Kd.N_drew)); exact Kd.N_mono HO_42.out (fun _ hk => ⟨hk.1.1, ⟨hk.2, ⟨hk.1.2.1, hk.1.2.2.1⟩⟩⟩)⟩, ⟨by (with_reducible repeat (first | apply Kd.V_alloc | apply Kd.V_drewN | apply Kd.V_drew)); exact Kd.V_mono HO_154003.out (fun _ hk => ⟨hk.1.1, ⟨hk.2, ⟨hk.1.2.1, ⟨hk.1.2.2.1, hk.1.2.2.2.1⟩⟩⟩⟩)⟩, ⟨by (with_reducible repeat (first | apply bkN | apply bkD | apply bkA)); exact BK153.out⟩, ⟨by (with_reducible repeat (first | apply bkN | apply bkD | apply bkA)); exact BK167.out⟩, ⟨by repeat (first | (with_reducible first | exact HB.out | apply bwA | apply bwN | apply bwD | refine below_set ?_ GE153.out | refine below_set ?_ GE167.out | refine below_setRow ?_ GE167.out _ | refine below_set ?_ GE178.out) | exact HB.out)⟩⟩
               ·rw [if_neg c30] at H
                exact absurd H (by simp)
              ·rw [if_neg c29] at H
               exact absurd H (by simp)
             ·rw [if_neg c28] at H
              exact absurd H (by simp)
            ·rw [if_neg c27] at H
             have c27b0 : decide (x44_2 < (y174.length : Int)) = false := decide_eq_false c27
             clear c27
             have H' := Aside0.mk H
             clear H
             go_wp2
             go_roundg k2
             case measure => have := HK1.out; have := HK2.out; omega
             case rel => exact ⟨(x3_2), (wrap64 (x19_1 + 1)), (by first | rfl | (simp; done) | (simp [*]; done)), H', ⟨by have := HK1.out; have := HK2.out; omega⟩, ⟨by (with_reducible repeat (first | apply rwA | apply rwN | apply rwD)); exact HO_3.out⟩, ⟨by (with_reducible repeat (first | apply Kd.V_alloc | apply Kd.V_drewN | apply Kd.V_drew)); exact Kd.V_mono HO_17.out (fun _ hk => ⟨hk.1, ⟨hk.2.1, hk.2.2.2.1⟩⟩)⟩, ⟨by (with_reducible repeat (first | apply Kd.V_alloc | apply Kd.V_drewN | apply Kd.V_drew)); exact Kd.V_mono HO_154003.out (fun _ hk => ⟨hk.1, ⟨hk.2.1, hk.2.2.2.1⟩⟩)⟩, ⟨by (with_reducible repeat (first | apply bkN | apply bkD | apply bkA)); exact BK153.out⟩, ⟨by repeat (first | (with_reducible first | exact HB.out | apply bwA | apply bwN | apply bwD | refine below_set ?_ GE153.out | refine below_set ?_ GE167.out | refine below_setRow ?_ GE167.out _) | exact HB.out)⟩⟩
         ·rw [if_neg c15] at H
          exact absurd H (by simp)
        ·rw [if_neg c14] at H
         exact absurd H (by simp)
       ·rw [if_neg c13] at H
        exact absurd H (by simp)
      ·rw [if_neg c12] at H
       exact absurd H (by simp)
     ·rw [if_neg c11] at H
      have c11b0 : decide (x19_1 < (l0_3.length : Int)) = false := decide_eq_false c11
      clear c11
      by_cases c36 : x3_1.length + l0_7.length < 35184372088832
      ·rw [if_pos c36] at H
       have LMc36 := Aside0.mk c36
       clear c36
       obtain ⟨y163, hy163⟩ : ∃ y_ : List Int, y_ = (x3_1 ++ l0_7) := ⟨_, rfl⟩
       replace H : (some y163) = some r := by first | (rw [hy163]; with_reducible exact H) | (have H2_ := (Option.bind_some _ _).symm.trans H; rw [hy163]; with_reducible exact H2_) | (have H2_ := (Option.bind_some _ _).symm.trans H; with_reducible exact H2_) | with_reducible exact H | (rw [hy163]; exact H) | exact H
       have Ny163 := Aside0.mk hy163
       clear hy163
       obtain rfl := Option.some.inj H
       have hcz37_0 : wr.cell? ⟨gb153, 0, none⟩ = some (.int .i64 a0_0) := (blk_cell BK153.out 0).trans rfl
       have hcz37_1 : wr.cell? ⟨gb153, 1, none⟩ = some (.int .i64 a0_1) := (blk_cell BK153.out 1).trans rfl
       have hcz37_2 : wr.cell? ⟨gb153, 2, none⟩ = some (.slice A0_2 l0_2.length c0_2) := (blk_cell BK153.out 2).trans rfl
       have hcz37_3 : wr.cell? ⟨gb153, 3, none⟩ = some (.slice A0_3 l0_3.length c0_3) := (blk_cell BK153.out 3).trans rfl
       have hcz37_4 : wr.cell? ⟨gb153, 4, none⟩ = some (.slice A0_4 l0_4.length c0_4) := (blk_cell BK153.out 4).trans rfl
       have hcz37_5 : wr.cell? ⟨gb153, 5, none⟩ = some (.int .i64 a0_5) := (blk_cell BK153.out 5).trans rfl
       have hcz37_6 : wr.cell? ⟨gb153, 6, none⟩ = some (.int .i64 a0_6) := (blk_cell BK153.out 6).trans rfl
       have hcz37_7 : wr.cell? ⟨gb153, 7, none⟩ = some (.slice A0_7 l0_7.length c0_7) := (blk_cell BK153.out 7).trans rfl
       have hfz37_0 := blk_frozen BK153.out 0
       have hfz37_1 := blk_frozen BK153.out 1
       have hfz37_2 := blk_frozen BK153.out 2
       have hfz37_3 := blk_frozen BK153.out 3
       have hfz37_4 := blk_frozen BK153.out 4
       have hfz37_5 := blk_frozen BK153.out 5
       have hfz37_6 := blk_frozen BK153.out 6
       have hfz37_7 := blk_frozen BK153.out 7
       go_wp2_with (first | ((with_reducible refine gate_builtin (b := .append) (xs := #[.tmp 54, .tmp 57]) rfl ?_); at_builtin; refine Kd.R_append_rows (Kd.int .i32) (w0 := w) w.heap.size rfl (.tmp 54) (.tmp 57) 25 35 (.int .i32 0) 4 rfl Try.underlying25 info35 rfl (by decide) (by omega) u3 x3_1 l0_7 _ _ _ (fun k_ => (w.heap.size ≤ k_)) (fun _ => False) rfl rfl ?aO ?aR (fun _ _ h => h) (fun _ h => h.elim) ?aF ?aB ?aS ?aL ?_; (case aR => repeat (first | exact (Kd.C_below HR0_7.out HB.out) | (with_reducible refine Kd.C_alloc ?_ _) | (with_reducible refine Kd.C_drewN ?_ _) | (with_reducible refine Kd.C_drew ?_))); (case aB => exact (by repeat (first | (with_reducible first | exact HB.out | apply bwA | apply bwN | apply bwD | refine below_set ?_ GE153.out) | exact HB.out))); (case aF => exact (fun k_ hk => (Nat.le_trans (below_size (by repeat (first | (with_reducible first | exact HB.out | apply bwA | apply bwN | apply bwD | refine below_set ?_ GE153.out) | exact HB.out))) hk))); (case aO => exact (by (with_reducible repeat (first | apply rwA | apply rwN | apply rwD)); exact HO_3.out)); (case aS => exact (below_size (by repeat (first | (with_reducible first | exact HB.out | apply bwA | apply bwN | apply bwD | refine below_set ?_ GE153.out) | exact HB.out)))); (case aL => have := LMc36.out; omega); intro v164 w38 ho hb hg hat; rw [← Ny163.out] at ho; have n0_ := Aside0.mk (Kd.V_afterv (ok := (fun k_ => (P0_3_ k_ ∨ w.heap.size ≤ k_) ∧ k_ ≠ gb153)) (by (with_reducible repeat (first | apply Kd.V_alloc | apply Kd.V_drewN | apply Kd.V_drew)); exact Kd.V_mono HO_17.out (fun _ hk => ⟨⟨hk.1, hk.2.2⟩, hk.2.1⟩)) hg hat); have n1_ := Aside0.mk (Kd.V_afterv (ok := (fun k_ => (P0_3_ k_ ∨ w.heap.size ≤ k_) ∧ k_ ≠ gb153)) (by (with_reducible repeat (first | apply Kd.V_alloc | apply Kd.V_drewN | apply Kd.V_drew)); exact Kd.V_mono HO_154003.out (fun _ hk => ⟨⟨hk.1, hk.2.2⟩, hk.2.1⟩)) hg hat); have n2_ := Aside0.mk (blk_grown (g := gb153) (o := .cells #[.int .i64 a0_0, .int .i64 a0_1, .slice A0_2 l0_2.length c0_2, .slice A0_3 l0_3.length c0_3, .slice A0_4 l0_4.length c0_4, .int .i64 a0_5, .int .i64 a0_6, .slice A0_7 l0_7.length c0_7] 41 (0, 0)) (by (with_reducible repeat (first | apply bkN | apply bkD | apply bkA)); exact BK153.out) hg (Kd.R_ne HO_3.out BK153.out (by decide))); have n3_ := Aside0.mk (hb); have n4_ := Aside0.mk (ho); clear HO_17; clear HO_154003; clear BK153; clear HB; clear HO_3; have HO_17 := n0_; have HO_154003 := n1_; have BK153 := n2_; have HB := n3_; have HO165 := n4_; clear n0_ n1_ n2_ n3_ n4_; clear ho hb hg hat))
       go_ret
       exact ⟨_, by first | rfl | (simp [errW_none, errW_some] <;> rfl) | (simp [*, errW_none, errW_some] <;> rfl), by (with_reducible repeat (first | apply rwA | apply rwN | apply rwD)); exact HO165.out, by repeat (first | (with_reducible first | exact HB.out | apply bwA | apply bwN | apply bwD | refine below_set ?_ GE153.out) | exact HB.out)⟩
      ·rw [if_neg c36] at H
       exact absurd H (by simp)
  ·rw [if_neg c3] at H
   exact absurd H (by simp)
 ·rw [if_neg c2] at H
  exact absurd H (by simp)

end Go.Proofs.Ytdlhodbokkaghaa.GQ
