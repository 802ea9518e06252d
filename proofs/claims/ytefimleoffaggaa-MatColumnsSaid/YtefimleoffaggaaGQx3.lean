-- written by this session's program gprint.py
import Derived.Test.YtefimleoffaggaaGQx0
import Derived.Test.YtefimleoffaggaaGQx1
import Derived.Test.YtefimleoffaggaaGQx2
namespace Go.Proofs.Ytefimleoffaggaa.GQ
open Go.RowKit Go.Proofs.YtefimleoffaggaaW.PrintWords Go.Proofs.YtefimleoffaggaaW.PrintLast Go.Proofs.YtefimleoffaggaaW.PrintMore
attribute [local go_sem] max2_int min2_int max_two min_two max_three min_three max_four min_four   -- for this text's walks alone
set_option linter.unusedVariables false
set_option linter.unusedSimpArgs false

/-! ### tillerlaw03_VecDots: function 3 -/
mutual
def tillerlaw03_VecDots.j0 : Nat → List Int → List Int → Int → Int → Int → Int → Int → Option (Bool)
 | 0, _, _, _, _, _, _, _ => none
 | k + 1, x0, x1, x2, x3, x9, x10, x11 => if x3 = (-9223372036854775808) then (tillerlaw03_VecDots.j1 k x0 x1 x2 0 x9 x10 x11) else (tillerlaw03_VecDots.j1 k x0 x1 x2 x3 x9 x10 x11)
def tillerlaw03_VecDots.j1 : Nat → List Int → List Int → Int → Int → Int → Int → Int → Option (Bool)
 | 0, _, _, _, _, _, _, _ => none
 | k + 1, x0, x1, x2, x3, x9, x10, x11 => (tillerlaw03_awake.f k).bind fun t152 => (if t152 = true then (if x10 = x11 then ((vec_Grow.f k x2 x3).bind fun t153 => ((tillerref03_Grow.f k x2 x3).bind fun t154 => (if t153 = t154 then (if x11 = 0 then ((tillerref03_Dot.f k x0 x1).bind fun t155 => (some (x9 == t155))) else (if x9 = 0 then (some true) else (some false))) else (some false)))) else (some false)) else (some false))
end
def tillerlaw03_VecDots.f (k : Nat) (l0 : List Int) (l1 : List Int) (a2 : Int) (a3 : Int) : Option (Bool) := (tillerlaw03_Few.f l0 5000).bind fun t143 => ((tillerlaw03_Few.f l1 5000).bind fun t146 => ((vec_Dot.f k t143 t146).bind fun bt149 => ((tillerref03_Fit.f k t143 t146).bind fun t151 => (if a2 = (-9223372036854775808) then (tillerlaw03_VecDots.j0 k t143 t146 0 a3 bt149.1 bt149.2 t151) else (tillerlaw03_VecDots.j0 k t143 t146 a2 a3 bt149.1 bt149.2 t151)))))
theorem tillerlaw03_VecDots.mono_l : ∀ k, (∀ y0 y1 y2 y3 y4 y5 y6, LeO (tillerlaw03_VecDots.j0 k y0 y1 y2 y3 y4 y5 y6) (tillerlaw03_VecDots.j0 (k + 1) y0 y1 y2 y3 y4 y5 y6)) ∧ (∀ y0 y1 y2 y3 y4 y5 y6, LeO (tillerlaw03_VecDots.j1 k y0 y1 y2 y3 y4 y5 y6) (tillerlaw03_VecDots.j1 (k + 1) y0 y1 y2 y3 y4 y5 y6))
 | 0 => ⟨fun _ _ _ _ _ _ _ r h => by simp [tillerlaw03_VecDots.j0] at h, fun _ _ _ _ _ _ _ r h => by simp [tillerlaw03_VecDots.j1] at h⟩
 | k + 1 => by
  obtain ⟨ih0, ih1⟩ := tillerlaw03_VecDots.mono_l k
  refine ⟨?_, ?_⟩
  ·intro y0 y1 y2 y3 y4 y5 y6
   unfold tillerlaw03_VecDots.j0
   repeat' first
   | (with_reducible exact ih0 _ _ _ _ _ _ _)
   | (with_reducible exact ih1 _ _ _ _ _ _ _)
   | (with_reducible exact tillerlaw03_awake.mono _)
   | (with_reducible exact tillerref03_Dot.mono _ _ _)
   | (with_reducible exact tillerref03_Fit.mono _ _ _)
   | (with_reducible exact tillerref03_Grow.mono _ _ _)
   | (with_reducible exact vec_Dot.mono _ _ _)
   | (with_reducible exact vec_Grow.mono _ _ _)
   | (with_reducible exact LeO.refl _)
   | (with_reducible exact LeO.none _)
   | (with_reducible refine LeO.ite ?_ ?_)
   | (with_reducible refine LeO.bind ?_ (fun _ => ?_))
   | exact ih0 _ _ _ _ _ _ _
   | exact ih1 _ _ _ _ _ _ _
   | exact tillerlaw03_awake.mono _
   | exact tillerref03_Dot.mono _ _ _
   | exact tillerref03_Fit.mono _ _ _
   | exact tillerref03_Grow.mono _ _ _
   | exact vec_Dot.mono _ _ _
   | exact vec_Grow.mono _ _ _
   | exact LeO.none _
   | refine LeO.ite ?_ ?_
   | refine LeO.bind ?_ (fun _ => ?_)
  ·intro y0 y1 y2 y3 y4 y5 y6
   unfold tillerlaw03_VecDots.j1
   repeat' first
   | (with_reducible exact ih0 _ _ _ _ _ _ _)
   | (with_reducible exact ih1 _ _ _ _ _ _ _)
   | (with_reducible exact tillerlaw03_awake.mono _)
   | (with_reducible exact tillerref03_Dot.mono _ _ _)
   | (with_reducible exact tillerref03_Fit.mono _ _ _)
   | (with_reducible exact tillerref03_Grow.mono _ _ _)
   | (with_reducible exact vec_Dot.mono _ _ _)
   | (with_reducible exact vec_Grow.mono _ _ _)
   | (with_reducible exact LeO.refl _)
   | (with_reducible exact LeO.none _)
   | (with_reducible refine LeO.ite ?_ ?_)
   | (with_reducible refine LeO.bind ?_ (fun _ => ?_))
   | exact ih0 _ _ _ _ _ _ _
   | exact ih1 _ _ _ _ _ _ _
   | exact tillerlaw03_awake.mono _
   | exact tillerref03_Dot.mono _ _ _
   | exact tillerref03_Fit.mono _ _ _
   | exact tillerref03_Grow.mono _ _ _
   | exact vec_Dot.mono _ _ _
   | exact vec_Grow.mono _ _ _
   | exact LeO.none _
   | refine LeO.ite ?_ ?_
   | refine LeO.bind ?_ (fun _ => ?_)
theorem tillerlaw03_VecDots.mono : ∀ a0 a1 a2 a3 k, LeO (tillerlaw03_VecDots.f k a0 a1 a2 a3) (tillerlaw03_VecDots.f (k + 1) a0 a1 a2 a3) := by
 intro a0 a1 a2 a3 k
 obtain ⟨ih0, ih1⟩ := tillerlaw03_VecDots.mono_l k
 unfold tillerlaw03_VecDots.f
 repeat' first
   | (with_reducible exact ih0 _ _ _ _ _ _ _)
   | (with_reducible exact ih1 _ _ _ _ _ _ _)
   | (with_reducible exact tillerlaw03_awake.mono _)
   | (with_reducible exact tillerref03_Dot.mono _ _ _)
   | (with_reducible exact tillerref03_Fit.mono _ _ _)
   | (with_reducible exact tillerref03_Grow.mono _ _ _)
   | (with_reducible exact vec_Dot.mono _ _ _)
   | (with_reducible exact vec_Grow.mono _ _ _)
   | (with_reducible exact LeO.refl _)
   | (with_reducible exact LeO.none _)
   | (with_reducible refine LeO.ite ?_ ?_)
   | (with_reducible refine LeO.bind ?_ (fun _ => ?_))
   | exact ih0 _ _ _ _ _ _ _
   | exact ih1 _ _ _ _ _ _ _
   | exact tillerlaw03_awake.mono _
   | exact tillerref03_Dot.mono _ _ _
   | exact tillerref03_Fit.mono _ _ _
   | exact tillerref03_Grow.mono _ _ _
   | exact vec_Dot.mono _ _ _
   | exact vec_Grow.mono _ _ _
   | exact LeO.none _
   | refine LeO.ite ?_ ?_
   | refine LeO.bind ?_ (fun _ => ?_)
set_option maxHeartbeats 8000000 in
set_option maxRecDepth 100000 in
theorem tillerlaw03_VecDots.calls (k : Nat) (A0 : Option Addr) (c0 : Nat) (l0 : List Int) (A1 : Option Addr) (c1 : Nat) (l1 : List Int) (a2 : Int) (a3 : Int) (r : Bool) (w : World) (hr0 : Kd.C (Kd.int .i32) w A0 l0.length l0) (hc0 : l0.length ≤ c0) (hr1 : Kd.C (Kd.int .i32) w A1 l1.length l1) (hc1 : l1.length ≤ c1) (hr_ : Aside0 (r = true)) (h : tillerlaw03_VecDots.f k l0 l1 a2 a3 = some r) :
  Calls Try.prog 3 #[.slice A0 l0.length c0, .slice A1 l1.length c1, .int .i64 a2, .int .i64 a3] w fun e w' => e = .returned (.bool r) ∧ Below w.heap.size w w' := by
 have HR0 := Aside0.mk hr0
 have HC0 := Aside0.mk hc0
 clear hr0 hc0
 have HR1 := Aside0.mk hr1
 have HC1 := Aside0.mk hc1
 clear hr1 hc1
 have HB := Aside0.mk (Below.refl w.heap.size w)
 have H : ((tillerlaw03_Few.f l0 5000).bind fun t143 => ((tillerlaw03_Few.f l1 5000).bind fun t146 => ((vec_Dot.f k t143 t146).bind fun bt149 => ((tillerref03_Fit.f k t143 t146).bind fun t151 => (if a2 = (-9223372036854775808) then (tillerlaw03_VecDots.j0 k t143 t146 0 a3 bt149.1 bt149.2 t151) else (tillerlaw03_VecDots.j0 k t143 t146 a2 a3 bt149.1 bt149.2 t151)))))) = some r := h
 clear h
 replace H := Option.bind_eq_some_iff.mp H
 obtain ⟨t143, A50, H⟩ := H
 replace H : ((tillerlaw03_Few.f l1 5000).bind fun t146 => ((vec_Dot.f k t143 t146).bind fun bt149 => ((tillerref03_Fit.f k t143 t146).bind fun t151 => (if a2 = (-9223372036854775808) then (tillerlaw03_VecDots.j0 k t143 t146 0 a3 bt149.1 bt149.2 t151) else (tillerlaw03_VecDots.j0 k t143 t146 a2 a3 bt149.1 bt149.2 t151))))) = some r := H
 have A5 := Aside0.mk A50
 clear A50
 replace H := Option.bind_eq_some_iff.mp H
 obtain ⟨t146, A60, H⟩ := H
 replace H : ((vec_Dot.f k t143 t146).bind fun bt149 => ((tillerref03_Fit.f k t143 t146).bind fun t151 => (if a2 = (-9223372036854775808) then (tillerlaw03_VecDots.j0 k t143 t146 0 a3 bt149.1 bt149.2 t151) else (tillerlaw03_VecDots.j0 k t143 t146 a2 a3 bt149.1 bt149.2 t151)))) = some r := H
 have A6 := Aside0.mk A60
 clear A60
 replace H := Option.bind_eq_some_iff.mp H
 obtain ⟨⟨t149, t150⟩, A70, H⟩ := H
 replace H : ((tillerref03_Fit.f k t143 t146).bind fun t151 => (if a2 = (-9223372036854775808) then (tillerlaw03_VecDots.j0 k t143 t146 0 a3 t149 t150 t151) else (tillerlaw03_VecDots.j0 k t143 t146 a2 a3 t149 t150 t151))) = some r := H
 have A7 := Aside0.mk A70
 clear A70
 replace H := Option.bind_eq_some_iff.mp H
 obtain ⟨t151, A80, H⟩ := H
 replace H : (if a2 = (-9223372036854775808) then (tillerlaw03_VecDots.j0 k t143 t146 0 a3 t149 t150 t151) else (tillerlaw03_VecDots.j0 k t143 t146 a2 a3 t149 t150 t151)) = some r := H
 have A8 := Aside0.mk A80
 clear A80
 have HC9 := Aside0.mk H
 clear H
 go_enter Try.func3, Try.ntmps3
 go_upto_if 26 with (first | ((with_reducible refine gate_callee (f := 13) rfl ?_); refine goesL_ (some 13) rfl rfl Try.func13 (by kernel_rfl) rfl #[.slice A0 l0.length c0, .int .i64 5000] rfl (by (try simp only [List.map_toArray, List.map_cons, List.map_nil]); first | done | rfl | (simp only [List.length_drop, List.length_take]; rfl)) ?_; (with_reducible refine (tillerlaw03_Few.calls _ _ l0 5000 t143 _ ?side1 ?side2 A5.out).mono ?_); (case side1 => repeat (first | exact HR0.out | (with_reducible refine Kd.C_alloc ?_ _) | (with_reducible refine Kd.C_drewN ?_ _) | (with_reducible refine Kd.C_drew ?_))); (case side2 => exact HC0.out); rintro e w10 ⟨v144, rfl, ho0, hb⟩; refine ⟨_, rfl, ?_⟩; have n0_ := Aside0.mk (Kd.R_lower ho0 (below_size (by repeat (first | (with_reducible first | exact HB.out | apply below_alloc | apply pw_below_drewN | apply below_drew1) | exact HB.out)))); have n1_ := Aside0.mk (below_step (by repeat (first | (with_reducible first | exact HB.out | apply below_alloc | apply pw_below_drewN | apply below_drew1) | exact HB.out)) hb); clear HB; have HO145 := n0_; have HB := n1_; clear n0_ n1_; (try clear hb); (try clear hb2); (try clear hk); (try clear hi); (try clear ho0)) | ((with_reducible refine gate_callee (f := 13) rfl ?_); refine goesL_ (some 15) rfl rfl Try.func13 (by kernel_rfl) rfl #[.slice A1 l1.length c1, .int .i64 5000] rfl (by (try simp only [List.map_toArray, List.map_cons, List.map_nil]); first | done | rfl | (simp only [List.length_drop, List.length_take]; rfl)) ?_; (with_reducible refine (tillerlaw03_Few.calls _ _ l1 5000 t146 _ ?side1 ?side2 A6.out).mono ?_); (case side1 => repeat (first | exact (Kd.C_below HR1.out HB.out) | (with_reducible refine Kd.C_alloc ?_ _) | (with_reducible refine Kd.C_drewN ?_ _) | (with_reducible refine Kd.C_drew ?_))); (case side2 => exact HC1.out); rintro e w11 ⟨v147, rfl, ho0, hb⟩; refine ⟨_, rfl, ?_⟩; have n0_ := Aside0.mk (Kd.R_elder' (by (with_reducible repeat (first | apply Kd.R_alloc | apply Kd.R_drewN | apply Kd.R_drew)); exact HO145.out) (Kd.R_base ho0) hb); have n1_ := Aside0.mk (Kd.R_lower (Kd.R_new' ho0 (Kd.R_lt (by (with_reducible repeat (first | apply Kd.R_alloc | apply Kd.R_drewN | apply Kd.R_drew)); exact HO145.out))) (below_size (by repeat (first | (with_reducible first | exact HB.out | apply below_alloc | apply pw_below_drewN | apply below_drew1) | exact HB.out)))); have n2_ := Aside0.mk (below_step (by repeat (first | (with_reducible first | exact HB.out | apply below_alloc | apply pw_below_drewN | apply below_drew1) | exact HB.out)) hb); clear HO145; clear HB; have HO145 := n0_; have HO148 := n1_; have HB := n2_; clear n0_ n1_ n2_; (try clear hb); (try clear hb2); (try clear hk); (try clear hi); (try clear ho0); obtain ⟨Ao12, co12, eo12⟩ := Kd.R_slice HO145.out; subst eo12; obtain ⟨Ao13, co13, eo13⟩ := Kd.R_slice HO148.out; subst eo13) | ((with_reducible refine gate_callee (f := 14) rfl ?_); refine goesL_ (some 19) rfl rfl Try.func14 (by kernel_rfl) rfl #[.slice Ao12 t143.length co12, .slice Ao13 t146.length co13] rfl (by (try simp only [List.map_toArray, List.map_cons, List.map_nil]); first | done | rfl | (simp only [List.length_drop, List.length_take]; rfl)) ?_; (with_reducible refine (vec_Dot.calls k _ _ t143 _ _ t146 t149 t150 _ ?side1 ?side2 ?side3 ?side4 A7.out).mono ?_); (case side1 => repeat (first | exact (Kd.R_reads' HO145.out).2.2 | (with_reducible refine Kd.C_alloc ?_ _) | (with_reducible refine Kd.C_drewN ?_ _) | (with_reducible refine Kd.C_drew ?_))); (case side2 => exact (Kd.R_reads' HO145.out).2.1); (case side3 => repeat (first | exact (Kd.R_reads' HO148.out).2.2 | (with_reducible refine Kd.C_alloc ?_ _) | (with_reducible refine Kd.C_drewN ?_ _) | (with_reducible refine Kd.C_drew ?_))); (case side4 => exact (Kd.R_reads' HO148.out).2.1); rintro e w14 ⟨rfl, hb⟩; refine ⟨_, rfl, ?_⟩; have n0_ := Aside0.mk (Kd.R_below (by (with_reducible repeat (first | apply Kd.R_alloc | apply Kd.R_drewN | apply Kd.R_drew)); exact HO145.out) hb); have n1_ := Aside0.mk (Kd.R_below (by (with_reducible repeat (first | apply Kd.R_alloc | apply Kd.R_drewN | apply Kd.R_drew)); exact HO148.out) hb); have n2_ := Aside0.mk (below_step (by repeat (first | (with_reducible first | exact HB.out | apply below_alloc | apply pw_below_drewN | apply below_drew1) | exact HB.out)) hb); clear HO145; clear HO148; clear HB; have HO145 := n0_; have HO148 := n1_; have HB := n2_; clear n0_ n1_ n2_; (try clear hb); (try clear hb2); (try clear hk); (try clear hi)) | ((with_reducible refine gate_callee (f := 15) rfl ?_); refine goesL_ (some 24) rfl rfl Try.func15 (by kernel_rfl) rfl #[.slice Ao12 t143.length co12, .slice Ao13 t146.length co13] rfl (by (try simp only [List.map_toArray, List.map_cons, List.map_nil]); first | done | rfl | (simp only [List.length_drop, List.length_take]; rfl)) ?_; (with_reducible refine (tillerref03_Fit.calls k _ _ t143 _ _ t146 t151 _ ?side1 ?side2 ?side3 ?side4 A8.out).mono ?_); (case side1 => repeat (first | exact (Kd.R_reads' HO145.out).2.2 | (with_reducible refine Kd.C_alloc ?_ _) | (with_reducible refine Kd.C_drewN ?_ _) | (with_reducible refine Kd.C_drew ?_))); (case side2 => exact (Kd.R_reads' HO145.out).2.1); (case side3 => repeat (first | exact (Kd.R_reads' HO148.out).2.2 | (with_reducible refine Kd.C_alloc ?_ _) | (with_reducible refine Kd.C_drewN ?_ _) | (with_reducible refine Kd.C_drew ?_))); (case side4 => exact (Kd.R_reads' HO148.out).2.1); rintro e w' ⟨rfl, ⟨nd, rfl⟩⟩; refine ⟨_, rfl, ?_⟩))
 (try simp only [Act.put, List.setIfInBounds_toArray, List.set_cons_zero, List.set_cons_succ])
 go_cut [2] (fun v2 wc => ∃ (kq : Nat) (x2_8 : Int), v2 = .int .i64 x2_8 ∧ Aside0 (tillerlaw03_VecDots.j0 kq t143 t146 x2_8 a3 t149 t150 t151 = some r) ∧ Aside0 (kq ≤ k) ∧ Aside0 (Kd.R (Kd.int .i32) 24 wc w.heap.size (fun k_ => some k_ ≠ ((.slice Ao13 t146.length co13) : Value).ownBlock) (.slice Ao12 t143.length co12) t143) ∧ Aside0 (Kd.R (Kd.int .i32) 24 wc w.heap.size (fun k_ => some k_ ≠ ((.slice Ao12 t143.length co12) : Value).ownBlock) (.slice Ao13 t146.length co13) t146) ∧ Aside0 (Below w.heap.size w wc))
 case first =>
  have H := HC9.out
  clear HC9
  by_cases c15 : a2 = (-9223372036854775808)
  ·rw [if_pos c15] at H
   have c15b0 : (a2 == (-9223372036854775808)) = true := beq_iff_eq.mpr c15
   have c15b1 : (a2 != (-9223372036854775808)) = false := bne_eq_false_iff_eq.mpr c15
   clear c15
   (first | rw [c15b0] | (simp only [i64_w, i32_w]; rw [c15b0]) | skip)
   have H' := Aside0.mk H
   clear H
   go_wp2
   go_meet
   case rel => exact ⟨_, (0), (by first | rfl | (simp; done) | (simp [*]; done)), H', ⟨by first | omega | exact Nat.le_refl _⟩, ⟨by (with_reducible repeat (first | apply Kd.R_alloc | apply Kd.R_drewN | apply Kd.R_drew)); exact Kd.R_mono HO145.out (fun _ hk => hk.2)⟩, ⟨by (with_reducible repeat (first | apply Kd.R_alloc | apply Kd.R_drewN | apply Kd.R_drew)); exact Kd.R_mono HO148.out (fun _ hk => hk.2)⟩, ⟨by repeat (first | (with_reducible first | exact HB.out | apply below_alloc | apply pw_below_drewN | apply below_drew1) | exact HB.out)⟩⟩
  ·rw [if_neg c15] at H
   have c15b0 : (a2 == (-9223372036854775808)) = false := beq_eq_false_iff_ne.mpr c15
   have c15b1 : (a2 != (-9223372036854775808)) = true := bne_iff_ne.mpr c15
   (first | rw [c15b0] | (simp only [i64_w, i32_w]; rw [c15b0]) | skip)
   have H' := Aside0.mk H
   clear H
   go_wp2
   go_meet
   case rel => exact ⟨_, (a2), (by first | rfl | (simp; done) | (simp [*]; done)), H', ⟨by first | omega | exact Nat.le_refl _⟩, ⟨by (with_reducible repeat (first | apply Kd.R_alloc | apply Kd.R_drewN | apply Kd.R_drew)); exact Kd.R_mono HO145.out (fun _ hk => hk.2)⟩, ⟨by (with_reducible repeat (first | apply Kd.R_alloc | apply Kd.R_drewN | apply Kd.R_drew)); exact Kd.R_mono HO148.out (fun _ hk => hk.2)⟩, ⟨by repeat (first | (with_reducible first | exact HB.out | apply below_alloc | apply pw_below_drewN | apply below_drew1) | exact HB.out)⟩⟩
 case rest =>
  clear HC9
  try clear c1
  try clear p2
  try clear c3
  try clear c13
  try clear c14
  try clear c15
  try clear c15b0
  try clear c15b1
  obtain ⟨kq, x2_8, rfl, HA, HJ8, HO_0, HO_1, HB⟩ := hcut
  cases kq with
  | zero => exact absurd HA.out (by simp [tillerlaw03_VecDots.j0])
  | succ kj8 =>
   have H := HA.out
   clear HA
   simp only [tillerlaw03_VecDots.j0] at H
   have HC16 := Aside0.mk H
   clear H
   go_upto_if 28 with (fail)
   go_cut [3] (fun v3 wc => ∃ (kq : Nat) (x3_15 : Int), v3 = .int .i64 x3_15 ∧ Aside0 (tillerlaw03_VecDots.j1 kq t143 t146 x2_8 x3_15 t149 t150 t151 = some r) ∧ Aside0 (kq ≤ kj8) ∧ Aside0 (Kd.R (Kd.int .i32) 24 wc w.heap.size (fun k_ => some k_ ≠ ((.slice Ao13 t146.length co13) : Value).ownBlock) (.slice Ao12 t143.length co12) t143) ∧ Aside0 (Kd.R (Kd.int .i32) 24 wc w.heap.size (fun k_ => some k_ ≠ ((.slice Ao12 t143.length co12) : Value).ownBlock) (.slice Ao13 t146.length co13) t146) ∧ Aside0 (Below w.heap.size w wc))
   case first =>
    have H := HC16.out
    clear HC16
    by_cases c17 : a3 = (-9223372036854775808)
    ·rw [if_pos c17] at H
     have c17b0 : (a3 == (-9223372036854775808)) = true := beq_iff_eq.mpr c17
     have c17b1 : (a3 != (-9223372036854775808)) = false := bne_eq_false_iff_eq.mpr c17
     clear c17
     (first | rw [c17b0] | (simp only [i64_w, i32_w]; rw [c17b0]) | skip)
     have H' := Aside0.mk H
     clear H
     go_wp2
     go_meet
     case rel => exact ⟨_, (0), (by first | rfl | (simp; done) | (simp [*]; done)), H', ⟨by have := HJ8.out; first | omega | exact Nat.le_refl _⟩, ⟨by (with_reducible repeat (first | apply Kd.R_alloc | apply Kd.R_drewN | apply Kd.R_drew)); exact HO_0.out⟩, ⟨by (with_reducible repeat (first | apply Kd.R_alloc | apply Kd.R_drewN | apply Kd.R_drew)); exact HO_1.out⟩, ⟨by repeat (first | (with_reducible first | exact HB.out | apply below_alloc | apply pw_below_drewN | apply below_drew1) | exact HB.out)⟩⟩
    ·rw [if_neg c17] at H
     have c17b0 : (a3 == (-9223372036854775808)) = false := beq_eq_false_iff_ne.mpr c17
     have c17b1 : (a3 != (-9223372036854775808)) = true := bne_iff_ne.mpr c17
     (first | rw [c17b0] | (simp only [i64_w, i32_w]; rw [c17b0]) | skip)
     have H' := Aside0.mk H
     clear H
     go_wp2
     go_meet
     case rel => exact ⟨_, (a3), (by first | rfl | (simp; done) | (simp [*]; done)), H', ⟨by have := HJ8.out; first | omega | exact Nat.le_refl _⟩, ⟨by (with_reducible repeat (first | apply Kd.R_alloc | apply Kd.R_drewN | apply Kd.R_drew)); exact HO_0.out⟩, ⟨by (with_reducible repeat (first | apply Kd.R_alloc | apply Kd.R_drewN | apply Kd.R_drew)); exact HO_1.out⟩, ⟨by repeat (first | (with_reducible first | exact HB.out | apply below_alloc | apply pw_below_drewN | apply below_drew1) | exact HB.out)⟩⟩
   case rest =>
    clear HC16
    try clear c1
    try clear p2
    try clear c3
    try clear c13
    try clear c14
    try clear c15
    try clear c15b0
    try clear c15b1
    try clear c17
    try clear c17b0
    try clear c17b1
    try clear p2
    obtain ⟨kq, x3_15, rfl, HA, HJ15, HO_0, HO_1, HB⟩ := hcut
    cases kq with
    | zero => exact absurd HA.out (by simp [tillerlaw03_VecDots.j1])
    | succ kj15 =>
     have H := HA.out
     clear HA
     simp only [tillerlaw03_VecDots.j1] at H
     replace H := Option.bind_eq_some_iff.mp H
     obtain ⟨t152, A180, H⟩ := H
     replace H : (if t152 = true then (if t150 = t151 then ((vec_Grow.f kj15 x2_8 x3_15).bind fun t153 => ((tillerref03_Grow.f kj15 x2_8 x3_15).bind fun t154 => (if t153 = t154 then (if t151 = 0 then ((tillerref03_Dot.f kj15 t143 t146).bind fun t155 => (some (t149 == t155))) else (if t149 = 0 then (some true) else (some false))) else (some false)))) else (some false)) else (some false)) = some r := H
     have A18 := Aside0.mk A180
     clear A180
     by_cases c19 : t152 = true
     ·subst c19
      have H1 : (if t150 = t151 then ((vec_Grow.f kj15 x2_8 x3_15).bind fun t153 => ((tillerref03_Grow.f kj15 x2_8 x3_15).bind fun t154 => (if t153 = t154 then (if t151 = 0 then ((tillerref03_Dot.f kj15 t143 t146).bind fun t155 => (some (t149 == t155))) else (if t149 = 0 then (some true) else (some false))) else (some false)))) else (some false)) = some r := by rw [if_pos rfl] at H; exact H
      clear H
      have H := H1
      clear H1
      by_cases c20 : t150 = t151
      ·rw [if_pos c20] at H
       have c20b0 : (t150 == t151) = true := beq_iff_eq.mpr c20
       have c20b1 : (t150 != t151) = false := bne_eq_false_iff_eq.mpr c20
       clear c20
       replace H := Option.bind_eq_some_iff.mp H
       obtain ⟨t153, A210, H⟩ := H
       replace H : ((tillerref03_Grow.f kj15 x2_8 x3_15).bind fun t154 => (if t153 = t154 then (if t151 = 0 then ((tillerref03_Dot.f kj15 t143 t146).bind fun t155 => (some (t149 == t155))) else (if t149 = 0 then (some true) else (some false))) else (some false))) = some r := H
       have A21 := Aside0.mk A210
       clear A210
       replace H := Option.bind_eq_some_iff.mp H
       obtain ⟨t154, A220, H⟩ := H
       replace H : (if t153 = t154 then (if t151 = 0 then ((tillerref03_Dot.f kj15 t143 t146).bind fun t155 => (some (t149 == t155))) else (if t149 = 0 then (some true) else (some false))) else (some false)) = some r := H
       have A22 := Aside0.mk A220
       clear A220
       by_cases c23 : t153 = t154
       ·rw [if_pos c23] at H
        have c23b0 : (t153 == t154) = true := beq_iff_eq.mpr c23
        have c23b1 : (t153 != t154) = false := bne_eq_false_iff_eq.mpr c23
        clear c23
        by_cases c24 : t151 = 0
        ·rw [if_pos c24] at H
         have c24b0 : (t151 == 0) = true := beq_iff_eq.mpr c24
         have c24b1 : (t151 != 0) = false := bne_eq_false_iff_eq.mpr c24
         clear c24
         replace H := Option.bind_eq_some_iff.mp H
         obtain ⟨t155, A250, H⟩ := H
         replace H : (some (t149 == t155)) = some r := H
         have A25 := Aside0.mk A250
         clear A250
         obtain rfl := Option.some.inj H
         go_wp2_with (first | ((with_reducible refine gate_callee (f := 16) rfl ?_); refine goesL_ (some 29) rfl rfl Try.func16 (by kernel_rfl) rfl #[] rfl (by (try simp only [List.map_toArray, List.map_cons, List.map_nil]); first | done | rfl | (simp only [List.length_drop, List.length_take]; rfl)) ?_; (with_reducible refine (tillerlaw03_awake.calls kj15  true _ A18.out).mono ?_); rintro e w26 ⟨rfl, hb⟩; refine ⟨_, rfl, ?_⟩; have n0_ := Aside0.mk (Kd.R_below (by (with_reducible repeat (first | apply Kd.R_alloc | apply Kd.R_drewN | apply Kd.R_drew)); exact HO_0.out) hb); have n1_ := Aside0.mk (Kd.R_below (by (with_reducible repeat (first | apply Kd.R_alloc | apply Kd.R_drewN | apply Kd.R_drew)); exact HO_1.out) hb); have n2_ := Aside0.mk (below_step (by repeat (first | (with_reducible first | exact HB.out | apply below_alloc | apply pw_below_drewN | apply below_drew1) | exact HB.out)) hb); clear HO_0; clear HO_1; clear HB; have HO_0 := n0_; have HO_1 := n1_; have HB := n2_; clear n0_ n1_ n2_; (try clear hb); (try clear hb2); (try clear hk); (try clear hi)) | (go_at_call 17; (with_reducible refine (vec_Grow.calls kj15 x2_8 x3_15 t153 _ A21.out).mono ?_); rintro e w27 ⟨rfl, hb⟩; have n0_ := Aside0.mk (Kd.R_below (by (with_reducible repeat (first | apply Kd.R_alloc | apply Kd.R_drewN | apply Kd.R_drew)); exact HO_0.out) hb); have n1_ := Aside0.mk (Kd.R_below (by (with_reducible repeat (first | apply Kd.R_alloc | apply Kd.R_drewN | apply Kd.R_drew)); exact HO_1.out) hb); have n2_ := Aside0.mk (below_step (by repeat (first | (with_reducible first | exact HB.out | apply below_alloc | apply pw_below_drewN | apply below_drew1) | exact HB.out)) hb); clear HO_0; clear HO_1; clear HB; have HO_0 := n0_; have HO_1 := n1_; have HB := n2_; clear n0_ n1_ n2_; (try clear hb); (try clear hb2); (try clear hk); (try clear hi)) | (go_at_call 18; (with_reducible refine (tillerref03_Grow.calls kj15 x2_8 x3_15 t154 _ A22.out).mono ?_); rintro e w' ⟨rfl, ⟨nd, rfl⟩⟩) | (go_at_call 19; (with_reducible refine (tillerref03_Dot.calls kj15 _ _ t143 _ _ t146 t155 _ ?side1 ?side2 ?side3 ?side4 A25.out).mono ?_); (case side1 => repeat (first | exact (Kd.R_reads' HO_0.out).2.2 | (with_reducible refine Kd.C_alloc ?_ _) | (with_reducible refine Kd.C_drewN ?_ _) | (with_reducible refine Kd.C_drew ?_))); (case side2 => exact (Kd.R_reads' HO_0.out).2.1); (case side3 => repeat (first | exact (Kd.R_reads' HO_1.out).2.2 | (with_reducible refine Kd.C_alloc ?_ _) | (with_reducible refine Kd.C_drewN ?_ _) | (with_reducible refine Kd.C_drew ?_))); (case side4 => exact (Kd.R_reads' HO_1.out).2.1); rintro e w' ⟨rfl, ⟨nd, rfl⟩⟩))
         go_ret
         exact ⟨by first | rfl | (simp [errW_none, errW_some] <;> rfl) | (simp [*, errW_none, errW_some] <;> rfl), by repeat (first | (with_reducible first | exact HB.out | apply below_alloc | apply pw_below_drewN | apply below_drew1) | exact HB.out)⟩
        ·rw [if_neg c24] at H
         have c24b0 : (t151 == 0) = false := beq_eq_false_iff_ne.mpr c24
         have c24b1 : (t151 != 0) = true := bne_iff_ne.mpr c24
         by_cases c28 : t149 = 0
         ·rw [if_pos c28] at H
          have c28b0 : (t149 == 0) = true := beq_iff_eq.mpr c28
          have c28b1 : (t149 != 0) = false := bne_eq_false_iff_eq.mpr c28
          clear c28
          obtain rfl := Option.some.inj H
          go_wp2_with (first | ((with_reducible refine gate_callee (f := 16) rfl ?_); refine goesL_ (some 29) rfl rfl Try.func16 (by kernel_rfl) rfl #[] rfl (by (try simp only [List.map_toArray, List.map_cons, List.map_nil]); first | done | rfl | (simp only [List.length_drop, List.length_take]; rfl)) ?_; (with_reducible refine (tillerlaw03_awake.calls kj15  true _ A18.out).mono ?_); rintro e w29 ⟨rfl, hb⟩; refine ⟨_, rfl, ?_⟩; have n0_ := Aside0.mk (Kd.R_below (by (with_reducible repeat (first | apply Kd.R_alloc | apply Kd.R_drewN | apply Kd.R_drew)); exact HO_0.out) hb); have n1_ := Aside0.mk (Kd.R_below (by (with_reducible repeat (first | apply Kd.R_alloc | apply Kd.R_drewN | apply Kd.R_drew)); exact HO_1.out) hb); have n2_ := Aside0.mk (below_step (by repeat (first | (with_reducible first | exact HB.out | apply below_alloc | apply pw_below_drewN | apply below_drew1) | exact HB.out)) hb); clear HO_0; clear HO_1; clear HB; have HO_0 := n0_; have HO_1 := n1_; have HB := n2_; clear n0_ n1_ n2_; (try clear hb); (try clear hb2); (try clear hk); (try clear hi)) | (go_at_call 17; (with_reducible refine (vec_Grow.calls kj15 x2_8 x3_15 t153 _ A21.out).mono ?_); rintro e w30 ⟨rfl, hb⟩; have n0_ := Aside0.mk (Kd.R_below (by (with_reducible repeat (first | apply Kd.R_alloc | apply Kd.R_drewN | apply Kd.R_drew)); exact HO_0.out) hb); have n1_ := Aside0.mk (Kd.R_below (by (with_reducible repeat (first | apply Kd.R_alloc | apply Kd.R_drewN | apply Kd.R_drew)); exact HO_1.out) hb); have n2_ := Aside0.mk (below_step (by repeat (first | (with_reducible first | exact HB.out | apply below_alloc | apply pw_below_drewN | apply below_drew1) | exact HB.out)) hb); clear HO_0; clear HO_1; clear HB; have HO_0 := n0_; have HO_1 := n1_; have HB := n2_; clear n0_ n1_ n2_; (try clear hb); (try clear hb2); (try clear hk); (try clear hi)) | (go_at_call 18; (with_reducible refine (tillerref03_Grow.calls kj15 x2_8 x3_15 t154 _ A22.out).mono ?_); rintro e w' ⟨rfl, ⟨nd, rfl⟩⟩))
          go_ret
          exact ⟨by first | rfl | (simp [errW_none, errW_some] <;> rfl) | (simp [*, errW_none, errW_some] <;> rfl), by repeat (first | (with_reducible first | exact HB.out | apply below_alloc | apply pw_below_drewN | apply below_drew1) | exact HB.out)⟩
         ·rw [if_neg c28] at H
          exact absurd (Option.some.inj H) (by rw [hr_.out]; decide)
       ·rw [if_neg c23] at H
        exact absurd (Option.some.inj H) (by rw [hr_.out]; decide)
      ·rw [if_neg c20] at H
       exact absurd (Option.some.inj H) (by rw [hr_.out]; decide)
     ·replace c19 := Bool.eq_false_iff.mpr c19
      subst c19
      have H1 : (some false) = some r := by rw [if_neg (show ¬ (false = true) by decide)] at H; exact H
      clear H
      have H := H1
      clear H1
      exact absurd (Option.some.inj H) (by rw [hr_.out]; decide)

/-! ### tillerlaw03_small: function 20 -/
def tillerlaw03_small.l0 : Nat → List Int → Int → List Int → Int → Option (List Int)
 | 0, _, _, _, _ => none
 | k + 1, x0, x1, x5, x6 => if x6 < x1 then (if 0 ≤ x6 then (if x6 < (x0.length : Int) then (if x5.length < 35184372088832 then (tillerlaw03_small.l0 k x0 x1 (x5 ++ [Int.tmod (rd x0 x6) 65536]) (wrap64 (x6 + 1))) else (none)) else (none)) else (none)) else (some x5)
def tillerlaw03_small.f (k : Nat) (l0 : List Int) (a1 : Int) : Option (List Int) := tillerlaw03_small.l0 k l0 a1 (([] : List Int)) 0
theorem tillerlaw03_small.mono_l : ∀ k, (∀ y0 y1 y2 y3, LeO (tillerlaw03_small.l0 k y0 y1 y2 y3) (tillerlaw03_small.l0 (k + 1) y0 y1 y2 y3))
 | 0 => fun _ _ _ _ r h => by simp [tillerlaw03_small.l0] at h
 | k + 1 => by
  have ih0 := tillerlaw03_small.mono_l k
  ·intro y0 y1 y2 y3
   unfold tillerlaw03_small.l0
   repeat' first
   | (with_reducible exact ih0 _ _ _ _)
   | (with_reducible exact LeO.refl _)
   | (with_reducible exact LeO.none _)
   | (with_reducible refine LeO.ite ?_ ?_)
   | (with_reducible refine LeO.bind ?_ (fun _ => ?_))
   | exact ih0 _ _ _ _
   | exact LeO.none _
   | refine LeO.ite ?_ ?_
   | refine LeO.bind ?_ (fun _ => ?_)
theorem tillerlaw03_small.mono : ∀ a0 a1 k, LeO (tillerlaw03_small.f k a0 a1) (tillerlaw03_small.f (k + 1) a0 a1) := by
 intro a0 a1 k
 have ih0 := tillerlaw03_small.mono_l k
 unfold tillerlaw03_small.f
 repeat' first
   | (with_reducible exact ih0 _ _ _ _)
   | (with_reducible exact LeO.refl _)
   | (with_reducible exact LeO.none _)
   | (with_reducible refine LeO.ite ?_ ?_)
   | (with_reducible refine LeO.bind ?_ (fun _ => ?_))
   | exact ih0 _ _ _ _
   | exact LeO.none _
   | refine LeO.ite ?_ ?_
   | refine LeO.bind ?_ (fun _ => ?_)
set_option maxHeartbeats 8000000 in
set_option maxRecDepth 100000 in
theorem tillerlaw03_small.calls (k : Nat) (A0 : Option Addr) (c0 : Nat) (l0 : List Int) (a1 : Int) (r : List Int) (w : World) (hr0 : Kd.C (Kd.int .i32) w A0 l0.length l0) (hc0 : l0.length ≤ c0) (h : tillerlaw03_small.f k l0 a1 = some r) :
  Calls Try.prog 20 #[.slice A0 l0.length c0, .int .i64 a1] w fun e w' => ∃ v0_ : Value, e = .returned (v0_) ∧ Kd.R (Kd.int .i32) 24 w' w.heap.size (fun _ => True) v0_ r ∧ Below w.heap.size w w' := by
 have HR0 := Aside0.mk hr0
 have HC0 := Aside0.mk hc0
 clear hr0 hc0
 have HB := Aside0.mk (Below.refl w.heap.size w)
 have H : (tillerlaw03_small.l0 k l0 a1 (([] : List Int)) 0) = some r := h
 clear h
 obtain ⟨y156, hy156⟩ : ∃ y_ : List Int, y_ = (([] : List Int)) := ⟨_, rfl⟩
 replace H : (tillerlaw03_small.l0 k l0 a1 y156 0) = some r := by first | (rw [hy156]; with_reducible exact H) | (have H2_ := (Option.bind_some _ _).symm.trans H; rw [hy156]; with_reducible exact H2_) | (have H2_ := (Option.bind_some _ _).symm.trans H; with_reducible exact H2_) | with_reducible exact H | (rw [hy156]; exact H) | exact H
 have Ny156 := Aside0.mk hy156
 clear hy156
 have H' := Aside0.mk H
 clear H
 go_enter Try.func20, Try.ntmps20
 go_wp2_with (first | ((with_reducible refine gate_dst (N := 7) rfl ?_); refine Kd.R_lit (Kd.int .i32) _ 24 ?hg (N := 7) ?hd (xs := ([] : List Int)) (inner := []) (ok := fun _ => True) (okp := fun _ => True) ?hr ?hp (fun _ hk => hk) trivial (Below.refl _ _) (Nat.le_refl _) (by simp) ?_; (case hd => rfl); (case hg => rfl); (case hr => first | (go_simp; done) | (go_simp; rfl)); (case hp => exact (Reps.none _ _)); intro v157 w3 ho4 hb hg_ hnew_; clear hg_ hnew_; (first | rw [← Ny156.out] at ho4 | (simp only [Int.reduceToNat] at ho4; rw [← Ny156.out] at ho4)); have n0_ := Aside0.mk (Kd.R_lower ho4 (below_size (by repeat (first | (with_reducible first | exact HB.out | apply below_alloc | apply pw_below_drewN | apply below_drew1) | exact HB.out)))); have n1_ := Aside0.mk (below_step (by repeat (first | (with_reducible first | exact HB.out | apply below_alloc | apply pw_below_drewN | apply below_drew1) | exact HB.out)) hb); clear HB; have HO158 := n0_; have HB := n1_; clear n0_ n1_; clear hb ho4))
 go_loopg [5, 6] k (fun kq v5 v6 w' => ∃ (x5_1 : List Int) (x6_1 : Int), v6 = .int .i64 x6_1 ∧ Aside0 (tillerlaw03_small.l0 kq l0 a1 x5_1 x6_1 = some r) ∧ Aside0 (kq ≤ k) ∧ Aside0 (Kd.R (Kd.int .i32) 24 w' w.heap.size (fun _ => True) v5 x5_1) ∧ Aside0 (Below w.heap.size w w'))
 case atStart => exact ⟨(y156), (0), (by first | rfl | (simp; done) | (simp [*]; done)), H', ⟨Nat.le_refl _⟩, ⟨by (with_reducible repeat (first | apply Kd.R_alloc | apply Kd.R_drewN | apply Kd.R_drew)); exact HO158.out⟩, ⟨by repeat (first | (with_reducible first | exact HB.out | apply below_alloc | apply pw_below_drewN | apply below_drew1) | exact HB.out)⟩⟩
 case round =>
  clear H'
  try clear c2
  try clear p2
  obtain ⟨x5_1, x6_1, rfl, HA, HK1, HO_5, HB⟩ := hrel
  cases gk with
  | zero => exact absurd HA.out (by simp [tillerlaw03_small.l0])
  | succ k1 =>
   have H := HA.out
   clear HA
   simp only [tillerlaw03_small.l0] at H
   by_cases c5 : x6_1 < a1
   ·rw [if_pos c5] at H
    have c5b0 : decide (x6_1 < a1) = true := decide_eq_true c5
    clear c5
    by_cases c6 : 0 ≤ x6_1
    ·rw [if_pos c6] at H
     have c6b0 : decide (0 ≤ x6_1) = true := decide_eq_true c6
     clear c6
     by_cases c7 : x6_1 < (l0.length : Int)
     ·rw [if_pos c7] at H
      have c7b0 : decide (x6_1 < (l0.length : Int)) = true := decide_eq_true c7
      clear c7
      by_cases c8 : x5_1.length < 35184372088832
      ·rw [if_pos c8] at H
       have LMc8 := Aside0.mk c8
       clear c8
       obtain ⟨y160, hy160⟩ : ∃ y_ : List Int, y_ = (x5_1 ++ [Int.tmod (rd l0 x6_1) 65536]) := ⟨_, rfl⟩
       replace H : (tillerlaw03_small.l0 k1 l0 a1 y160 (wrap64 (x6_1 + 1))) = some r := by first | (rw [hy160]; with_reducible exact H) | (have H2_ := (Option.bind_some _ _).symm.trans H; rw [hy160]; with_reducible exact H2_) | (have H2_ := (Option.bind_some _ _).symm.trans H; with_reducible exact H2_) | with_reducible exact H | (rw [hy160]; exact H) | exact H
       have Ny160 := Aside0.mk hy160
       clear hy160
       have H' := Aside0.mk H
       clear H
       have p159 : 0 ≤ (x6_1 : Int) := ofd_
       have q159 : x6_1 < (l0.length : Int) := ofd_
       obtain ⟨ad159, e159, hx159_0⟩ := Kd.at_int HR0.out x6_1 p159 q159
       cases e159
       replace hx159_0 := (HB.out.cell (World.block_lt_of_cell? w _ hx159_0)).trans hx159_0
       replace p159 := eq_true p159
       replace q159 := eq_true q159
       go_wp2_with (first | ((with_reducible refine gate_builtin (b := .append) (xs := #[.tmp 13, .tmp 19]) rfl ?_); at_builtin; refine Kd.R_append (Kd.int .i32) (w0 := w) w.heap.size rfl (.tmp 13) (.tmp 19) 22 24 (.int .i32 0) 4 rfl Try.underlying22 info24 rfl (by decide) (by omega) u5 x5_1 (Int.tmod (rd l0 x6_1) 65536) [.int .i32 (Int.tmod (rd l0 x6_1) 65536)] (fun _ => True) (fun _ => False) rfl rfl ?aP (fun _ hk => hk.elim) ?aF ?aO ?aB ?aS ?aL ?_; (case aP => exact rfl); (case aB => exact (by repeat (first | (with_reducible first | exact HB.out | apply below_alloc | apply pw_below_drewN | apply below_drew1) | exact HB.out))); (case aF => exact (fun _ _ => trivial)); (case aO => exact (by (with_reducible repeat (first | apply Kd.R_alloc | apply Kd.R_drewN | apply Kd.R_drew)); exact HO_5.out)); (case aS => exact (below_size (by repeat (first | (with_reducible first | exact HB.out | apply below_alloc | apply pw_below_drewN | apply below_drew1) | exact HB.out)))); (case aL => have := LMc8.out; omega); intro v161 w9 ho hb hg hat; rw [← Ny160.out] at ho; have n0_ := Aside0.mk (hb); have n1_ := Aside0.mk (ho); clear HB; clear HO_5; have HB := n0_; have HO162 := n1_; clear n0_ n1_; clear ho hb hg hat))
       go_roundg k1
       case measure => have := HK1.out; omega
       case rel => exact ⟨(y160), (wrap64 (x6_1 + 1)), (by first | rfl | (simp; done) | (simp [*]; done)), H', ⟨by have := HK1.out; omega⟩, ⟨by (with_reducible repeat (first | apply Kd.R_alloc | apply Kd.R_drewN | apply Kd.R_drew)); exact HO162.out⟩, ⟨by repeat (first | (with_reducible first | exact HB.out | apply below_alloc | apply pw_below_drewN | apply below_drew1) | exact HB.out)⟩⟩
      ·rw [if_neg c8] at H
       exact absurd H (by simp)
     ·rw [if_neg c7] at H
      exact absurd H (by simp)
    ·rw [if_neg c6] at H
     exact absurd H (by simp)
   ·rw [if_neg c5] at H
    have c5b0 : decide (x6_1 < a1) = false := decide_eq_false c5
    clear c5
    obtain rfl := Option.some.inj H
    go_wp2
    go_ret
    exact ⟨_, by first | rfl | (simp [errW_none, errW_some] <;> rfl) | (simp [*, errW_none, errW_some] <;> rfl), by (with_reducible repeat (first | apply Kd.R_alloc | apply Kd.R_drewN | apply Kd.R_drew)); exact HO_5.out, by repeat (first | (with_reducible first | exact HB.out | apply below_alloc | apply pw_below_drewN | apply below_drew1) | exact HB.out)⟩

/-! ### tillerlaw03_VecJoined: function 4 -/
mutual
def tillerlaw03_VecJoined.j0 : Nat → List Int → Int → Int → Int → Bool → Option (Bool)
 | 0, _, _, _, _, _ => none
 | k + 1, x11, x15, x17, x19, x82 => if x82 = true then (some false) else ((vec_Argmax.f k x11).bind fun t193 => (tillerlaw03_VecJoined.l0 k x11 (wrap64 ((wrap64 ((wrap64 (x19)) - (wrap64 (x15)))) - (wrap64 (x17)))) t193 x11 (x11.length : Int) 0))
def tillerlaw03_VecJoined.l0 : Nat → List Int → Int → Int → List Int → Int → Int → Option (Bool)
 | 0, _, _, _, _, _, _ => none
 | k + 1, x11, x21, x22, x93, x94, x95 => if x95 < x94 then (if 0 ≤ x95 then (if x95 < (x93.length : Int) then (if x22 < 0 then (some false) else (if 0 ≤ x22 then (if x22 < (x11.length : Int) then (if (rd x93 x95) > (rd x11 x22) then (some false) else (if x95 < x22 then (if (rd x93 x95) = (rd x11 x22) then (some false) else (tillerlaw03_VecJoined.l0 k x11 x21 x22 x93 x94 (wrap64 (x95 + 1)))) else (tillerlaw03_VecJoined.l0 k x11 x21 x22 x93 x94 (wrap64 (x95 + 1))))) else (none)) else (none))) else (none)) else (none)) else ((tillerlaw03_awake.f k).bind fun t197 => (if t197 = true then (if x21 ≥ (-1) then (some (decide (x21 ≤ 1))) else (some false)) else (some false)))
end
def tillerlaw03_VecJoined.f (k : Nat) (l0 : List Int) (l1 : List Int) (l2 : List Int) (l3 : List Int) : Option (Bool) := (tillerlaw03_small.f k l0 (mn (mn (l0.length : Int) (l1.length : Int)) 100)).bind fun t163 => ((tillerlaw03_small.f k l1 (mn (mn (l0.length : Int) (l1.length : Int)) 100)).bind fun t166 => ((tillerlaw03_small.f k l2 (mn (mn (l2.length : Int) (l3.length : Int)) 100)).bind fun t169 => ((tillerlaw03_small.f k l3 (mn (mn (l2.length : Int) (l3.length : Int)) 100)).bind fun t172 => ((vec_Dot.f k t163 t166).bind fun bt175 => ((vec_Dot.f k t169 t172).bind fun bt177 => ((tillerlaw03_Few.f t163 (mn (mn (l0.length : Int) (l1.length : Int)) 100)).bind fun t179 => (if t179.length + t169.length < 35184372088832 then ((tillerlaw03_Few.f t166 (mn (mn (l0.length : Int) (l1.length : Int)) 100)).bind fun t185 => (if t185.length + t172.length < 35184372088832 then ((vec_Dot.f k (t179 ++ t169) (t185 ++ t172)).bind fun bt191 => (if bt175.2 = 0 then (if bt177.2 = 0 then (tillerlaw03_VecJoined.j0 k t163 bt175.1 bt177.1 bt191.1 (bt191.2 != 0)) else (tillerlaw03_VecJoined.j0 k t163 bt175.1 bt177.1 bt191.1 true)) else (tillerlaw03_VecJoined.j0 k t163 bt175.1 bt177.1 bt191.1 true))) else (none))) else (none))))))))
theorem tillerlaw03_VecJoined.mono_l : ∀ k, (∀ y0 y1 y2 y3 y4, LeO (tillerlaw03_VecJoined.j0 k y0 y1 y2 y3 y4) (tillerlaw03_VecJoined.j0 (k + 1) y0 y1 y2 y3 y4)) ∧ (∀ y0 y1 y2 y3 y4 y5, LeO (tillerlaw03_VecJoined.l0 k y0 y1 y2 y3 y4 y5) (tillerlaw03_VecJoined.l0 (k + 1) y0 y1 y2 y3 y4 y5))
 | 0 => ⟨fun _ _ _ _ _ r h => by simp [tillerlaw03_VecJoined.j0] at h, fun _ _ _ _ _ _ r h => by simp [tillerlaw03_VecJoined.l0] at h⟩
 | k + 1 => by
  obtain ⟨ih0, ih1⟩ := tillerlaw03_VecJoined.mono_l k
  refine ⟨?_, ?_⟩
  ·intro y0 y1 y2 y3 y4
   unfold tillerlaw03_VecJoined.j0
   repeat' first
   | (with_reducible exact ih0 _ _ _ _ _)
   | (with_reducible exact ih1 _ _ _ _ _ _)
   | (with_reducible exact tillerlaw03_awake.mono _)
   | (with_reducible exact tillerlaw03_small.mono _ _ _)
   | (with_reducible exact vec_Argmax.mono _ _)
   | (with_reducible exact vec_Dot.mono _ _ _)
   | (with_reducible exact LeO.refl _)
   | (with_reducible exact LeO.none _)
   | (with_reducible refine LeO.ite ?_ ?_)
   | (with_reducible refine LeO.bind ?_ (fun _ => ?_))
   | exact ih0 _ _ _ _ _
   | exact ih1 _ _ _ _ _ _
   | exact tillerlaw03_awake.mono _
   | exact tillerlaw03_small.mono _ _ _
   | exact vec_Argmax.mono _ _
   | exact vec_Dot.mono _ _ _
   | exact LeO.none _
   | refine LeO.ite ?_ ?_
   | refine LeO.bind ?_ (fun _ => ?_)
  ·intro y0 y1 y2 y3 y4 y5
   unfold tillerlaw03_VecJoined.l0
   repeat' first
   | (with_reducible exact ih0 _ _ _ _ _)
   | (with_reducible exact ih1 _ _ _ _ _ _)
   | (with_reducible exact tillerlaw03_awake.mono _)
   | (with_reducible exact tillerlaw03_small.mono _ _ _)
   | (with_reducible exact vec_Argmax.mono _ _)
   | (with_reducible exact vec_Dot.mono _ _ _)
   | (with_reducible exact LeO.refl _)
   | (with_reducible exact LeO.none _)
   | (with_reducible refine LeO.ite ?_ ?_)
   | (with_reducible refine LeO.bind ?_ (fun _ => ?_))
   | exact ih0 _ _ _ _ _
   | exact ih1 _ _ _ _ _ _
   | exact tillerlaw03_awake.mono _
   | exact tillerlaw03_small.mono _ _ _
   | exact vec_Argmax.mono _ _
   | exact vec_Dot.mono _ _ _
   | exact LeO.none _
   | refine LeO.ite ?_ ?_
   | refine LeO.bind ?_ (fun _ => ?_)
theorem tillerlaw03_VecJoined.mono : ∀ a0 a1 a2 a3 k, LeO (tillerlaw03_VecJoined.f k a0 a1 a2 a3) (tillerlaw03_VecJoined.f (k + 1) a0 a1 a2 a3) := by
 intro a0 a1 a2 a3 k
 obtain ⟨ih0, ih1⟩ := tillerlaw03_VecJoined.mono_l k
 unfold tillerlaw03_VecJoined.f
 repeat' first
   | (with_reducible exact ih0 _ _ _ _ _)
   | (with_reducible exact ih1 _ _ _ _ _ _)
   | (with_reducible exact tillerlaw03_awake.mono _)
   | (with_reducible exact tillerlaw03_small.mono _ _ _)
   | (with_reducible exact vec_Argmax.mono _ _)
   | (with_reducible exact vec_Dot.mono _ _ _)
   | (with_reducible exact LeO.refl _)
   | (with_reducible exact LeO.none _)
   | (with_reducible refine LeO.ite ?_ ?_)
   | (with_reducible refine LeO.bind ?_ (fun _ => ?_))
   | exact ih0 _ _ _ _ _
   | exact ih1 _ _ _ _ _ _
   | exact tillerlaw03_awake.mono _
   | exact tillerlaw03_small.mono _ _ _
   | exact vec_Argmax.mono _ _
   | exact vec_Dot.mono _ _ _
   | exact LeO.none _
   | refine LeO.ite ?_ ?_
   | refine LeO.bind ?_ (fun _ => ?_)
set_option maxHeartbeats 8000000 in
set_option maxRecDepth 100000 in
theorem tillerlaw03_VecJoined.calls (k : Nat) (A0 : Option Addr) (c0 : Nat) (l0 : List Int) (A1 : Option Addr) (c1 : Nat) (l1 : List Int) (A2 : Option Addr) (c2 : Nat) (l2 : List Int) (A3 : Option Addr) (c3 : Nat) (l3 : List Int) (r : Bool) (w : World) (hr0 : Kd.C (Kd.int .i32) w A0 l0.length l0) (hc0 : l0.length ≤ c0) (hr1 : Kd.C (Kd.int .i32) w A1 l1.length l1) (hc1 : l1.length ≤ c1) (hr2 : Kd.C (Kd.int .i32) w A2 l2.length l2) (hc2 : l2.length ≤ c2) (hr3 : Kd.C (Kd.int .i32) w A3 l3.length l3) (hc3 : l3.length ≤ c3) (hr_ : Aside0 (r = true)) (h : tillerlaw03_VecJoined.f k l0 l1 l2 l3 = some r) :
  Calls Try.prog 4 #[.slice A0 l0.length c0, .slice A1 l1.length c1, .slice A2 l2.length c2, .slice A3 l3.length c3] w fun e w' => e = .returned (.bool r) ∧ Below w.heap.size w w' := by
 have HR0 := Aside0.mk hr0
 have HC0 := Aside0.mk hc0
 clear hr0 hc0
 have HR1 := Aside0.mk hr1
 have HC1 := Aside0.mk hc1
 clear hr1 hc1
 have HR2 := Aside0.mk hr2
 have HC2 := Aside0.mk hc2
 clear hr2 hc2
 have HR3 := Aside0.mk hr3
 have HC3 := Aside0.mk hc3
 clear hr3 hc3
 have HB := Aside0.mk (Below.refl w.heap.size w)
 have H : ((tillerlaw03_small.f k l0 (mn (mn (l0.length : Int) (l1.length : Int)) 100)).bind fun t163 => ((tillerlaw03_small.f k l1 (mn (mn (l0.length : Int) (l1.length : Int)) 100)).bind fun t166 => ((tillerlaw03_small.f k l2 (mn (mn (l2.length : Int) (l3.length : Int)) 100)).bind fun t169 => ((tillerlaw03_small.f k l3 (mn (mn (l2.length : Int) (l3.length : Int)) 100)).bind fun t172 => ((vec_Dot.f k t163 t166).bind fun bt175 => ((vec_Dot.f k t169 t172).bind fun bt177 => ((tillerlaw03_Few.f t163 (mn (mn (l0.length : Int) (l1.length : Int)) 100)).bind fun t179 => (if t179.length + t169.length < 35184372088832 then ((tillerlaw03_Few.f t166 (mn (mn (l0.length : Int) (l1.length : Int)) 100)).bind fun t185 => (if t185.length + t172.length < 35184372088832 then ((vec_Dot.f k (t179 ++ t169) (t185 ++ t172)).bind fun bt191 => (if bt175.2 = 0 then (if bt177.2 = 0 then (tillerlaw03_VecJoined.j0 k t163 bt175.1 bt177.1 bt191.1 (bt191.2 != 0)) else (tillerlaw03_VecJoined.j0 k t163 bt175.1 bt177.1 bt191.1 true)) else (tillerlaw03_VecJoined.j0 k t163 bt175.1 bt177.1 bt191.1 true))) else (none))) else (none))))))))) = some r := h
 clear h
 obtain ⟨ji5, hji5⟩ : ∃ j_ : Int, (mn (l0.length : Int) (l1.length : Int)) = j_ := ⟨_, rfl⟩
 replace H : ((tillerlaw03_small.f k l0 (mn (ji5) 100)).bind fun t163 => ((tillerlaw03_small.f k l1 (mn (ji5) 100)).bind fun t166 => ((tillerlaw03_small.f k l2 (mn (mn (l2.length : Int) (l3.length : Int)) 100)).bind fun t169 => ((tillerlaw03_small.f k l3 (mn (mn (l2.length : Int) (l3.length : Int)) 100)).bind fun t172 => ((vec_Dot.f k t163 t166).bind fun bt175 => ((vec_Dot.f k t169 t172).bind fun bt177 => ((tillerlaw03_Few.f t163 (mn (ji5) 100)).bind fun t179 => (if t179.length + t169.length < 35184372088832 then ((tillerlaw03_Few.f t166 (mn (ji5) 100)).bind fun t185 => (if t185.length + t172.length < 35184372088832 then ((vec_Dot.f k (t179 ++ t169) (t185 ++ t172)).bind fun bt191 => (if bt175.2 = 0 then (if bt177.2 = 0 then (tillerlaw03_VecJoined.j0 k t163 bt175.1 bt177.1 bt191.1 (bt191.2 != 0)) else (tillerlaw03_VecJoined.j0 k t163 bt175.1 bt177.1 bt191.1 true)) else (tillerlaw03_VecJoined.j0 k t163 bt175.1 bt177.1 bt191.1 true))) else (none))) else (none))))))))) = some r := by first | (rw [hji5] at H; exact H) | (simp only [hji5] at H ⊢; exact H)
 (try (have hji5l : 0 ≤ ji5 := by (rw [← hji5]; unfold mn; (repeat' split) <;> omega)))
 (try (have hji5m : 0 ≤ ji5 := by omega))
 have hji5_ : (if (l1.length : Int) < (l0.length : Int) then (l1.length : Int) else (l0.length : Int)) = ji5 := hji5
 have hji5n : (if l1.length < l0.length then (l1.length : Int) else (l0.length : Int)) = ji5 := by have h_ := hji5_; simp only [Int.ofNat_lt] at h_; exact h_
 obtain ⟨ji6, hji6⟩ : ∃ j_ : Int, (mn (ji5) 100) = j_ := ⟨_, rfl⟩
 replace H : ((tillerlaw03_small.f k l0 (ji6)).bind fun t163 => ((tillerlaw03_small.f k l1 (ji6)).bind fun t166 => ((tillerlaw03_small.f k l2 (mn (mn (l2.length : Int) (l3.length : Int)) 100)).bind fun t169 => ((tillerlaw03_small.f k l3 (mn (mn (l2.length : Int) (l3.length : Int)) 100)).bind fun t172 => ((vec_Dot.f k t163 t166).bind fun bt175 => ((vec_Dot.f k t169 t172).bind fun bt177 => ((tillerlaw03_Few.f t163 (ji6)).bind fun t179 => (if t179.length + t169.length < 35184372088832 then ((tillerlaw03_Few.f t166 (ji6)).bind fun t185 => (if t185.length + t172.length < 35184372088832 then ((vec_Dot.f k (t179 ++ t169) (t185 ++ t172)).bind fun bt191 => (if bt175.2 = 0 then (if bt177.2 = 0 then (tillerlaw03_VecJoined.j0 k t163 bt175.1 bt177.1 bt191.1 (bt191.2 != 0)) else (tillerlaw03_VecJoined.j0 k t163 bt175.1 bt177.1 bt191.1 true)) else (tillerlaw03_VecJoined.j0 k t163 bt175.1 bt177.1 bt191.1 true))) else (none))) else (none))))))))) = some r := by first | (rw [hji6] at H; exact H) | (simp only [hji6] at H ⊢; exact H)
 have hji6_ : (if 100 < (ji5) then 100 else (ji5)) = ji6 := hji6
 obtain ⟨ji7, hji7⟩ : ∃ j_ : Int, (mn (l2.length : Int) (l3.length : Int)) = j_ := ⟨_, rfl⟩
 replace H : ((tillerlaw03_small.f k l0 (ji6)).bind fun t163 => ((tillerlaw03_small.f k l1 (ji6)).bind fun t166 => ((tillerlaw03_small.f k l2 (mn (ji7) 100)).bind fun t169 => ((tillerlaw03_small.f k l3 (mn (ji7) 100)).bind fun t172 => ((vec_Dot.f k t163 t166).bind fun bt175 => ((vec_Dot.f k t169 t172).bind fun bt177 => ((tillerlaw03_Few.f t163 (ji6)).bind fun t179 => (if t179.length + t169.length < 35184372088832 then ((tillerlaw03_Few.f t166 (ji6)).bind fun t185 => (if t185.length + t172.length < 35184372088832 then ((vec_Dot.f k (t179 ++ t169) (t185 ++ t172)).bind fun bt191 => (if bt175.2 = 0 then (if bt177.2 = 0 then (tillerlaw03_VecJoined.j0 k t163 bt175.1 bt177.1 bt191.1 (bt191.2 != 0)) else (tillerlaw03_VecJoined.j0 k t163 bt175.1 bt177.1 bt191.1 true)) else (tillerlaw03_VecJoined.j0 k t163 bt175.1 bt177.1 bt191.1 true))) else (none))) else (none))))))))) = some r := by first | (rw [hji7] at H; exact H) | (simp only [hji7] at H ⊢; exact H)
 (try (have hji7l : 0 ≤ ji7 := by (rw [← hji7]; unfold mn; (repeat' split) <;> omega)))
 (try (have hji7m : 0 ≤ ji7 := by omega))
 have hji7_ : (if (l3.length : Int) < (l2.length : Int) then (l3.length : Int) else (l2.length : Int)) = ji7 := hji7
 have hji7n : (if l3.length < l2.length then (l3.length : Int) else (l2.length : Int)) = ji7 := by have h_ := hji7_; simp only [Int.ofNat_lt] at h_; exact h_
 obtain ⟨ji8, hji8⟩ : ∃ j_ : Int, (mn (ji7) 100) = j_ := ⟨_, rfl⟩
 replace H : ((tillerlaw03_small.f k l0 (ji6)).bind fun t163 => ((tillerlaw03_small.f k l1 (ji6)).bind fun t166 => ((tillerlaw03_small.f k l2 (ji8)).bind fun t169 => ((tillerlaw03_small.f k l3 (ji8)).bind fun t172 => ((vec_Dot.f k t163 t166).bind fun bt175 => ((vec_Dot.f k t169 t172).bind fun bt177 => ((tillerlaw03_Few.f t163 (ji6)).bind fun t179 => (if t179.length + t169.length < 35184372088832 then ((tillerlaw03_Few.f t166 (ji6)).bind fun t185 => (if t185.length + t172.length < 35184372088832 then ((vec_Dot.f k (t179 ++ t169) (t185 ++ t172)).bind fun bt191 => (if bt175.2 = 0 then (if bt177.2 = 0 then (tillerlaw03_VecJoined.j0 k t163 bt175.1 bt177.1 bt191.1 (bt191.2 != 0)) else (tillerlaw03_VecJoined.j0 k t163 bt175.1 bt177.1 bt191.1 true)) else (tillerlaw03_VecJoined.j0 k t163 bt175.1 bt177.1 bt191.1 true))) else (none))) else (none))))))))) = some r := by first | (rw [hji8] at H; exact H) | (simp only [hji8] at H ⊢; exact H)
 have hji8_ : (if 100 < (ji7) then 100 else (ji7)) = ji8 := hji8
 replace H := Option.bind_eq_some_iff.mp H
 obtain ⟨t163, A90, H⟩ := H
 replace H : ((tillerlaw03_small.f k l1 (ji6)).bind fun t166 => ((tillerlaw03_small.f k l2 (ji8)).bind fun t169 => ((tillerlaw03_small.f k l3 (ji8)).bind fun t172 => ((vec_Dot.f k t163 t166).bind fun bt175 => ((vec_Dot.f k t169 t172).bind fun bt177 => ((tillerlaw03_Few.f t163 (ji6)).bind fun t179 => (if t179.length + t169.length < 35184372088832 then ((tillerlaw03_Few.f t166 (ji6)).bind fun t185 => (if t185.length + t172.length < 35184372088832 then ((vec_Dot.f k (t179 ++ t169) (t185 ++ t172)).bind fun bt191 => (if bt175.2 = 0 then (if bt177.2 = 0 then (tillerlaw03_VecJoined.j0 k t163 bt175.1 bt177.1 bt191.1 (bt191.2 != 0)) else (tillerlaw03_VecJoined.j0 k t163 bt175.1 bt177.1 bt191.1 true)) else (tillerlaw03_VecJoined.j0 k t163 bt175.1 bt177.1 bt191.1 true))) else (none))) else (none)))))))) = some r := H
 have A9 := Aside0.mk A90
 clear A90
 replace H := Option.bind_eq_some_iff.mp H
 obtain ⟨t166, A100, H⟩ := H
 replace H : ((tillerlaw03_small.f k l2 (ji8)).bind fun t169 => ((tillerlaw03_small.f k l3 (ji8)).bind fun t172 => ((vec_Dot.f k t163 t166).bind fun bt175 => ((vec_Dot.f k t169 t172).bind fun bt177 => ((tillerlaw03_Few.f t163 (ji6)).bind fun t179 => (if t179.length + t169.length < 35184372088832 then ((tillerlaw03_Few.f t166 (ji6)).bind fun t185 => (if t185.length + t172.length < 35184372088832 then ((vec_Dot.f k (t179 ++ t169) (t185 ++ t172)).bind fun bt191 => (if bt175.2 = 0 then (if bt177.2 = 0 then (tillerlaw03_VecJoined.j0 k t163 bt175.1 bt177.1 bt191.1 (bt191.2 != 0)) else (tillerlaw03_VecJoined.j0 k t163 bt175.1 bt177.1 bt191.1 true)) else (tillerlaw03_VecJoined.j0 k t163 bt175.1 bt177.1 bt191.1 true))) else (none))) else (none))))))) = some r := H
 have A10 := Aside0.mk A100
 clear A100
 replace H := Option.bind_eq_some_iff.mp H
 obtain ⟨t169, A110, H⟩ := H
 replace H : ((tillerlaw03_small.f k l3 (ji8)).bind fun t172 => ((vec_Dot.f k t163 t166).bind fun bt175 => ((vec_Dot.f k t169 t172).bind fun bt177 => ((tillerlaw03_Few.f t163 (ji6)).bind fun t179 => (if t179.length + t169.length < 35184372088832 then ((tillerlaw03_Few.f t166 (ji6)).bind fun t185 => (if t185.length + t172.length < 35184372088832 then ((vec_Dot.f k (t179 ++ t169) (t185 ++ t172)).bind fun bt191 => (if bt175.2 = 0 then (if bt177.2 = 0 then (tillerlaw03_VecJoined.j0 k t163 bt175.1 bt177.1 bt191.1 (bt191.2 != 0)) else (tillerlaw03_VecJoined.j0 k t163 bt175.1 bt177.1 bt191.1 true)) else (tillerlaw03_VecJoined.j0 k t163 bt175.1 bt177.1 bt191.1 true))) else (none))) else (none)))))) = some r := H
 have A11 := Aside0.mk A110
 clear A110
 replace H := Option.bind_eq_some_iff.mp H
 obtain ⟨t172, A120, H⟩ := H
 replace H : ((vec_Dot.f k t163 t166).bind fun bt175 => ((vec_Dot.f k t169 t172).bind fun bt177 => ((tillerlaw03_Few.f t163 (ji6)).bind fun t179 => (if t179.length + t169.length < 35184372088832 then ((tillerlaw03_Few.f t166 (ji6)).bind fun t185 => (if t185.length + t172.length < 35184372088832 then ((vec_Dot.f k (t179 ++ t169) (t185 ++ t172)).bind fun bt191 => (if bt175.2 = 0 then (if bt177.2 = 0 then (tillerlaw03_VecJoined.j0 k t163 bt175.1 bt177.1 bt191.1 (bt191.2 != 0)) else (tillerlaw03_VecJoined.j0 k t163 bt175.1 bt177.1 bt191.1 true)) else (tillerlaw03_VecJoined.j0 k t163 bt175.1 bt177.1 bt191.1 true))) else (none))) else (none))))) = some r := H
 have A12 := Aside0.mk A120
 clear A120
 replace H := Option.bind_eq_some_iff.mp H
 obtain ⟨⟨t175, t176⟩, A130, H⟩ := H
 replace H : ((vec_Dot.f k t169 t172).bind fun bt177 => ((tillerlaw03_Few.f t163 (ji6)).bind fun t179 => (if t179.length + t169.length < 35184372088832 then ((tillerlaw03_Few.f t166 (ji6)).bind fun t185 => (if t185.length + t172.length < 35184372088832 then ((vec_Dot.f k (t179 ++ t169) (t185 ++ t172)).bind fun bt191 => (if t176 = 0 then (if bt177.2 = 0 then (tillerlaw03_VecJoined.j0 k t163 t175 bt177.1 bt191.1 (bt191.2 != 0)) else (tillerlaw03_VecJoined.j0 k t163 t175 bt177.1 bt191.1 true)) else (tillerlaw03_VecJoined.j0 k t163 t175 bt177.1 bt191.1 true))) else (none))) else (none)))) = some r := H
 have A13 := Aside0.mk A130
 clear A130
 replace H := Option.bind_eq_some_iff.mp H
 obtain ⟨⟨t177, t178⟩, A140, H⟩ := H
 replace H : ((tillerlaw03_Few.f t163 (ji6)).bind fun t179 => (if t179.length + t169.length < 35184372088832 then ((tillerlaw03_Few.f t166 (ji6)).bind fun t185 => (if t185.length + t172.length < 35184372088832 then ((vec_Dot.f k (t179 ++ t169) (t185 ++ t172)).bind fun bt191 => (if t176 = 0 then (if t178 = 0 then (tillerlaw03_VecJoined.j0 k t163 t175 t177 bt191.1 (bt191.2 != 0)) else (tillerlaw03_VecJoined.j0 k t163 t175 t177 bt191.1 true)) else (tillerlaw03_VecJoined.j0 k t163 t175 t177 bt191.1 true))) else (none))) else (none))) = some r := H
 have A14 := Aside0.mk A140
 clear A140
 replace H := Option.bind_eq_some_iff.mp H
 obtain ⟨t179, A150, H⟩ := H
 replace H : (if t179.length + t169.length < 35184372088832 then ((tillerlaw03_Few.f t166 (ji6)).bind fun t185 => (if t185.length + t172.length < 35184372088832 then ((vec_Dot.f k (t179 ++ t169) (t185 ++ t172)).bind fun bt191 => (if t176 = 0 then (if t178 = 0 then (tillerlaw03_VecJoined.j0 k t163 t175 t177 bt191.1 (bt191.2 != 0)) else (tillerlaw03_VecJoined.j0 k t163 t175 t177 bt191.1 true)) else (tillerlaw03_VecJoined.j0 k t163 t175 t177 bt191.1 true))) else (none))) else (none)) = some r := H
 have A15 := Aside0.mk A150
 clear A150
 by_cases c16 : t179.length + t169.length < 35184372088832
 ·rw [if_pos c16] at H
  have LMc16 := Aside0.mk c16
  clear c16
  obtain ⟨y182, hy182⟩ : ∃ y_ : List Int, y_ = (t179 ++ t169) := ⟨_, rfl⟩
  replace H : ((tillerlaw03_Few.f t166 (ji6)).bind fun t185 => (if t185.length + t172.length < 35184372088832 then ((vec_Dot.f k y182 (t185 ++ t172)).bind fun bt191 => (if t176 = 0 then (if t178 = 0 then (tillerlaw03_VecJoined.j0 k t163 t175 t177 bt191.1 (bt191.2 != 0)) else (tillerlaw03_VecJoined.j0 k t163 t175 t177 bt191.1 true)) else (tillerlaw03_VecJoined.j0 k t163 t175 t177 bt191.1 true))) else (none))) = some r := by first | (rw [hy182]; with_reducible exact H) | (have H2_ := (Option.bind_some _ _).symm.trans H; rw [hy182]; with_reducible exact H2_) | (have H2_ := (Option.bind_some _ _).symm.trans H; with_reducible exact H2_) | with_reducible exact H | (rw [hy182]; exact H) | exact H
  have Ny182 := Aside0.mk hy182
  clear hy182
  replace H := Option.bind_eq_some_iff.mp H
  obtain ⟨t185, A170, H⟩ := H
  replace H : (if t185.length + t172.length < 35184372088832 then ((vec_Dot.f k y182 (t185 ++ t172)).bind fun bt191 => (if t176 = 0 then (if t178 = 0 then (tillerlaw03_VecJoined.j0 k t163 t175 t177 bt191.1 (bt191.2 != 0)) else (tillerlaw03_VecJoined.j0 k t163 t175 t177 bt191.1 true)) else (tillerlaw03_VecJoined.j0 k t163 t175 t177 bt191.1 true))) else (none)) = some r := H
  have A17 := Aside0.mk A170
  clear A170
  by_cases c18 : t185.length + t172.length < 35184372088832
  ·rw [if_pos c18] at H
   have LMc18 := Aside0.mk c18
   clear c18
   obtain ⟨y188, hy188⟩ : ∃ y_ : List Int, y_ = (t185 ++ t172) := ⟨_, rfl⟩
   replace H : ((vec_Dot.f k y182 y188).bind fun bt191 => (if t176 = 0 then (if t178 = 0 then (tillerlaw03_VecJoined.j0 k t163 t175 t177 bt191.1 (bt191.2 != 0)) else (tillerlaw03_VecJoined.j0 k t163 t175 t177 bt191.1 true)) else (tillerlaw03_VecJoined.j0 k t163 t175 t177 bt191.1 true))) = some r := by first | (rw [hy188]; with_reducible exact H) | (have H2_ := (Option.bind_some _ _).symm.trans H; rw [hy188]; with_reducible exact H2_) | (have H2_ := (Option.bind_some _ _).symm.trans H; with_reducible exact H2_) | with_reducible exact H | (rw [hy188]; exact H) | exact H
   have Ny188 := Aside0.mk hy188
   clear hy188
   replace H := Option.bind_eq_some_iff.mp H
   obtain ⟨⟨t191, t192⟩, A190, H⟩ := H
   replace H : (if t176 = 0 then (if t178 = 0 then (tillerlaw03_VecJoined.j0 k t163 t175 t177 t191 (t192 != 0)) else (tillerlaw03_VecJoined.j0 k t163 t175 t177 t191 true)) else (tillerlaw03_VecJoined.j0 k t163 t175 t177 t191 true)) = some r := H
   have A19 := Aside0.mk A190
   clear A190
   have HC20 := Aside0.mk H
   clear H
   go_enter Try.func4, Try.ntmps4
   go_upto_region 7 with (first | ((with_reducible refine gate_callee (f := 20) rfl ?_); refine goesL_ (some 37) rfl rfl Try.func20 (by kernel_rfl) rfl #[.slice A0 l0.length c0, .int .i64 ji6] rfl (by (try simp only [List.map_toArray, List.map_cons, List.map_nil]); first | done | (simp only [hji6]; rfl) | rfl | (simp only [List.length_drop, List.length_take]; rfl)) ?_; (with_reducible refine (tillerlaw03_small.calls k _ _ l0 ji6 t163 _ ?side1 ?side2 A9.out).mono ?_); (case side1 => repeat (first | exact HR0.out | (with_reducible refine Kd.C_alloc ?_ _) | (with_reducible refine Kd.C_drewN ?_ _) | (with_reducible refine Kd.C_drew ?_))); (case side2 => exact HC0.out); rintro e w21 ⟨v164, rfl, ho0, hb⟩; refine ⟨_, rfl, ?_⟩; have n0_ := Aside0.mk (Kd.R_lower ho0 (below_size (by repeat (first | (with_reducible first | exact HB.out | apply below_alloc | apply pw_below_drewN | apply below_drew1) | exact HB.out)))); have n1_ := Aside0.mk (below_step (by repeat (first | (with_reducible first | exact HB.out | apply below_alloc | apply pw_below_drewN | apply below_drew1) | exact HB.out)) hb); clear HB; have HO165 := n0_; have HB := n1_; clear n0_ n1_; (try clear hb); (try clear hb2); (try clear hk); (try clear hi); (try clear ho0)) | ((with_reducible refine gate_callee (f := 20) rfl ?_); refine goesL_ (some 40) rfl rfl Try.func20 (by kernel_rfl) rfl #[.slice A1 l1.length c1, .int .i64 ji6] rfl (by (try simp only [List.map_toArray, List.map_cons, List.map_nil]); first | done | (simp only [hji6]; rfl) | rfl | (simp only [List.length_drop, List.length_take]; rfl)) ?_; (with_reducible refine (tillerlaw03_small.calls k _ _ l1 ji6 t166 _ ?side1 ?side2 A10.out).mono ?_); (case side1 => repeat (first | exact (Kd.C_below HR1.out HB.out) | (with_reducible refine Kd.C_alloc ?_ _) | (with_reducible refine Kd.C_drewN ?_ _) | (with_reducible refine Kd.C_drew ?_))); (case side2 => exact HC1.out); rintro e w22 ⟨v167, rfl, ho0, hb⟩; refine ⟨_, rfl, ?_⟩; have n0_ := Aside0.mk (Kd.R_elder' (by (with_reducible repeat (first | apply Kd.R_alloc | apply Kd.R_drewN | apply Kd.R_drew)); exact HO165.out) (Kd.R_base ho0) hb); have n1_ := Aside0.mk (Kd.R_lower (Kd.R_new' ho0 (Kd.R_lt (by (with_reducible repeat (first | apply Kd.R_alloc | apply Kd.R_drewN | apply Kd.R_drew)); exact HO165.out))) (below_size (by repeat (first | (with_reducible first | exact HB.out | apply below_alloc | apply pw_below_drewN | apply below_drew1) | exact HB.out)))); have n2_ := Aside0.mk (below_step (by repeat (first | (with_reducible first | exact HB.out | apply below_alloc | apply pw_below_drewN | apply below_drew1) | exact HB.out)) hb); clear HO165; clear HB; have HO165 := n0_; have HO168 := n1_; have HB := n2_; clear n0_ n1_ n2_; (try clear hb); (try clear hb2); (try clear hk); (try clear hi); (try clear ho0)) | ((with_reducible refine gate_callee (f := 20) rfl ?_); refine goesL_ (some 43) rfl rfl Try.func20 (by kernel_rfl) rfl #[.slice A2 l2.length c2, .int .i64 ji8] rfl (by (try simp only [List.map_toArray, List.map_cons, List.map_nil]); first | done | (simp only [hji8]; rfl) | rfl | (simp only [List.length_drop, List.length_take]; rfl)) ?_; (with_reducible refine (tillerlaw03_small.calls k _ _ l2 ji8 t169 _ ?side1 ?side2 A11.out).mono ?_); (case side1 => repeat (first | exact (Kd.C_below HR2.out HB.out) | (with_reducible refine Kd.C_alloc ?_ _) | (with_reducible refine Kd.C_drewN ?_ _) | (with_reducible refine Kd.C_drew ?_))); (case side2 => exact HC2.out); rintro e w23 ⟨v170, rfl, ho0, hb⟩; refine ⟨_, rfl, ?_⟩; have n0_ := Aside0.mk (Kd.R_elder' (by (with_reducible repeat (first | apply Kd.R_alloc | apply Kd.R_drewN | apply Kd.R_drew)); exact HO165.out) (Kd.R_base ho0) hb); have n1_ := Aside0.mk (Kd.R_elder' (by (with_reducible repeat (first | apply Kd.R_alloc | apply Kd.R_drewN | apply Kd.R_drew)); exact HO168.out) (Kd.R_base ho0) hb); have n2_ := Aside0.mk (Kd.R_lower (Kd.R_new' (Kd.R_new' ho0 (Kd.R_lt (by (with_reducible repeat (first | apply Kd.R_alloc | apply Kd.R_drewN | apply Kd.R_drew)); exact HO165.out))) (Kd.R_lt (by (with_reducible repeat (first | apply Kd.R_alloc | apply Kd.R_drewN | apply Kd.R_drew)); exact HO168.out))) (below_size (by repeat (first | (with_reducible first | exact HB.out | apply below_alloc | apply pw_below_drewN | apply below_drew1) | exact HB.out)))); have n3_ := Aside0.mk (below_step (by repeat (first | (with_reducible first | exact HB.out | apply below_alloc | apply pw_below_drewN | apply below_drew1) | exact HB.out)) hb); clear HO165; clear HO168; clear HB; have HO165 := n0_; have HO168 := n1_; have HO171 := n2_; have HB := n3_; clear n0_ n1_ n2_ n3_; (try clear hb); (try clear hb2); (try clear hk); (try clear hi); (try clear ho0)) | ((with_reducible refine gate_callee (f := 20) rfl ?_); refine goesL_ (some 46) rfl rfl Try.func20 (by kernel_rfl) rfl #[.slice A3 l3.length c3, .int .i64 ji8] rfl (by (try simp only [List.map_toArray, List.map_cons, List.map_nil]); first | done | (simp only [hji8]; rfl) | rfl | (simp only [List.length_drop, List.length_take]; rfl)) ?_; (with_reducible refine (tillerlaw03_small.calls k _ _ l3 ji8 t172 _ ?side1 ?side2 A12.out).mono ?_); (case side1 => repeat (first | exact (Kd.C_below HR3.out HB.out) | (with_reducible refine Kd.C_alloc ?_ _) | (with_reducible refine Kd.C_drewN ?_ _) | (with_reducible refine Kd.C_drew ?_))); (case side2 => exact HC3.out); rintro e w24 ⟨v173, rfl, ho0, hb⟩; refine ⟨_, rfl, ?_⟩; have n0_ := Aside0.mk (Kd.R_elder' (by (with_reducible repeat (first | apply Kd.R_alloc | apply Kd.R_drewN | apply Kd.R_drew)); exact HO165.out) (Kd.R_base ho0) hb); have n1_ := Aside0.mk (Kd.R_elder' (by (with_reducible repeat (first | apply Kd.R_alloc | apply Kd.R_drewN | apply Kd.R_drew)); exact HO168.out) (Kd.R_base ho0) hb); have n2_ := Aside0.mk (Kd.R_elder' (by (with_reducible repeat (first | apply Kd.R_alloc | apply Kd.R_drewN | apply Kd.R_drew)); exact HO171.out) (Kd.R_base ho0) hb); have n3_ := Aside0.mk (Kd.R_lower (Kd.R_new' (Kd.R_new' (Kd.R_new' ho0 (Kd.R_lt (by (with_reducible repeat (first | apply Kd.R_alloc | apply Kd.R_drewN | apply Kd.R_drew)); exact HO165.out))) (Kd.R_lt (by (with_reducible repeat (first | apply Kd.R_alloc | apply Kd.R_drewN | apply Kd.R_drew)); exact HO168.out))) (Kd.R_lt (by (with_reducible repeat (first | apply Kd.R_alloc | apply Kd.R_drewN | apply Kd.R_drew)); exact HO171.out))) (below_size (by repeat (first | (with_reducible first | exact HB.out | apply below_alloc | apply pw_below_drewN | apply below_drew1) | exact HB.out)))); have n4_ := Aside0.mk (below_step (by repeat (first | (with_reducible first | exact HB.out | apply below_alloc | apply pw_below_drewN | apply below_drew1) | exact HB.out)) hb); clear HO165; clear HO168; clear HO171; clear HB; have HO165 := n0_; have HO168 := n1_; have HO171 := n2_; have HO174 := n3_; have HB := n4_; clear n0_ n1_ n2_ n3_ n4_; (try clear hb); (try clear hb2); (try clear hk); (try clear hi); (try clear ho0); obtain ⟨Ao25, co25, eo25⟩ := Kd.R_slice HO165.out; subst eo25; obtain ⟨Ao26, co26, eo26⟩ := Kd.R_slice HO168.out; subst eo26) | ((with_reducible refine gate_callee (f := 14) rfl ?_); refine goesL_ (some 50) rfl rfl Try.func14 (by kernel_rfl) rfl #[.slice Ao25 t163.length co25, .slice Ao26 t166.length co26] rfl (by (try simp only [List.map_toArray, List.map_cons, List.map_nil]); first | done | rfl | (simp only [List.length_drop, List.length_take]; rfl)) ?_; (with_reducible refine (vec_Dot.calls k _ _ t163 _ _ t166 t175 t176 _ ?side1 ?side2 ?side3 ?side4 A13.out).mono ?_); (case side1 => repeat (first | exact (Kd.R_reads' HO165.out).2.2 | (with_reducible refine Kd.C_alloc ?_ _) | (with_reducible refine Kd.C_drewN ?_ _) | (with_reducible refine Kd.C_drew ?_))); (case side2 => exact (Kd.R_reads' HO165.out).2.1); (case side3 => repeat (first | exact (Kd.R_reads' HO168.out).2.2 | (with_reducible refine Kd.C_alloc ?_ _) | (with_reducible refine Kd.C_drewN ?_ _) | (with_reducible refine Kd.C_drew ?_))); (case side4 => exact (Kd.R_reads' HO168.out).2.1); rintro e w27 ⟨rfl, hb⟩; refine ⟨_, rfl, ?_⟩; have n0_ := Aside0.mk (Kd.R_below (by (with_reducible repeat (first | apply Kd.R_alloc | apply Kd.R_drewN | apply Kd.R_drew)); exact HO165.out) hb); have n1_ := Aside0.mk (Kd.R_below (by (with_reducible repeat (first | apply Kd.R_alloc | apply Kd.R_drewN | apply Kd.R_drew)); exact HO168.out) hb); have n2_ := Aside0.mk (Kd.R_below (by (with_reducible repeat (first | apply Kd.R_alloc | apply Kd.R_drewN | apply Kd.R_drew)); exact HO171.out) hb); have n3_ := Aside0.mk (Kd.R_below (by (with_reducible repeat (first | apply Kd.R_alloc | apply Kd.R_drewN | apply Kd.R_drew)); exact HO174.out) hb); have n4_ := Aside0.mk (below_step (by repeat (first | (with_reducible first | exact HB.out | apply below_alloc | apply pw_below_drewN | apply below_drew1) | exact HB.out)) hb); clear HO165; clear HO168; clear HO171; clear HO174; clear HB; have HO165 := n0_; have HO168 := n1_; have HO171 := n2_; have HO174 := n3_; have HB := n4_; clear n0_ n1_ n2_ n3_ n4_; (try clear hb); (try clear hb2); (try clear hk); (try clear hi); obtain ⟨Ao28, co28, eo28⟩ := Kd.R_slice HO171.out; subst eo28; obtain ⟨Ao29, co29, eo29⟩ := Kd.R_slice HO174.out; subst eo29) | ((with_reducible refine gate_callee (f := 14) rfl ?_); refine goesL_ (some 56) rfl rfl Try.func14 (by kernel_rfl) rfl #[.slice Ao28 t169.length co28, .slice Ao29 t172.length co29] rfl (by (try simp only [List.map_toArray, List.map_cons, List.map_nil]); first | done | rfl | (simp only [List.length_drop, List.length_take]; rfl)) ?_; (with_reducible refine (vec_Dot.calls k _ _ t169 _ _ t172 t177 t178 _ ?side1 ?side2 ?side3 ?side4 A14.out).mono ?_); (case side1 => repeat (first | exact (Kd.R_reads' HO171.out).2.2 | (with_reducible refine Kd.C_alloc ?_ _) | (with_reducible refine Kd.C_drewN ?_ _) | (with_reducible refine Kd.C_drew ?_))); (case side2 => exact (Kd.R_reads' HO171.out).2.1); (case side3 => repeat (first | exact (Kd.R_reads' HO174.out).2.2 | (with_reducible refine Kd.C_alloc ?_ _) | (with_reducible refine Kd.C_drewN ?_ _) | (with_reducible refine Kd.C_drew ?_))); (case side4 => exact (Kd.R_reads' HO174.out).2.1); rintro e w30 ⟨rfl, hb⟩; refine ⟨_, rfl, ?_⟩; have n0_ := Aside0.mk (Kd.R_below (by (with_reducible repeat (first | apply Kd.R_alloc | apply Kd.R_drewN | apply Kd.R_drew)); exact HO165.out) hb); have n1_ := Aside0.mk (Kd.R_below (by (with_reducible repeat (first | apply Kd.R_alloc | apply Kd.R_drewN | apply Kd.R_drew)); exact HO168.out) hb); have n2_ := Aside0.mk (Kd.R_below (by (with_reducible repeat (first | apply Kd.R_alloc | apply Kd.R_drewN | apply Kd.R_drew)); exact HO171.out) hb); have n3_ := Aside0.mk (Kd.R_below (by (with_reducible repeat (first | apply Kd.R_alloc | apply Kd.R_drewN | apply Kd.R_drew)); exact HO174.out) hb); have n4_ := Aside0.mk (below_step (by repeat (first | (with_reducible first | exact HB.out | apply below_alloc | apply pw_below_drewN | apply below_drew1) | exact HB.out)) hb); clear HO165; clear HO168; clear HO171; clear HO174; clear HB; have HO165 := n0_; have HO168 := n1_; have HO171 := n2_; have HO174 := n3_; have HB := n4_; clear n0_ n1_ n2_ n3_ n4_; (try clear hb); (try clear hb2); (try clear hk); (try clear hi)) | ((with_reducible refine gate_callee (f := 13) rfl ?_); refine goesL_ (some 62) rfl rfl Try.func13 (by kernel_rfl) rfl #[.slice Ao25 t163.length co25, .int .i64 ji6] rfl (by (try simp only [List.map_toArray, List.map_cons, List.map_nil]); first | done | (simp only [hji6]; rfl) | rfl | (simp only [List.length_drop, List.length_take]; rfl)) ?_; (with_reducible refine (tillerlaw03_Few.calls _ _ t163 ji6 t179 _ ?side1 ?side2 A15.out).mono ?_); (case side1 => repeat (first | exact (Kd.R_reads' HO165.out).2.2 | (with_reducible refine Kd.C_alloc ?_ _) | (with_reducible refine Kd.C_drewN ?_ _) | (with_reducible refine Kd.C_drew ?_))); (case side2 => exact (Kd.R_reads' HO165.out).2.1); rintro e w31 ⟨v180, rfl, ho0, hb⟩; refine ⟨_, rfl, ?_⟩; have n0_ := Aside0.mk (Kd.R_elder' (by (with_reducible repeat (first | apply Kd.R_alloc | apply Kd.R_drewN | apply Kd.R_drew)); exact HO165.out) (Kd.R_base ho0) hb); have n1_ := Aside0.mk (Kd.R_elder' (by (with_reducible repeat (first | apply Kd.R_alloc | apply Kd.R_drewN | apply Kd.R_drew)); exact HO168.out) (Kd.R_base ho0) hb); have n2_ := Aside0.mk (Kd.R_elder' (by (with_reducible repeat (first | apply Kd.R_alloc | apply Kd.R_drewN | apply Kd.R_drew)); exact HO171.out) (Kd.R_base ho0) hb); have n3_ := Aside0.mk (Kd.R_elder' (by (with_reducible repeat (first | apply Kd.R_alloc | apply Kd.R_drewN | apply Kd.R_drew)); exact HO174.out) (Kd.R_base ho0) hb); have n4_ := Aside0.mk (Kd.R_lower (Kd.R_new' (Kd.R_new' (Kd.R_new' (Kd.R_new' ho0 (Kd.R_lt (by (with_reducible repeat (first | apply Kd.R_alloc | apply Kd.R_drewN | apply Kd.R_drew)); exact HO165.out))) (Kd.R_lt (by (with_reducible repeat (first | apply Kd.R_alloc | apply Kd.R_drewN | apply Kd.R_drew)); exact HO168.out))) (Kd.R_lt (by (with_reducible repeat (first | apply Kd.R_alloc | apply Kd.R_drewN | apply Kd.R_drew)); exact HO171.out))) (Kd.R_lt (by (with_reducible repeat (first | apply Kd.R_alloc | apply Kd.R_drewN | apply Kd.R_drew)); exact HO174.out))) (below_size (by repeat (first | (with_reducible first | exact HB.out | apply below_alloc | apply pw_below_drewN | apply below_drew1) | exact HB.out)))); have n5_ := Aside0.mk (below_step (by repeat (first | (with_reducible first | exact HB.out | apply below_alloc | apply pw_below_drewN | apply below_drew1) | exact HB.out)) hb); clear HO165; clear HO168; clear HO171; clear HO174; clear HB; have HO165 := n0_; have HO168 := n1_; have HO171 := n2_; have HO174 := n3_; have HO181 := n4_; have HB := n5_; clear n0_ n1_ n2_ n3_ n4_ n5_; (try clear hb); (try clear hb2); (try clear hk); (try clear hi); (try clear ho0)) | ((with_reducible refine gate_builtin (b := .append) (xs := #[.tmp 62, .tmp 63]) rfl ?_); at_builtin; refine Kd.R_append_rows (Kd.int .i32) (w0 := w) w.heap.size rfl (.tmp 62) (.tmp 63) 22 24 (.int .i32 0) 4 rfl Try.underlying22 info24 rfl (by decide) (by omega) v180 t179 t169 _ _ _ (fun k_ => some k_ ≠ (.slice Ao25 t163.length co25 : Value).ownBlock ∧ some k_ ≠ (.slice Ao26 t166.length co26 : Value).ownBlock ∧ some k_ ≠ (.slice Ao28 t169.length co28 : Value).ownBlock ∧ some k_ ≠ (.slice Ao29 t172.length co29 : Value).ownBlock) (fun _ => False) rfl rfl ?aO ?aR (fun _ _ h => h) (fun _ h => h.elim) ?aF ?aB ?aS ?aL ?_; (case aR => repeat (first | exact (Kd.R_reads' HO171.out).2.2 | (with_reducible refine Kd.C_alloc ?_ _) | (with_reducible refine Kd.C_drewN ?_ _) | (with_reducible refine Kd.C_drew ?_))); (case aB => exact (by repeat (first | (with_reducible first | exact HB.out | apply below_alloc | apply pw_below_drewN | apply below_drew1) | exact HB.out))); (case aF => exact (fun k_ hk => ⟨Kd.fresh' (Kd.R_lt (by (with_reducible repeat (first | apply Kd.R_alloc | apply Kd.R_drewN | apply Kd.R_drew)); exact HO165.out)) k_ hk, Kd.fresh' (Kd.R_lt (by (with_reducible repeat (first | apply Kd.R_alloc | apply Kd.R_drewN | apply Kd.R_drew)); exact HO168.out)) k_ hk, Kd.fresh' (Kd.R_lt (by (with_reducible repeat (first | apply Kd.R_alloc | apply Kd.R_drewN | apply Kd.R_drew)); exact HO171.out)) k_ hk, Kd.fresh' (Kd.R_lt (by (with_reducible repeat (first | apply Kd.R_alloc | apply Kd.R_drewN | apply Kd.R_drew)); exact HO174.out)) k_ hk⟩)); (case aO => exact (by (with_reducible repeat (first | apply Kd.R_alloc | apply Kd.R_drewN | apply Kd.R_drew)); exact Kd.R_mono HO181.out (fun _ hk => ⟨hk.1.1.1.2, ⟨hk.1.1.2, ⟨hk.1.2, hk.2⟩⟩⟩))); (case aS => exact (below_size (by repeat (first | (with_reducible first | exact HB.out | apply below_alloc | apply pw_below_drewN | apply below_drew1) | exact HB.out)))); (case aL => have := LMc16.out; omega); intro v183 w32 ho hb hg hat; rw [← Ny182.out] at ho; have n0_ := Aside0.mk (Kd.R_after (ok := (fun k_ => some k_ ≠ (.slice Ao26 t166.length co26 : Value).ownBlock ∧ some k_ ≠ (.slice Ao28 t169.length co28 : Value).ownBlock ∧ some k_ ≠ (.slice Ao29 t172.length co29 : Value).ownBlock)) (by (with_reducible repeat (first | apply Kd.R_alloc | apply Kd.R_drewN | apply Kd.R_drew)); exact Kd.R_mono HO165.out (fun _ hk => ⟨⟨hk.1.1.1.2, ⟨hk.1.1.2, hk.1.2⟩⟩, hk.2⟩)) hg hat); have n1_ := Aside0.mk (Kd.R_after (ok := (fun k_ => some k_ ≠ (.slice Ao25 t163.length co25 : Value).ownBlock ∧ some k_ ≠ (.slice Ao28 t169.length co28 : Value).ownBlock ∧ some k_ ≠ (.slice Ao29 t172.length co29 : Value).ownBlock)) (by (with_reducible repeat (first | apply Kd.R_alloc | apply Kd.R_drewN | apply Kd.R_drew)); exact Kd.R_mono HO168.out (fun _ hk => ⟨⟨hk.1.1.1.2, ⟨hk.1.1.2, hk.1.2⟩⟩, hk.2⟩)) hg hat); have n2_ := Aside0.mk (Kd.R_after (ok := (fun k_ => some k_ ≠ (.slice Ao25 t163.length co25 : Value).ownBlock ∧ some k_ ≠ (.slice Ao26 t166.length co26 : Value).ownBlock ∧ some k_ ≠ (.slice Ao29 t172.length co29 : Value).ownBlock)) (by (with_reducible repeat (first | apply Kd.R_alloc | apply Kd.R_drewN | apply Kd.R_drew)); exact Kd.R_mono HO171.out (fun _ hk => ⟨⟨hk.1.1.1.2, ⟨hk.1.1.2, hk.1.2⟩⟩, hk.2⟩)) hg hat); have n3_ := Aside0.mk (Kd.R_after (ok := (fun k_ => some k_ ≠ (.slice Ao25 t163.length co25 : Value).ownBlock ∧ some k_ ≠ (.slice Ao26 t166.length co26 : Value).ownBlock ∧ some k_ ≠ (.slice Ao28 t169.length co28 : Value).ownBlock)) (by (with_reducible repeat (first | apply Kd.R_alloc | apply Kd.R_drewN | apply Kd.R_drew)); exact Kd.R_mono HO174.out (fun _ hk => ⟨⟨hk.1.1.1.2, ⟨hk.1.1.2, hk.1.2⟩⟩, hk.2⟩)) hg hat); have n4_ := Aside0.mk (hb); have n5_ := Aside0.mk (ho); clear HO165; clear HO168; clear HO171; clear HO174; clear HB; clear HO181; have HO165 := n0_; have HO168 := n1_; have HO171 := n2_; have HO174 := n3_; have HB := n4_; have HO184 := n5_; clear n0_ n1_ n2_ n3_ n4_ n5_; clear ho hb hg hat) | ((with_reducible refine gate_callee (f := 13) rfl ?_); refine goesL_ (some 67) rfl rfl Try.func13 (by kernel_rfl) rfl #[.slice Ao26 t166.length co26, .int .i64 ji6] rfl (by (try simp only [List.map_toArray, List.map_cons, List.map_nil]); first | done | (simp only [hji6]; rfl) | rfl | (simp only [List.length_drop, List.length_take]; rfl)) ?_; (with_reducible refine (tillerlaw03_Few.calls _ _ t166 ji6 t185 _ ?side1 ?side2 A17.out).mono ?_); (case side1 => repeat (first | exact (Kd.R_reads' HO168.out).2.2 | (with_reducible refine Kd.C_alloc ?_ _) | (with_reducible refine Kd.C_drewN ?_ _) | (with_reducible refine Kd.C_drew ?_))); (case side2 => exact (Kd.R_reads' HO168.out).2.1); rintro e w33 ⟨v186, rfl, ho0, hb⟩; refine ⟨_, rfl, ?_⟩; have n0_ := Aside0.mk (Kd.R_elder' (by (with_reducible repeat (first | apply Kd.R_alloc | apply Kd.R_drewN | apply Kd.R_drew)); exact HO165.out) (Kd.R_base ho0) hb); have n1_ := Aside0.mk (Kd.R_elder' (by (with_reducible repeat (first | apply Kd.R_alloc | apply Kd.R_drewN | apply Kd.R_drew)); exact HO168.out) (Kd.R_base ho0) hb); have n2_ := Aside0.mk (Kd.R_elder' (by (with_reducible repeat (first | apply Kd.R_alloc | apply Kd.R_drewN | apply Kd.R_drew)); exact HO171.out) (Kd.R_base ho0) hb); have n3_ := Aside0.mk (Kd.R_elder' (by (with_reducible repeat (first | apply Kd.R_alloc | apply Kd.R_drewN | apply Kd.R_drew)); exact HO174.out) (Kd.R_base ho0) hb); have n4_ := Aside0.mk (Kd.R_elder' (by (with_reducible repeat (first | apply Kd.R_alloc | apply Kd.R_drewN | apply Kd.R_drew)); exact HO184.out) (Kd.R_base ho0) hb); have n5_ := Aside0.mk (Kd.R_lower (Kd.R_new' (Kd.R_new' (Kd.R_new' (Kd.R_new' (Kd.R_new' ho0 (Kd.R_lt (by (with_reducible repeat (first | apply Kd.R_alloc | apply Kd.R_drewN | apply Kd.R_drew)); exact HO165.out))) (Kd.R_lt (by (with_reducible repeat (first | apply Kd.R_alloc | apply Kd.R_drewN | apply Kd.R_drew)); exact HO168.out))) (Kd.R_lt (by (with_reducible repeat (first | apply Kd.R_alloc | apply Kd.R_drewN | apply Kd.R_drew)); exact HO171.out))) (Kd.R_lt (by (with_reducible repeat (first | apply Kd.R_alloc | apply Kd.R_drewN | apply Kd.R_drew)); exact HO174.out))) (Kd.R_lt (by (with_reducible repeat (first | apply Kd.R_alloc | apply Kd.R_drewN | apply Kd.R_drew)); exact HO184.out))) (below_size (by repeat (first | (with_reducible first | exact HB.out | apply below_alloc | apply pw_below_drewN | apply below_drew1) | exact HB.out)))); have n6_ := Aside0.mk (below_step (by repeat (first | (with_reducible first | exact HB.out | apply below_alloc | apply pw_below_drewN | apply below_drew1) | exact HB.out)) hb); clear HO165; clear HO168; clear HO171; clear HO174; clear HO184; clear HB; have HO165 := n0_; have HO168 := n1_; have HO171 := n2_; have HO174 := n3_; have HO184 := n4_; have HO187 := n5_; have HB := n6_; clear n0_ n1_ n2_ n3_ n4_ n5_ n6_; (try clear hb); (try clear hb2); (try clear hk); (try clear hi); (try clear ho0)) | ((with_reducible refine gate_builtin (b := .append) (xs := #[.tmp 67, .tmp 68]) rfl ?_); at_builtin; refine Kd.R_append_rows (Kd.int .i32) (w0 := w) w.heap.size rfl (.tmp 67) (.tmp 68) 22 24 (.int .i32 0) 4 rfl Try.underlying22 info24 rfl (by decide) (by omega) v186 t185 t172 _ _ _ (fun k_ => some k_ ≠ (.slice Ao25 t163.length co25 : Value).ownBlock ∧ some k_ ≠ (.slice Ao26 t166.length co26 : Value).ownBlock ∧ some k_ ≠ (.slice Ao28 t169.length co28 : Value).ownBlock ∧ some k_ ≠ (.slice Ao29 t172.length co29 : Value).ownBlock ∧ some k_ ≠ (v183 : Value).ownBlock) (fun _ => False) rfl rfl ?aO ?aR (fun _ _ h => h) (fun _ h => h.elim) ?aF ?aB ?aS ?aL ?_; (case aR => repeat (first | exact (Kd.R_reads' HO174.out).2.2 | (with_reducible refine Kd.C_alloc ?_ _) | (with_reducible refine Kd.C_drewN ?_ _) | (with_reducible refine Kd.C_drew ?_))); (case aB => exact (by repeat (first | (with_reducible first | exact HB.out | apply below_alloc | apply pw_below_drewN | apply below_drew1) | exact HB.out))); (case aF => exact (fun k_ hk => ⟨Kd.fresh' (Kd.R_lt (by (with_reducible repeat (first | apply Kd.R_alloc | apply Kd.R_drewN | apply Kd.R_drew)); exact HO165.out)) k_ hk, Kd.fresh' (Kd.R_lt (by (with_reducible repeat (first | apply Kd.R_alloc | apply Kd.R_drewN | apply Kd.R_drew)); exact HO168.out)) k_ hk, Kd.fresh' (Kd.R_lt (by (with_reducible repeat (first | apply Kd.R_alloc | apply Kd.R_drewN | apply Kd.R_drew)); exact HO171.out)) k_ hk, Kd.fresh' (Kd.R_lt (by (with_reducible repeat (first | apply Kd.R_alloc | apply Kd.R_drewN | apply Kd.R_drew)); exact HO174.out)) k_ hk, Kd.fresh' (Kd.R_lt (by (with_reducible repeat (first | apply Kd.R_alloc | apply Kd.R_drewN | apply Kd.R_drew)); exact HO184.out)) k_ hk⟩)); (case aO => exact (by (with_reducible repeat (first | apply Kd.R_alloc | apply Kd.R_drewN | apply Kd.R_drew)); exact Kd.R_mono HO187.out (fun _ hk => ⟨hk.1.1.1.1.2, ⟨hk.1.1.1.2, ⟨hk.1.1.2, ⟨hk.1.2, hk.2⟩⟩⟩⟩))); (case aS => exact (below_size (by repeat (first | (with_reducible first | exact HB.out | apply below_alloc | apply pw_below_drewN | apply below_drew1) | exact HB.out)))); (case aL => have := LMc18.out; omega); intro v189 w34 ho hb hg hat; rw [← Ny188.out] at ho; have n0_ := Aside0.mk (Kd.R_after (ok := (fun k_ => some k_ ≠ (.slice Ao26 t166.length co26 : Value).ownBlock ∧ some k_ ≠ (.slice Ao28 t169.length co28 : Value).ownBlock ∧ some k_ ≠ (.slice Ao29 t172.length co29 : Value).ownBlock ∧ some k_ ≠ (v183 : Value).ownBlock)) (by (with_reducible repeat (first | apply Kd.R_alloc | apply Kd.R_drewN | apply Kd.R_drew)); exact Kd.R_mono HO165.out (fun _ hk => ⟨⟨hk.1.1.1, ⟨hk.1.1.2.1, ⟨hk.1.1.2.2, hk.1.2⟩⟩⟩, hk.2⟩)) hg hat); have n1_ := Aside0.mk (Kd.R_after (ok := (fun k_ => some k_ ≠ (.slice Ao25 t163.length co25 : Value).ownBlock ∧ some k_ ≠ (.slice Ao28 t169.length co28 : Value).ownBlock ∧ some k_ ≠ (.slice Ao29 t172.length co29 : Value).ownBlock ∧ some k_ ≠ (v183 : Value).ownBlock)) (by (with_reducible repeat (first | apply Kd.R_alloc | apply Kd.R_drewN | apply Kd.R_drew)); exact Kd.R_mono HO168.out (fun _ hk => ⟨⟨hk.1.1.1, ⟨hk.1.1.2.1, ⟨hk.1.1.2.2, hk.1.2⟩⟩⟩, hk.2⟩)) hg hat); have n2_ := Aside0.mk (Kd.R_after (ok := (fun k_ => some k_ ≠ (.slice Ao25 t163.length co25 : Value).ownBlock ∧ some k_ ≠ (.slice Ao26 t166.length co26 : Value).ownBlock ∧ some k_ ≠ (.slice Ao29 t172.length co29 : Value).ownBlock ∧ some k_ ≠ (v183 : Value).ownBlock)) (by (with_reducible repeat (first | apply Kd.R_alloc | apply Kd.R_drewN | apply Kd.R_drew)); exact Kd.R_mono HO171.out (fun _ hk => ⟨⟨hk.1.1.1, ⟨hk.1.1.2.1, ⟨hk.1.1.2.2, hk.1.2⟩⟩⟩, hk.2⟩)) hg hat); have n3_ := Aside0.mk (Kd.R_after (ok := (fun k_ => some k_ ≠ (.slice Ao25 t163.length co25 : Value).ownBlock ∧ some k_ ≠ (.slice Ao26 t166.length co26 : Value).ownBlock ∧ some k_ ≠ (.slice Ao28 t169.length co28 : Value).ownBlock ∧ some k_ ≠ (v183 : Value).ownBlock)) (by (with_reducible repeat (first | apply Kd.R_alloc | apply Kd.R_drewN | apply Kd.R_drew)); exact Kd.R_mono HO174.out (fun _ hk => ⟨⟨hk.1.1.1, ⟨hk.1.1.2.1, ⟨hk.1.1.2.2, hk.1.2⟩⟩⟩, hk.2⟩)) hg hat); have n4_ := Aside0.mk (Kd.R_after (ok := (fun k_ => some k_ ≠ (.slice Ao25 t163.length co25 : Value).ownBlock ∧ some k_ ≠ (.slice Ao26 t166.length co26 : Value).ownBlock ∧ some k_ ≠ (.slice Ao28 t169.length co28 : Value).ownBlock ∧ some k_ ≠ (.slice Ao29 t172.length co29 : Value).ownBlock)) (by (with_reducible repeat (first | apply Kd.R_alloc | apply Kd.R_drewN | apply Kd.R_drew)); exact HO184.out) hg hat); have n5_ := Aside0.mk (hb); have n6_ := Aside0.mk (ho); clear HO165; clear HO168; clear HO171; clear HO174; clear HO184; clear HB; clear HO187; have HO165 := n0_; have HO168 := n1_; have HO171 := n2_; have HO174 := n3_; have HO184 := n4_; have HB := n5_; have HO190 := n6_; clear n0_ n1_ n2_ n3_ n4_ n5_ n6_; clear ho hb hg hat; obtain ⟨Ao35, co35, eo35⟩ := Kd.R_slice HO184.out; subst eo35; obtain ⟨Ao36, co36, eo36⟩ := Kd.R_slice HO190.out; subst eo36) | ((with_reducible refine gate_callee (f := 14) rfl ?_); refine goesL_ (some 70) rfl rfl Try.func14 (by kernel_rfl) rfl #[.slice Ao35 y182.length co35, .slice Ao36 y188.length co36] rfl (by (try simp only [List.map_toArray, List.map_cons, List.map_nil]); first | done | rfl | (simp only [List.length_drop, List.length_take]; rfl)) ?_; (with_reducible refine (vec_Dot.calls k _ _ y182 _ _ y188 t191 t192 _ ?side1 ?side2 ?side3 ?side4 A19.out).mono ?_); (case side1 => repeat (first | exact (Kd.R_reads' HO184.out).2.2 | (with_reducible refine Kd.C_alloc ?_ _) | (with_reducible refine Kd.C_drewN ?_ _) | (with_reducible refine Kd.C_drew ?_))); (case side2 => exact (Kd.R_reads' HO184.out).2.1); (case side3 => repeat (first | exact (Kd.R_reads' HO190.out).2.2 | (with_reducible refine Kd.C_alloc ?_ _) | (with_reducible refine Kd.C_drewN ?_ _) | (with_reducible refine Kd.C_drew ?_))); (case side4 => exact (Kd.R_reads' HO190.out).2.1); rintro e w37 ⟨rfl, hb⟩; refine ⟨_, rfl, ?_⟩; have n0_ := Aside0.mk (Kd.R_below (by (with_reducible repeat (first | apply Kd.R_alloc | apply Kd.R_drewN | apply Kd.R_drew)); exact HO165.out) hb); have n1_ := Aside0.mk (Kd.R_below (by (with_reducible repeat (first | apply Kd.R_alloc | apply Kd.R_drewN | apply Kd.R_drew)); exact HO168.out) hb); have n2_ := Aside0.mk (Kd.R_below (by (with_reducible repeat (first | apply Kd.R_alloc | apply Kd.R_drewN | apply Kd.R_drew)); exact HO171.out) hb); have n3_ := Aside0.mk (Kd.R_below (by (with_reducible repeat (first | apply Kd.R_alloc | apply Kd.R_drewN | apply Kd.R_drew)); exact HO174.out) hb); have n4_ := Aside0.mk (Kd.R_below (by (with_reducible repeat (first | apply Kd.R_alloc | apply Kd.R_drewN | apply Kd.R_drew)); exact HO184.out) hb); have n5_ := Aside0.mk (Kd.R_below (by (with_reducible repeat (first | apply Kd.R_alloc | apply Kd.R_drewN | apply Kd.R_drew)); exact HO190.out) hb); have n6_ := Aside0.mk (below_step (by repeat (first | (with_reducible first | exact HB.out | apply below_alloc | apply pw_below_drewN | apply below_drew1) | exact HB.out)) hb); clear HO165; clear HO168; clear HO171; clear HO174; clear HO184; clear HO190; clear HB; have HO165 := n0_; have HO168 := n1_; have HO171 := n2_; have HO174 := n3_; have HO184 := n4_; have HO190 := n5_; have HB := n6_; clear n0_ n1_ n2_ n3_ n4_ n5_ n6_; (try clear hb); (try clear hb2); (try clear hk); (try clear hi)))
   (try simp only [Act.put, List.setIfInBounds_toArray, List.set_cons_zero, List.set_cons_succ])
   go_cut [82] (fun v82 wc => ∃ (kq : Nat) (x82_19 : Bool), v82 = .bool x82_19 ∧ Aside0 (tillerlaw03_VecJoined.j0 kq t163 t175 t177 t191 x82_19 = some r) ∧ Aside0 (kq ≤ k) ∧ Aside0 (Kd.R (Kd.int .i32) 24 wc w.heap.size (fun _ => True) (.slice Ao25 t163.length co25) t163) ∧ Aside0 (Below w.heap.size w wc))
   case first =>
    have H := HC20.out
    clear HC20
    by_cases c38 : t176 = 0
    ·rw [if_pos c38] at H
     have c38b0 : (t176 == 0) = true := beq_iff_eq.mpr c38
     have c38b1 : (t176 != 0) = false := bne_eq_false_iff_eq.mpr c38
     clear c38
     (first | rw [c38b0] | (simp only [i64_w, i32_w]; rw [c38b0]) | skip)
     by_cases c39 : t178 = 0
     ·rw [if_pos c39] at H
      have c39b0 : (t178 == 0) = true := beq_iff_eq.mpr c39
      have c39b1 : (t178 != 0) = false := bne_eq_false_iff_eq.mpr c39
      clear c39
      have H' := Aside0.mk H
      clear H
      go_wp2
      go_meet
      case rel => exact ⟨_, ((t192 != 0)), (by first | rfl | (simp; done) | (simp [*]; done)), H', ⟨by first | omega | exact Nat.le_refl _⟩, ⟨by (with_reducible repeat (first | apply Kd.R_alloc | apply Kd.R_drewN | apply Kd.R_drew)); exact Kd.R_mono HO165.out (fun _ hk => trivial)⟩, ⟨by repeat (first | (with_reducible first | exact HB.out | apply below_alloc | apply pw_below_drewN | apply below_drew1) | exact HB.out)⟩⟩
     ·rw [if_neg c39] at H
      have c39b0 : (t178 == 0) = false := beq_eq_false_iff_ne.mpr c39
      have c39b1 : (t178 != 0) = true := bne_iff_ne.mpr c39
      have H' := Aside0.mk H
      clear H
      go_wp2
      go_meet
      case rel => exact ⟨_, (true), (by first | rfl | (simp; done) | (simp [*]; done)), H', ⟨by first | omega | exact Nat.le_refl _⟩, ⟨by (with_reducible repeat (first | apply Kd.R_alloc | apply Kd.R_drewN | apply Kd.R_drew)); exact Kd.R_mono HO165.out (fun _ hk => trivial)⟩, ⟨by repeat (first | (with_reducible first | exact HB.out | apply below_alloc | apply pw_below_drewN | apply below_drew1) | exact HB.out)⟩⟩
    ·rw [if_neg c38] at H
     have c38b0 : (t176 == 0) = false := beq_eq_false_iff_ne.mpr c38
     have c38b1 : (t176 != 0) = true := bne_iff_ne.mpr c38
     (first | rw [c38b0] | (simp only [i64_w, i32_w]; rw [c38b0]) | skip)
     have H' := Aside0.mk H
     clear H
     go_wp2
     go_meet
     case rel => exact ⟨_, (true), (by first | rfl | (simp; done) | (simp [*]; done)), H', ⟨by first | omega | exact Nat.le_refl _⟩, ⟨by (with_reducible repeat (first | apply Kd.R_alloc | apply Kd.R_drewN | apply Kd.R_drew)); exact Kd.R_mono HO165.out (fun _ hk => trivial)⟩, ⟨by repeat (first | (with_reducible first | exact HB.out | apply below_alloc | apply pw_below_drewN | apply below_drew1) | exact HB.out)⟩⟩
   case rest =>
    clear HC20
    try clear c1
    try clear c2
    try clear p2
    try clear c3
    try clear c4
    try clear c13
    try clear c14
    try clear c16
    try clear c18
    try clear c20
    try clear c38
    try clear c38b0
    try clear c38b1
    try clear c39
    try clear c39b0
    try clear c39b1
    obtain ⟨kq, x82_19, rfl, HA, HJ19, HO_11, HB⟩ := hcut
    cases kq with
    | zero => exact absurd HA.out (by simp [tillerlaw03_VecJoined.j0])
    | succ kj19 =>
     have H := HA.out
     clear HA
     simp only [tillerlaw03_VecJoined.j0] at H
     by_cases c40 : x82_19 = true
     ·subst c40
      have H1 : (some false) = some r := by rw [if_pos rfl] at H; exact H
      clear H
      have H := H1
      clear H1
      exact absurd (Option.some.inj H) (by rw [hr_.out]; decide)
     ·replace c40 := Bool.eq_false_iff.mpr c40
      subst c40
      have H1 : ((vec_Argmax.f kj19 t163).bind fun t193 => (tillerlaw03_VecJoined.l0 kj19 t163 (wrap64 ((wrap64 ((wrap64 (t191)) - (wrap64 (t175)))) - (wrap64 (t177)))) t193 t163 (t163.length : Int) 0)) = some r := by rw [if_neg (show ¬ (false = true) by decide)] at H; exact H
      clear H
      have H := H1
      clear H1
      replace H := Option.bind_eq_some_iff.mp H
      obtain ⟨t193, A410, H⟩ := H
      replace H : (tillerlaw03_VecJoined.l0 kj19 t163 (wrap64 ((wrap64 ((wrap64 (t191)) - (wrap64 (t175)))) - (wrap64 (t177)))) t193 t163 (t163.length : Int) 0) = some r := H
      have A41 := Aside0.mk A410
      clear A410
      have H' := Aside0.mk H
      clear H
      go_wp2_with (first | ((with_reducible refine gate_callee (f := 21) rfl ?_); refine goesL_ (some 92) rfl rfl Try.func21 (by kernel_rfl) rfl #[.slice Ao25 t163.length co25] rfl (by (try simp only [List.map_toArray, List.map_cons, List.map_nil]); first | done | rfl | (simp only [List.length_drop, List.length_take]; rfl)) ?_; (with_reducible refine (vec_Argmax.calls kj19 _ _ t163 t193 _ ?side1 ?side2 A41.out).mono ?_); (case side1 => repeat (first | exact (Kd.R_reads' HO_11.out).2.2 | (with_reducible refine Kd.C_alloc ?_ _) | (with_reducible refine Kd.C_drewN ?_ _) | (with_reducible refine Kd.C_drew ?_))); (case side2 => exact (Kd.R_reads' HO_11.out).2.1); rintro e w42 ⟨rfl, hb⟩; refine ⟨_, rfl, ?_⟩; have n0_ := Aside0.mk (Kd.R_below (by (with_reducible repeat (first | apply Kd.R_alloc | apply Kd.R_drewN | apply Kd.R_drew)); exact HO_11.out) hb); have n1_ := Aside0.mk (below_step (by repeat (first | (with_reducible first | exact HB.out | apply below_alloc | apply pw_below_drewN | apply below_drew1) | exact HB.out)) hb); clear HO_11; clear HB; have HO_11 := n0_; have HB := n1_; clear n0_ n1_; (try clear hb); (try clear hb2); (try clear hk); (try clear hi)))
      go_loopg [95] kj19 (fun kq v95 w' => ∃ (x95_2 : Int), v95 = .int .i64 x95_2 ∧ Aside0 (tillerlaw03_VecJoined.l0 kq t163 (wrap64 ((wrap64 ((wrap64 (t191)) - (wrap64 (t175)))) - (wrap64 (t177)))) t193 t163 (t163.length : Int) x95_2 = some r) ∧ Aside0 (kq ≤ kj19) ∧ Aside0 (Kd.R (Kd.int .i32) 24 w' w.heap.size (fun _ => True) (.slice Ao25 t163.length co25) t163) ∧ Aside0 (Kd.R (Kd.int .i32) 24 w' w.heap.size (fun _ => True) (.slice Ao25 t163.length co25) t163) ∧ Aside0 (Below w.heap.size w w'))
      case atStart => exact ⟨(0), (by first | rfl | (simp; done) | (simp [*]; done)), H', ⟨Nat.le_refl _⟩, ⟨by (with_reducible repeat (first | apply Kd.R_alloc | apply Kd.R_drewN | apply Kd.R_drew)); exact HO_11.out⟩, ⟨by (with_reducible repeat (first | apply Kd.R_alloc | apply Kd.R_drewN | apply Kd.R_drew)); exact HO_11.out⟩, ⟨by repeat (first | (with_reducible first | exact HB.out | apply below_alloc | apply pw_below_drewN | apply below_drew1) | exact HB.out)⟩⟩
      case round =>
       clear H'
       try clear c1
       try clear c2
       try clear p2
       try clear c3
       try clear c4
       try clear p6
       try clear c13
       try clear c14
       try clear c16
       try clear c18
       try clear c20
       try clear c21
       try clear c38
       try clear c38b0
       try clear c38b1
       try clear c39
       try clear c39b0
       try clear c39b1
       try clear c40
       try clear p2
       obtain ⟨x95_2, rfl, HA, HK2, HO_11, HO_93, HB⟩ := hrel
       cases gk with
       | zero => exact absurd HA.out (by simp [tillerlaw03_VecJoined.l0])
       | succ k2 =>
        have H := HA.out
        clear HA
        simp only [tillerlaw03_VecJoined.l0] at H
        by_cases c43 : x95_2 < (t163.length : Int)
        ·rw [if_pos c43] at H
         have c43b0 : decide (x95_2 < (t163.length : Int)) = true := decide_eq_true c43
         clear c43
         by_cases c44 : 0 ≤ x95_2
         ·rw [if_pos c44] at H
          have c44b0 : decide (0 ≤ x95_2) = true := decide_eq_true c44
          clear c44
          by_cases c45 : x95_2 < (t163.length : Int)
          ·rw [if_pos c45] at H
           have c45b0 : decide (x95_2 < (t163.length : Int)) = true := decide_eq_true c45
           clear c45
           by_cases c46 : t193 < 0
           ·rw [if_pos c46] at H
            exact absurd (Option.some.inj H) (by rw [hr_.out]; decide)
           ·rw [if_neg c46] at H
            have c46b0 : decide (t193 < 0) = false := decide_eq_false c46
            clear c46
            by_cases c47 : 0 ≤ t193
            ·rw [if_pos c47] at H
             have c47b0 : decide (0 ≤ t193) = true := decide_eq_true c47
             clear c47
             by_cases c48 : t193 < (t163.length : Int)
             ·rw [if_pos c48] at H
              have c48b0 : decide (t193 < (t163.length : Int)) = true := decide_eq_true c48
              clear c48
              by_cases c49 : (rd t163 x95_2) > (rd t163 t193)
              ·rw [if_pos c49] at H
               exact absurd (Option.some.inj H) (by rw [hr_.out]; decide)
              ·rw [if_neg c49] at H
               have c49b0 : decide ((rd t163 t193) < (rd t163 x95_2)) = false := decide_eq_false c49
               clear c49
               by_cases c50 : x95_2 < t193
               ·rw [if_pos c50] at H
                have c50b0 : decide (x95_2 < t193) = true := decide_eq_true c50
                clear c50
                by_cases c51 : (rd t163 x95_2) = (rd t163 t193)
                ·rw [if_pos c51] at H
                 exact absurd (Option.some.inj H) (by rw [hr_.out]; decide)
                ·rw [if_neg c51] at H
                 have c51b0 : ((rd t163 x95_2) == (rd t163 t193)) = false := beq_eq_false_iff_ne.mpr c51
                 have c51b1 : ((rd t163 x95_2) != (rd t163 t193)) = true := bne_iff_ne.mpr c51
                 have H' := Aside0.mk H
                 clear H
                 have p194 : 0 ≤ (x95_2 : Int) := ofd_
                 have q194 : x95_2 < (t163.length : Int) := ofd_
                 (first | obtain ⟨ad194, e194, hx194_0⟩ := Kd.at_int (Kd.R_reads' HO_93.out).2.2 x95_2 p194 q194 | (obtain ⟨Az_, cz_, ez_⟩ := Kd.R_slice HO_93.out; subst ez_; obtain ⟨ad194, e194, hx194_0⟩ := Kd.at_int (Kd.R_reads' HO_93.out).2.2 x95_2 p194 q194))
                 cases e194
                 replace p194 := eq_true p194
                 replace q194 := eq_true q194
                 have p195 : 0 ≤ (t193 : Int) := ofd_
                 have q195 : t193 < (t163.length : Int) := ofd_
                 (first | obtain ⟨ad195, e195, hx195_0⟩ := Kd.at_int (Kd.R_reads' HO_11.out).2.2 t193 p195 q195 | (obtain ⟨Az_, cz_, ez_⟩ := Kd.R_slice HO_11.out; subst ez_; obtain ⟨ad195, e195, hx195_0⟩ := Kd.at_int (Kd.R_reads' HO_11.out).2.2 t193 p195 q195))
                 obtain rfl : ad194 = ad195 := (by injection e195)
                 replace p195 := eq_true p195
                 replace q195 := eq_true q195
                 have p196 : 0 ≤ (t193 : Int) := ofd_
                 have q196 : t193 < (t163.length : Int) := ofd_
                 (first | obtain ⟨ad196, e196, hx196_0⟩ := Kd.at_int (Kd.R_reads' HO_11.out).2.2 t193 p196 q196 | (obtain ⟨Az_, cz_, ez_⟩ := Kd.R_slice HO_11.out; subst ez_; obtain ⟨ad196, e196, hx196_0⟩ := Kd.at_int (Kd.R_reads' HO_11.out).2.2 t193 p196 q196))
                 obtain rfl : ad194 = ad196 := (by injection e196)
                 replace p196 := eq_true p196
                 replace q196 := eq_true q196
                 go_wp2
                 go_roundg k2
                 case measure => have := HJ19.out; have := HK2.out; omega
                 case rel => exact ⟨(wrap64 (x95_2 + 1)), (by first | rfl | (simp; done) | (simp [*]; done)), H', ⟨by have := HJ19.out; have := HK2.out; omega⟩, ⟨by (with_reducible repeat (first | apply Kd.R_alloc | apply Kd.R_drewN | apply Kd.R_drew)); exact HO_11.out⟩, ⟨by (with_reducible repeat (first | apply Kd.R_alloc | apply Kd.R_drewN | apply Kd.R_drew)); exact HO_93.out⟩, ⟨by repeat (first | (with_reducible first | exact HB.out | apply below_alloc | apply pw_below_drewN | apply below_drew1) | exact HB.out)⟩⟩
               ·rw [if_neg c50] at H
                have c50b0 : decide (x95_2 < t193) = false := decide_eq_false c50
                clear c50
                have H' := Aside0.mk H
                clear H
                have p194 : 0 ≤ (x95_2 : Int) := ofd_
                have q194 : x95_2 < (t163.length : Int) := ofd_
                (first | obtain ⟨ad194, e194, hx194_0⟩ := Kd.at_int (Kd.R_reads' HO_93.out).2.2 x95_2 p194 q194 | (obtain ⟨Az_, cz_, ez_⟩ := Kd.R_slice HO_93.out; subst ez_; obtain ⟨ad194, e194, hx194_0⟩ := Kd.at_int (Kd.R_reads' HO_93.out).2.2 x95_2 p194 q194))
                cases e194
                replace p194 := eq_true p194
                replace q194 := eq_true q194
                have p195 : 0 ≤ (t193 : Int) := ofd_
                have q195 : t193 < (t163.length : Int) := ofd_
                (first | obtain ⟨ad195, e195, hx195_0⟩ := Kd.at_int (Kd.R_reads' HO_11.out).2.2 t193 p195 q195 | (obtain ⟨Az_, cz_, ez_⟩ := Kd.R_slice HO_11.out; subst ez_; obtain ⟨ad195, e195, hx195_0⟩ := Kd.at_int (Kd.R_reads' HO_11.out).2.2 t193 p195 q195))
                obtain rfl : ad194 = ad195 := (by injection e195)
                replace p195 := eq_true p195
                replace q195 := eq_true q195
                go_wp2
                go_roundg k2
                case measure => have := HJ19.out; have := HK2.out; omega
                case rel => exact ⟨(wrap64 (x95_2 + 1)), (by first | rfl | (simp; done) | (simp [*]; done)), H', ⟨by have := HJ19.out; have := HK2.out; omega⟩, ⟨by (with_reducible repeat (first | apply Kd.R_alloc | apply Kd.R_drewN | apply Kd.R_drew)); exact HO_11.out⟩, ⟨by (with_reducible repeat (first | apply Kd.R_alloc | apply Kd.R_drewN | apply Kd.R_drew)); exact HO_93.out⟩, ⟨by repeat (first | (with_reducible first | exact HB.out | apply below_alloc | apply pw_below_drewN | apply below_drew1) | exact HB.out)⟩⟩
             ·rw [if_neg c48] at H
              exact absurd H (by simp)
            ·rw [if_neg c47] at H
             exact absurd H (by simp)
          ·rw [if_neg c45] at H
           exact absurd H (by simp)
         ·rw [if_neg c44] at H
          exact absurd H (by simp)
        ·rw [if_neg c43] at H
         have c43b0 : decide (x95_2 < (t163.length : Int)) = false := decide_eq_false c43
         clear c43
         replace H := Option.bind_eq_some_iff.mp H
         obtain ⟨t197, A520, H⟩ := H
         replace H : (if t197 = true then (if (wrap64 ((wrap64 ((wrap64 (t191)) - (wrap64 (t175)))) - (wrap64 (t177)))) ≥ (-1) then (some (decide ((wrap64 ((wrap64 ((wrap64 (t191)) - (wrap64 (t175)))) - (wrap64 (t177)))) ≤ 1))) else (some false)) else (some false)) = some r := H
         have A52 := Aside0.mk A520
         clear A520
         by_cases c53 : t197 = true
         ·subst c53
          have H1 : (if (wrap64 ((wrap64 ((wrap64 (t191)) - (wrap64 (t175)))) - (wrap64 (t177)))) ≥ (-1) then (some (decide ((wrap64 ((wrap64 ((wrap64 (t191)) - (wrap64 (t175)))) - (wrap64 (t177)))) ≤ 1))) else (some false)) = some r := by rw [if_pos rfl] at H; exact H
          clear H
          have H := H1
          clear H1
          by_cases c54 : (wrap64 ((wrap64 ((wrap64 (t191)) - (wrap64 (t175)))) - (wrap64 (t177)))) ≥ (-1)
          ·rw [if_pos c54] at H
           have c54b0 : decide ((-1) ≤ (wrap64 ((wrap64 ((wrap64 (t191)) - (wrap64 (t175)))) - (wrap64 (t177))))) = true := decide_eq_true c54
           clear c54
           obtain rfl := Option.some.inj H
           go_wp2_with (first | ((with_reducible refine gate_callee (f := 16) rfl ?_); refine goesL_ (some 124) rfl rfl Try.func16 (by kernel_rfl) rfl #[] rfl (by (try simp only [List.map_toArray, List.map_cons, List.map_nil]); first | done | rfl | (simp only [List.length_drop, List.length_take]; rfl)) ?_; (with_reducible refine (tillerlaw03_awake.calls k2  true _ A52.out).mono ?_); rintro e w55 ⟨rfl, hb⟩; refine ⟨_, rfl, ?_⟩; have n0_ := Aside0.mk (Kd.R_below (by (with_reducible repeat (first | apply Kd.R_alloc | apply Kd.R_drewN | apply Kd.R_drew)); exact HO_11.out) hb); have n1_ := Aside0.mk (Kd.R_below (by (with_reducible repeat (first | apply Kd.R_alloc | apply Kd.R_drewN | apply Kd.R_drew)); exact HO_93.out) hb); have n2_ := Aside0.mk (below_step (by repeat (first | (with_reducible first | exact HB.out | apply below_alloc | apply pw_below_drewN | apply below_drew1) | exact HB.out)) hb); clear HO_11; clear HO_93; clear HB; have HO_11 := n0_; have HO_93 := n1_; have HB := n2_; clear n0_ n1_ n2_; (try clear hb); (try clear hb2); (try clear hk); (try clear hi)))
           go_ret
           exact ⟨by first | rfl | (simp [errW_none, errW_some] <;> rfl) | (simp only [← hji5, ← hji6, ← hji7, ← hji8]; first | rfl | (simp [errW_none, errW_some] <;> rfl)) | (simp [*, errW_none, errW_some] <;> rfl), by repeat (first | (with_reducible first | exact HB.out | apply below_alloc | apply pw_below_drewN | apply below_drew1) | exact HB.out)⟩
          ·rw [if_neg c54] at H
           exact absurd (Option.some.inj H) (by rw [hr_.out]; decide)
         ·replace c53 := Bool.eq_false_iff.mpr c53
          subst c53
          have H1 : (some false) = some r := by rw [if_neg (show ¬ (false = true) by decide)] at H; exact H
          clear H
          have H := H1
          clear H1
          exact absurd (Option.some.inj H) (by rw [hr_.out]; decide)
  ·rw [if_neg c18] at H
   exact absurd H (by simp)
 ·rw [if_neg c16] at H
  exact absurd H (by simp)

/-! ### fix_Add: function 49 -/
def fix_Add.f (a0 : Int) (a1 : Int) : Option (Int) := (fix_Sat.f (wrap64 ((wrap64 (a0)) + (wrap64 (a1))))).bind fun t198 => (some t198)
set_option maxHeartbeats 8000000 in
set_option maxRecDepth 100000 in
theorem fix_Add.calls (a0 : Int) (a1 : Int) (r : Int) (w : World) (h : fix_Add.f a0 a1 = some r) :
  Calls Try.prog 49 #[.int .i32 a0, .int .i32 a1] w fun e w' => e = .returned (.int .i32 r) ∧ Below w.heap.size w w' := by
 have HB := Aside0.mk (Below.refl w.heap.size w)
 have H : ((fix_Sat.f (wrap64 ((wrap64 (a0)) + (wrap64 (a1))))).bind fun t198 => (some t198)) = some r := h
 clear h
 replace H := Option.bind_eq_some_iff.mp H
 obtain ⟨t198, A30, H⟩ := H
 replace H : (some t198) = some r := H
 have A3 := Aside0.mk A30
 clear A30
 obtain rfl := Option.some.inj H
 go_enter Try.func49, Try.ntmps49
 go_wp2_with (first | ((with_reducible refine gate_callee (f := 44) rfl ?_); refine goesL_ (some 10) rfl rfl Try.func44 (by kernel_rfl) rfl #[.int .i64 (wrap64 ((wrap64 (a0)) + (wrap64 (a1))))] rfl (by (try simp only [List.map_toArray, List.map_cons, List.map_nil]); first | done | rfl | (simp only [List.length_drop, List.length_take]; rfl)) ?_; (with_reducible refine (fix_Sat.calls (wrap64 ((wrap64 (a0)) + (wrap64 (a1)))) t198 _ A3.out).mono ?_); rintro e w4 ⟨rfl, hb⟩; refine ⟨_, rfl, ?_⟩; have n0_ := Aside0.mk (below_step (by repeat (first | (with_reducible first | exact HB.out | apply below_alloc | apply pw_below_drewN | apply below_drew1) | exact HB.out)) hb); clear HB; have HB := n0_; clear n0_; (try clear hb); (try clear hb2); (try clear hk); (try clear hi)))
 go_ret
 exact ⟨by first | rfl | (simp [errW_none, errW_some] <;> rfl) | (simp [*, errW_none, errW_some] <;> rfl), by repeat (first | (with_reducible first | exact HB.out | apply below_alloc | apply pw_below_drewN | apply below_drew1) | exact HB.out)⟩

end Go.Proofs.Ytefimleoffaggaa.GQ
