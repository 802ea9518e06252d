-- written by this session's program gprint.py
import Derived.Test.YtnhapgenebcjmaaGQx0
import Derived.Test.YtnhapgenebcjmaaGQx1
import Derived.Test.YtnhapgenebcjmaaGQx2
import Derived.Test.YtnhapgenebcjmaaWLast
import Derived.Test.YtnhapgenebcjmaaWMore
import Derived.Test.YtnhapgenebcjmaaWWords
namespace Go.Proofs.Ytnhapgenebcjmaa.GQ
open Go.RowKit Go.Proofs.YtnhapgenebcjmaaW.PrintWords Go.Proofs.YtnhapgenebcjmaaW.PrintLast Go.Proofs.YtnhapgenebcjmaaW.PrintMore Go.Proofs.Ytnhapgenebcjmaa.GText
attribute [local go_sem] max2_int min2_int max_two min_two max_three min_three max_four min_four   -- for this text's walks alone
set_option linter.unusedVariables false
set_option linter.unusedSimpArgs false

/-! ### tillerlaw01_FixRing: function 5 -/
def tillerlaw01_FixRing.j0 : Nat → Int → Int → Int → Bool → Option (Bool)
 | 0, _, _, _, _ => none
 | k + 1, x0, x1, x2, x44 => if x44 = true then (some false) else ((fix_Sub.f 0 x0).bind fun t148 => ((fix_Mul.f k t148 x1).bind fun t149 => ((fix_Sat.f (wrap64 (x0))).bind fun t150 => ((fix_Mul.f k t150 x1).bind fun t151 => ((fix_Sub.f 0 t151).bind fun t152 => (if t149 = t152 then ((tillerlaw01_awake.f k).bind fun t153 => (if t153 = true then (if x0 > x1 then (some true) else ((fix_Add.f x0 x2).bind fun t154 => ((fix_Add.f x1 x2).bind fun t155 => (if t154 ≤ t155 then (if x2 < 0 then (some true) else ((fix_Mul.f k x0 x2).bind fun t156 => ((fix_Mul.f k x1 x2).bind fun t157 => (some (decide (t156 ≤ t157)))))) else (some false))))) else (some false))) else (some false)))))))
def tillerlaw01_FixRing.f (k : Nat) (a0 : Int) (a1 : Int) (a2 : Int) : Option (Bool) := (fix_Add.f a0 a1).bind fun t140 => ((fix_Add.f a1 a0).bind fun t141 => (if t140 = t141 then ((fix_Mul.f k a0 a1).bind fun t142 => ((fix_Mul.f k a1 a0).bind fun t143 => (if t142 = t143 then ((fix_Add.f a0 0).bind fun t144 => ((fix_Sat.f (wrap64 (a0))).bind fun t145 => (if t144 = t145 then ((fix_Mul.f k a0 65536).bind fun t146 => (if t146 = t145 then ((fix_Sub.f a0 a0).bind fun t147 => (tillerlaw01_FixRing.j0 k a0 a1 a2 (t147 != 0))) else (tillerlaw01_FixRing.j0 k a0 a1 a2 true))) else (tillerlaw01_FixRing.j0 k a0 a1 a2 true)))) else (tillerlaw01_FixRing.j0 k a0 a1 a2 true)))) else (tillerlaw01_FixRing.j0 k a0 a1 a2 true)))
theorem tillerlaw01_FixRing.mono_l : ∀ k, (∀ y0 y1 y2 y3, LeO (tillerlaw01_FixRing.j0 k y0 y1 y2 y3) (tillerlaw01_FixRing.j0 (k + 1) y0 y1 y2 y3))
 | 0 => fun _ _ _ _ r h => by simp [tillerlaw01_FixRing.j0] at h
 | k + 1 => by
  have ih0 := tillerlaw01_FixRing.mono_l k
  ·intro y0 y1 y2 y3
   unfold tillerlaw01_FixRing.j0
   repeat' first
   | (with_reducible exact ih0 _ _ _ _)
   | (with_reducible exact fix_Mul.mono _ _ _)
   | (with_reducible exact tillerlaw01_awake.mono _)
   | (with_reducible exact LeO.refl _)
   | (with_reducible exact LeO.none _)
   | (with_reducible refine LeO.ite ?_ ?_)
   | (with_reducible refine LeO.bind ?_ (fun _ => ?_))
   | exact ih0 _ _ _ _
   | exact fix_Mul.mono _ _ _
   | exact tillerlaw01_awake.mono _
   | exact LeO.none _
   | refine LeO.ite ?_ ?_
   | refine LeO.bind ?_ (fun _ => ?_)
theorem tillerlaw01_FixRing.mono : ∀ a0 a1 a2 k, LeO (tillerlaw01_FixRing.f k a0 a1 a2) (tillerlaw01_FixRing.f (k + 1) a0 a1 a2) := by
 intro a0 a1 a2 k
 have ih0 := tillerlaw01_FixRing.mono_l k
 unfold tillerlaw01_FixRing.f
 repeat' first
   | (with_reducible exact ih0 _ _ _ _)
   | (with_reducible exact fix_Mul.mono _ _ _)
   | (with_reducible exact tillerlaw01_awake.mono _)
   | (with_reducible exact LeO.refl _)
   | (with_reducible exact LeO.none _)
   | (with_reducible refine LeO.ite ?_ ?_)
   | (with_reducible refine LeO.bind ?_ (fun _ => ?_))
   | exact ih0 _ _ _ _
   | exact fix_Mul.mono _ _ _
   | exact tillerlaw01_awake.mono _
   | exact LeO.none _
   | refine LeO.ite ?_ ?_
   | refine LeO.bind ?_ (fun _ => ?_)
set_option maxHeartbeats 8000000 in
set_option maxRecDepth 100000 in
theorem tillerlaw01_FixRing.calls (k : Nat) (a0 : Int) (a1 : Int) (a2 : Int) (r : Bool) (w : World) (hr_ : Aside0 (r = true)) (h : tillerlaw01_FixRing.f k a0 a1 a2 = some r) :
  Calls Try.prog 5 #[.int .i32 a0, .int .i32 a1, .int .i32 a2] w fun e w' => e = .returned (.bool r) ∧ Below w.heap.size w w' := by
 have HB := Aside0.mk (Below.refl w.heap.size w)
 have H : ((fix_Add.f a0 a1).bind fun t140 => ((fix_Add.f a1 a0).bind fun t141 => (if t140 = t141 then ((fix_Mul.f k a0 a1).bind fun t142 => ((fix_Mul.f k a1 a0).bind fun t143 => (if t142 = t143 then ((fix_Add.f a0 0).bind fun t144 => ((fix_Sat.f (wrap64 (a0))).bind fun t145 => (if t144 = t145 then ((fix_Mul.f k a0 65536).bind fun t146 => (if t146 = t145 then ((fix_Sub.f a0 a0).bind fun t147 => (tillerlaw01_FixRing.j0 k a0 a1 a2 (t147 != 0))) else (tillerlaw01_FixRing.j0 k a0 a1 a2 true))) else (tillerlaw01_FixRing.j0 k a0 a1 a2 true)))) else (tillerlaw01_FixRing.j0 k a0 a1 a2 true)))) else (tillerlaw01_FixRing.j0 k a0 a1 a2 true)))) = some r := h
 clear h
 have HC4 := Aside0.mk H
 clear H
 go_enter Try.func5, Try.ntmps5
 go_upto_region 1 with (fail)
 go_cut [44] (fun v44 wc => ∃ (kq : Nat) (x44_3 : Bool), v44 = .bool x44_3 ∧ Aside0 (tillerlaw01_FixRing.j0 kq a0 a1 a2 x44_3 = some r) ∧ Aside0 (kq ≤ k) ∧ Aside0 (Below w.heap.size w wc))
 case first =>
  have H := HC4.out
  clear HC4
  replace H := Option.bind_eq_some_iff.mp H
  obtain ⟨t140, A50, H⟩ := H
  replace H : ((fix_Add.f a1 a0).bind fun t141 => (if t140 = t141 then ((fix_Mul.f k a0 a1).bind fun t142 => ((fix_Mul.f k a1 a0).bind fun t143 => (if t142 = t143 then ((fix_Add.f a0 0).bind fun t144 => ((fix_Sat.f (wrap64 (a0))).bind fun t145 => (if t144 = t145 then ((fix_Mul.f k a0 65536).bind fun t146 => (if t146 = t145 then ((fix_Sub.f a0 a0).bind fun t147 => (tillerlaw01_FixRing.j0 k a0 a1 a2 (t147 != 0))) else (tillerlaw01_FixRing.j0 k a0 a1 a2 true))) else (tillerlaw01_FixRing.j0 k a0 a1 a2 true)))) else (tillerlaw01_FixRing.j0 k a0 a1 a2 true)))) else (tillerlaw01_FixRing.j0 k a0 a1 a2 true))) = some r := H
  have A5 := Aside0.mk A50
  clear A50
  replace H := Option.bind_eq_some_iff.mp H
  obtain ⟨t141, A60, H⟩ := H
  replace H : (if t140 = t141 then ((fix_Mul.f k a0 a1).bind fun t142 => ((fix_Mul.f k a1 a0).bind fun t143 => (if t142 = t143 then ((fix_Add.f a0 0).bind fun t144 => ((fix_Sat.f (wrap64 (a0))).bind fun t145 => (if t144 = t145 then ((fix_Mul.f k a0 65536).bind fun t146 => (if t146 = t145 then ((fix_Sub.f a0 a0).bind fun t147 => (tillerlaw01_FixRing.j0 k a0 a1 a2 (t147 != 0))) else (tillerlaw01_FixRing.j0 k a0 a1 a2 true))) else (tillerlaw01_FixRing.j0 k a0 a1 a2 true)))) else (tillerlaw01_FixRing.j0 k a0 a1 a2 true)))) else (tillerlaw01_FixRing.j0 k a0 a1 a2 true)) = some r := H
  have A6 := Aside0.mk A60
  clear A60
  by_cases c7 : t140 = t141
  ·rw [if_pos c7] at H
   have c7b0 : (t140 == t141) = true := beq_iff_eq.mpr c7
   have c7b1 : (t140 != t141) = false := bne_eq_false_iff_eq.mpr c7
   clear c7
   (first | rw [c7b0] | (simp only [i64_w, i32_w]; rw [c7b0]) | skip)
   replace H := Option.bind_eq_some_iff.mp H
   obtain ⟨t142, A80, H⟩ := H
   replace H : ((fix_Mul.f k a1 a0).bind fun t143 => (if t142 = t143 then ((fix_Add.f a0 0).bind fun t144 => ((fix_Sat.f (wrap64 (a0))).bind fun t145 => (if t144 = t145 then ((fix_Mul.f k a0 65536).bind fun t146 => (if t146 = t145 then ((fix_Sub.f a0 a0).bind fun t147 => (tillerlaw01_FixRing.j0 k a0 a1 a2 (t147 != 0))) else (tillerlaw01_FixRing.j0 k a0 a1 a2 true))) else (tillerlaw01_FixRing.j0 k a0 a1 a2 true)))) else (tillerlaw01_FixRing.j0 k a0 a1 a2 true))) = some r := H
   have A8 := Aside0.mk A80
   clear A80
   replace H := Option.bind_eq_some_iff.mp H
   obtain ⟨t143, A90, H⟩ := H
   replace H : (if t142 = t143 then ((fix_Add.f a0 0).bind fun t144 => ((fix_Sat.f (wrap64 (a0))).bind fun t145 => (if t144 = t145 then ((fix_Mul.f k a0 65536).bind fun t146 => (if t146 = t145 then ((fix_Sub.f a0 a0).bind fun t147 => (tillerlaw01_FixRing.j0 k a0 a1 a2 (t147 != 0))) else (tillerlaw01_FixRing.j0 k a0 a1 a2 true))) else (tillerlaw01_FixRing.j0 k a0 a1 a2 true)))) else (tillerlaw01_FixRing.j0 k a0 a1 a2 true)) = some r := H
   have A9 := Aside0.mk A90
   clear A90
   by_cases c10 : t142 = t143
   ·rw [if_pos c10] at H
    have c10b0 : (t142 == t143) = true := beq_iff_eq.mpr c10
    have c10b1 : (t142 != t143) = false := bne_eq_false_iff_eq.mpr c10
    clear c10
    replace H := Option.bind_eq_some_iff.mp H
    obtain ⟨t144, A110, H⟩ := H
    replace H : ((fix_Sat.f (wrap64 (a0))).bind fun t145 => (if t144 = t145 then ((fix_Mul.f k a0 65536).bind fun t146 => (if t146 = t145 then ((fix_Sub.f a0 a0).bind fun t147 => (tillerlaw01_FixRing.j0 k a0 a1 a2 (t147 != 0))) else (tillerlaw01_FixRing.j0 k a0 a1 a2 true))) else (tillerlaw01_FixRing.j0 k a0 a1 a2 true))) = some r := H
    have A11 := Aside0.mk A110
    clear A110
    replace H := Option.bind_eq_some_iff.mp H
    obtain ⟨t145, A120, H⟩ := H
    replace H : (if t144 = t145 then ((fix_Mul.f k a0 65536).bind fun t146 => (if t146 = t145 then ((fix_Sub.f a0 a0).bind fun t147 => (tillerlaw01_FixRing.j0 k a0 a1 a2 (t147 != 0))) else (tillerlaw01_FixRing.j0 k a0 a1 a2 true))) else (tillerlaw01_FixRing.j0 k a0 a1 a2 true)) = some r := H
    have A12 := Aside0.mk A120
    clear A120
    by_cases c13 : t144 = t145
    ·rw [if_pos c13] at H
     have c13b0 : (t144 == t145) = true := beq_iff_eq.mpr c13
     have c13b1 : (t144 != t145) = false := bne_eq_false_iff_eq.mpr c13
     clear c13
     replace H := Option.bind_eq_some_iff.mp H
     obtain ⟨t146, A140, H⟩ := H
     replace H : (if t146 = t145 then ((fix_Sub.f a0 a0).bind fun t147 => (tillerlaw01_FixRing.j0 k a0 a1 a2 (t147 != 0))) else (tillerlaw01_FixRing.j0 k a0 a1 a2 true)) = some r := H
     have A14 := Aside0.mk A140
     clear A140
     by_cases c15 : t146 = t145
     ·rw [if_pos c15] at H
      have c15b0 : (t146 == t145) = true := beq_iff_eq.mpr c15
      have c15b1 : (t146 != t145) = false := bne_eq_false_iff_eq.mpr c15
      clear c15
      replace H := Option.bind_eq_some_iff.mp H
      obtain ⟨t147, A160, H⟩ := H
      replace H : (tillerlaw01_FixRing.j0 k a0 a1 a2 (t147 != 0)) = some r := H
      have A16 := Aside0.mk A160
      clear A160
      have H' := Aside0.mk H
      clear H
      go_wp2_with (first | ((with_reducible refine gate_callee (f := 18) rfl ?_); refine goesL_ (some 9) rfl rfl Try.func18 (by kernel_rfl) rfl #[.int .i32 a0, .int .i32 a1] rfl (by (try simp only [List.map_toArray, List.map_cons, List.map_nil]); first | done | rfl | (simp only [List.length_drop, List.length_take]; rfl)) ?_; (with_reducible refine (fix_Add.calls a0 a1 t140 _ A5.out).mono ?_); rintro e w17 ⟨rfl, hb⟩; refine ⟨_, rfl, ?_⟩; have n0_ := Aside0.mk (below_step (by repeat (first | (with_reducible first | exact HB.out | apply bwA | apply bwN | apply bwD) | exact HB.out)) hb); clear HB; have HB := n0_; clear n0_; (try clear hb); (try clear hb2); (try clear hk); (try clear hi)) | ((with_reducible refine gate_callee (f := 18) rfl ?_); refine goesL_ (some 12) rfl rfl Try.func18 (by kernel_rfl) rfl #[.int .i32 a1, .int .i32 a0] rfl (by (try simp only [List.map_toArray, List.map_cons, List.map_nil]); first | done | rfl | (simp only [List.length_drop, List.length_take]; rfl)) ?_; (with_reducible refine (fix_Add.calls a1 a0 t141 _ A6.out).mono ?_); rintro e w18 ⟨rfl, hb⟩; refine ⟨_, rfl, ?_⟩; have n0_ := Aside0.mk (below_step (by repeat (first | (with_reducible first | exact HB.out | apply bwA | apply bwN | apply bwD) | exact HB.out)) hb); clear HB; have HB := n0_; clear n0_; (try clear hb); (try clear hb2); (try clear hk); (try clear hi)) | (go_at_call 13; (with_reducible refine (fix_Mul.calls k a0 a1 t142 _ A8.out).mono ?_); rintro e w19 ⟨rfl, hb⟩; have n0_ := Aside0.mk (below_step (by repeat (first | (with_reducible first | exact HB.out | apply bwA | apply bwN | apply bwD) | exact HB.out)) hb); clear HB; have HB := n0_; clear n0_; (try clear hb); (try clear hb2); (try clear hk); (try clear hi)) | (go_at_call 13; (with_reducible refine (fix_Mul.calls k a1 a0 t143 _ A9.out).mono ?_); rintro e w20 ⟨rfl, hb⟩; have n0_ := Aside0.mk (below_step (by repeat (first | (with_reducible first | exact HB.out | apply bwA | apply bwN | apply bwD) | exact HB.out)) hb); clear HB; have HB := n0_; clear n0_; (try clear hb); (try clear hb2); (try clear hk); (try clear hi)) | (go_at_call 18; (with_reducible refine (fix_Add.calls a0 0 t144 _ A11.out).mono ?_); rintro e w21 ⟨rfl, hb⟩; have n0_ := Aside0.mk (below_step (by repeat (first | (with_reducible first | exact HB.out | apply bwA | apply bwN | apply bwD) | exact HB.out)) hb); clear HB; have HB := n0_; clear n0_; (try clear hb); (try clear hb2); (try clear hk); (try clear hi)) | (go_at_call 19; (with_reducible refine (fix_Sat.calls (wrap64 (a0)) t145 _ A12.out).mono ?_); rintro e w22 ⟨rfl, hb⟩; have n0_ := Aside0.mk (below_step (by repeat (first | (with_reducible first | exact HB.out | apply bwA | apply bwN | apply bwD) | exact HB.out)) hb); clear HB; have HB := n0_; clear n0_; (try clear hb); (try clear hb2); (try clear hk); (try clear hi)) | (go_at_call 13; (with_reducible refine (fix_Mul.calls k a0 65536 t146 _ A14.out).mono ?_); rintro e w23 ⟨rfl, hb⟩; have n0_ := Aside0.mk (below_step (by repeat (first | (with_reducible first | exact HB.out | apply bwA | apply bwN | apply bwD) | exact HB.out)) hb); clear HB; have HB := n0_; clear n0_; (try clear hb); (try clear hb2); (try clear hk); (try clear hi)) | (go_at_call 20; (with_reducible refine (fix_Sub.calls a0 a0 t147 _ A16.out).mono ?_); rintro e w24 ⟨rfl, hb⟩; have n0_ := Aside0.mk (below_step (by repeat (first | (with_reducible first | exact HB.out | apply bwA | apply bwN | apply bwD) | exact HB.out)) hb); clear HB; have HB := n0_; clear n0_; (try clear hb); (try clear hb2); (try clear hk); (try clear hi)))
      go_meet
      case rel => exact ⟨_, ((t147 != 0)), (by first | rfl | (simp; done) | (simp [*]; done)), H', ⟨by first | omega | exact Nat.le_refl _⟩, ⟨by repeat (first | (with_reducible first | exact HB.out | apply bwA | apply bwN | apply bwD) | exact HB.out)⟩⟩
     ·rw [if_neg c15] at H
      have c15b0 : (t146 == t145) = false := beq_eq_false_iff_ne.mpr c15
      have c15b1 : (t146 != t145) = true := bne_iff_ne.mpr c15
      have H' := Aside0.mk H
      clear H
      go_wp2_with (first | ((with_reducible refine gate_callee (f := 18) rfl ?_); refine goesL_ (some 9) rfl rfl Try.func18 (by kernel_rfl) rfl #[.int .i32 a0, .int .i32 a1] rfl (by (try simp only [List.map_toArray, List.map_cons, List.map_nil]); first | done | rfl | (simp only [List.length_drop, List.length_take]; rfl)) ?_; (with_reducible refine (fix_Add.calls a0 a1 t140 _ A5.out).mono ?_); rintro e w25 ⟨rfl, hb⟩; refine ⟨_, rfl, ?_⟩; have n0_ := Aside0.mk (below_step (by repeat (first | (with_reducible first | exact HB.out | apply bwA | apply bwN | apply bwD) | exact HB.out)) hb); clear HB; have HB := n0_; clear n0_; (try clear hb); (try clear hb2); (try clear hk); (try clear hi)) | ((with_reducible refine gate_callee (f := 18) rfl ?_); refine goesL_ (some 12) rfl rfl Try.func18 (by kernel_rfl) rfl #[.int .i32 a1, .int .i32 a0] rfl (by (try simp only [List.map_toArray, List.map_cons, List.map_nil]); first | done | rfl | (simp only [List.length_drop, List.length_take]; rfl)) ?_; (with_reducible refine (fix_Add.calls a1 a0 t141 _ A6.out).mono ?_); rintro e w26 ⟨rfl, hb⟩; refine ⟨_, rfl, ?_⟩; have n0_ := Aside0.mk (below_step (by repeat (first | (with_reducible first | exact HB.out | apply bwA | apply bwN | apply bwD) | exact HB.out)) hb); clear HB; have HB := n0_; clear n0_; (try clear hb); (try clear hb2); (try clear hk); (try clear hi)) | (go_at_call 13; (with_reducible refine (fix_Mul.calls k a0 a1 t142 _ A8.out).mono ?_); rintro e w27 ⟨rfl, hb⟩; have n0_ := Aside0.mk (below_step (by repeat (first | (with_reducible first | exact HB.out | apply bwA | apply bwN | apply bwD) | exact HB.out)) hb); clear HB; have HB := n0_; clear n0_; (try clear hb); (try clear hb2); (try clear hk); (try clear hi)) | (go_at_call 13; (with_reducible refine (fix_Mul.calls k a1 a0 t143 _ A9.out).mono ?_); rintro e w28 ⟨rfl, hb⟩; have n0_ := Aside0.mk (below_step (by repeat (first | (with_reducible first | exact HB.out | apply bwA | apply bwN | apply bwD) | exact HB.out)) hb); clear HB; have HB := n0_; clear n0_; (try clear hb); (try clear hb2); (try clear hk); (try clear hi)) | (go_at_call 18; (with_reducible refine (fix_Add.calls a0 0 t144 _ A11.out).mono ?_); rintro e w29 ⟨rfl, hb⟩; have n0_ := Aside0.mk (below_step (by repeat (first | (with_reducible first | exact HB.out | apply bwA | apply bwN | apply bwD) | exact HB.out)) hb); clear HB; have HB := n0_; clear n0_; (try clear hb); (try clear hb2); (try clear hk); (try clear hi)) | (go_at_call 19; (with_reducible refine (fix_Sat.calls (wrap64 (a0)) t145 _ A12.out).mono ?_); rintro e w30 ⟨rfl, hb⟩; have n0_ := Aside0.mk (below_step (by repeat (first | (with_reducible first | exact HB.out | apply bwA | apply bwN | apply bwD) | exact HB.out)) hb); clear HB; have HB := n0_; clear n0_; (try clear hb); (try clear hb2); (try clear hk); (try clear hi)) | (go_at_call 13; (with_reducible refine (fix_Mul.calls k a0 65536 t146 _ A14.out).mono ?_); rintro e w31 ⟨rfl, hb⟩; have n0_ := Aside0.mk (below_step (by repeat (first | (with_reducible first | exact HB.out | apply bwA | apply bwN | apply bwD) | exact HB.out)) hb); clear HB; have HB := n0_; clear n0_; (try clear hb); (try clear hb2); (try clear hk); (try clear hi)))
      go_meet
      case rel => exact ⟨_, (true), (by first | rfl | (simp; done) | (simp [*]; done)), H', ⟨by first | omega | exact Nat.le_refl _⟩, ⟨by repeat (first | (with_reducible first | exact HB.out | apply bwA | apply bwN | apply bwD) | exact HB.out)⟩⟩
    ·rw [if_neg c13] at H
     have c13b0 : (t144 == t145) = false := beq_eq_false_iff_ne.mpr c13
     have c13b1 : (t144 != t145) = true := bne_iff_ne.mpr c13
     have H' := Aside0.mk H
     clear H
     go_wp2_with (first | ((with_reducible refine gate_callee (f := 18) rfl ?_); refine goesL_ (some 9) rfl rfl Try.func18 (by kernel_rfl) rfl #[.int .i32 a0, .int .i32 a1] rfl (by (try simp only [List.map_toArray, List.map_cons, List.map_nil]); first | done | rfl | (simp only [List.length_drop, List.length_take]; rfl)) ?_; (with_reducible refine (fix_Add.calls a0 a1 t140 _ A5.out).mono ?_); rintro e w32 ⟨rfl, hb⟩; refine ⟨_, rfl, ?_⟩; have n0_ := Aside0.mk (below_step (by repeat (first | (with_reducible first | exact HB.out | apply bwA | apply bwN | apply bwD) | exact HB.out)) hb); clear HB; have HB := n0_; clear n0_; (try clear hb); (try clear hb2); (try clear hk); (try clear hi)) | ((with_reducible refine gate_callee (f := 18) rfl ?_); refine goesL_ (some 12) rfl rfl Try.func18 (by kernel_rfl) rfl #[.int .i32 a1, .int .i32 a0] rfl (by (try simp only [List.map_toArray, List.map_cons, List.map_nil]); first | done | rfl | (simp only [List.length_drop, List.length_take]; rfl)) ?_; (with_reducible refine (fix_Add.calls a1 a0 t141 _ A6.out).mono ?_); rintro e w33 ⟨rfl, hb⟩; refine ⟨_, rfl, ?_⟩; have n0_ := Aside0.mk (below_step (by repeat (first | (with_reducible first | exact HB.out | apply bwA | apply bwN | apply bwD) | exact HB.out)) hb); clear HB; have HB := n0_; clear n0_; (try clear hb); (try clear hb2); (try clear hk); (try clear hi)) | (go_at_call 13; (with_reducible refine (fix_Mul.calls k a0 a1 t142 _ A8.out).mono ?_); rintro e w34 ⟨rfl, hb⟩; have n0_ := Aside0.mk (below_step (by repeat (first | (with_reducible first | exact HB.out | apply bwA | apply bwN | apply bwD) | exact HB.out)) hb); clear HB; have HB := n0_; clear n0_; (try clear hb); (try clear hb2); (try clear hk); (try clear hi)) | (go_at_call 13; (with_reducible refine (fix_Mul.calls k a1 a0 t143 _ A9.out).mono ?_); rintro e w35 ⟨rfl, hb⟩; have n0_ := Aside0.mk (below_step (by repeat (first | (with_reducible first | exact HB.out | apply bwA | apply bwN | apply bwD) | exact HB.out)) hb); clear HB; have HB := n0_; clear n0_; (try clear hb); (try clear hb2); (try clear hk); (try clear hi)) | (go_at_call 18; (with_reducible refine (fix_Add.calls a0 0 t144 _ A11.out).mono ?_); rintro e w36 ⟨rfl, hb⟩; have n0_ := Aside0.mk (below_step (by repeat (first | (with_reducible first | exact HB.out | apply bwA | apply bwN | apply bwD) | exact HB.out)) hb); clear HB; have HB := n0_; clear n0_; (try clear hb); (try clear hb2); (try clear hk); (try clear hi)) | (go_at_call 19; (with_reducible refine (fix_Sat.calls (wrap64 (a0)) t145 _ A12.out).mono ?_); rintro e w37 ⟨rfl, hb⟩; have n0_ := Aside0.mk (below_step (by repeat (first | (with_reducible first | exact HB.out | apply bwA | apply bwN | apply bwD) | exact HB.out)) hb); clear HB; have HB := n0_; clear n0_; (try clear hb); (try clear hb2); (try clear hk); (try clear hi)))
     go_meet
     case rel => exact ⟨_, (true), (by first | rfl | (simp; done) | (simp [*]; done)), H', ⟨by first | omega | exact Nat.le_refl _⟩, ⟨by repeat (first | (with_reducible first | exact HB.out | apply bwA | apply bwN | apply bwD) | exact HB.out)⟩⟩
   ·rw [if_neg c10] at H
    have c10b0 : (t142 == t143) = false := beq_eq_false_iff_ne.mpr c10
    have c10b1 : (t142 != t143) = true := bne_iff_ne.mpr c10
    have H' := Aside0.mk H
    clear H
    go_wp2_with (first | ((with_reducible refine gate_callee (f := 18) rfl ?_); refine goesL_ (some 9) rfl rfl Try.func18 (by kernel_rfl) rfl #[.int .i32 a0, .int .i32 a1] rfl (by (try simp only [List.map_toArray, List.map_cons, List.map_nil]); first | done | rfl | (simp only [List.length_drop, List.length_take]; rfl)) ?_; (with_reducible refine (fix_Add.calls a0 a1 t140 _ A5.out).mono ?_); rintro e w38 ⟨rfl, hb⟩; refine ⟨_, rfl, ?_⟩; have n0_ := Aside0.mk (below_step (by repeat (first | (with_reducible first | exact HB.out | apply bwA | apply bwN | apply bwD) | exact HB.out)) hb); clear HB; have HB := n0_; clear n0_; (try clear hb); (try clear hb2); (try clear hk); (try clear hi)) | ((with_reducible refine gate_callee (f := 18) rfl ?_); refine goesL_ (some 12) rfl rfl Try.func18 (by kernel_rfl) rfl #[.int .i32 a1, .int .i32 a0] rfl (by (try simp only [List.map_toArray, List.map_cons, List.map_nil]); first | done | rfl | (simp only [List.length_drop, List.length_take]; rfl)) ?_; (with_reducible refine (fix_Add.calls a1 a0 t141 _ A6.out).mono ?_); rintro e w39 ⟨rfl, hb⟩; refine ⟨_, rfl, ?_⟩; have n0_ := Aside0.mk (below_step (by repeat (first | (with_reducible first | exact HB.out | apply bwA | apply bwN | apply bwD) | exact HB.out)) hb); clear HB; have HB := n0_; clear n0_; (try clear hb); (try clear hb2); (try clear hk); (try clear hi)) | (go_at_call 13; (with_reducible refine (fix_Mul.calls k a0 a1 t142 _ A8.out).mono ?_); rintro e w40 ⟨rfl, hb⟩; have n0_ := Aside0.mk (below_step (by repeat (first | (with_reducible first | exact HB.out | apply bwA | apply bwN | apply bwD) | exact HB.out)) hb); clear HB; have HB := n0_; clear n0_; (try clear hb); (try clear hb2); (try clear hk); (try clear hi)) | (go_at_call 13; (with_reducible refine (fix_Mul.calls k a1 a0 t143 _ A9.out).mono ?_); rintro e w41 ⟨rfl, hb⟩; have n0_ := Aside0.mk (below_step (by repeat (first | (with_reducible first | exact HB.out | apply bwA | apply bwN | apply bwD) | exact HB.out)) hb); clear HB; have HB := n0_; clear n0_; (try clear hb); (try clear hb2); (try clear hk); (try clear hi)))
    go_meet
    case rel => exact ⟨_, (true), (by first | rfl | (simp; done) | (simp [*]; done)), H', ⟨by first | omega | exact Nat.le_refl _⟩, ⟨by repeat (first | (with_reducible first | exact HB.out | apply bwA | apply bwN | apply bwD) | exact HB.out)⟩⟩
  ·rw [if_neg c7] at H
   have c7b0 : (t140 == t141) = false := beq_eq_false_iff_ne.mpr c7
   have c7b1 : (t140 != t141) = true := bne_iff_ne.mpr c7
   (first | rw [c7b0] | (simp only [i64_w, i32_w]; rw [c7b0]) | skip)
   have H' := Aside0.mk H
   clear H
   go_wp2_with (first | ((with_reducible refine gate_callee (f := 18) rfl ?_); refine goesL_ (some 9) rfl rfl Try.func18 (by kernel_rfl) rfl #[.int .i32 a0, .int .i32 a1] rfl (by (try simp only [List.map_toArray, List.map_cons, List.map_nil]); first | done | rfl | (simp only [List.length_drop, List.length_take]; rfl)) ?_; (with_reducible refine (fix_Add.calls a0 a1 t140 _ A5.out).mono ?_); rintro e w42 ⟨rfl, hb⟩; refine ⟨_, rfl, ?_⟩; have n0_ := Aside0.mk (below_step (by repeat (first | (with_reducible first | exact HB.out | apply bwA | apply bwN | apply bwD) | exact HB.out)) hb); clear HB; have HB := n0_; clear n0_; (try clear hb); (try clear hb2); (try clear hk); (try clear hi)) | ((with_reducible refine gate_callee (f := 18) rfl ?_); refine goesL_ (some 12) rfl rfl Try.func18 (by kernel_rfl) rfl #[.int .i32 a1, .int .i32 a0] rfl (by (try simp only [List.map_toArray, List.map_cons, List.map_nil]); first | done | rfl | (simp only [List.length_drop, List.length_take]; rfl)) ?_; (with_reducible refine (fix_Add.calls a1 a0 t141 _ A6.out).mono ?_); rintro e w43 ⟨rfl, hb⟩; refine ⟨_, rfl, ?_⟩; have n0_ := Aside0.mk (below_step (by repeat (first | (with_reducible first | exact HB.out | apply bwA | apply bwN | apply bwD) | exact HB.out)) hb); clear HB; have HB := n0_; clear n0_; (try clear hb); (try clear hb2); (try clear hk); (try clear hi)))
   go_meet
   case rel => exact ⟨_, (true), (by first | rfl | (simp; done) | (simp [*]; done)), H', ⟨by first | omega | exact Nat.le_refl _⟩, ⟨by repeat (first | (with_reducible first | exact HB.out | apply bwA | apply bwN | apply bwD) | exact HB.out)⟩⟩
 case rest =>
  clear HC4
  try clear c1
  try clear p2
  try clear c5
  try clear p6
  try clear c7
  try clear c7b0
  try clear c7b1
  try clear c10
  try clear c10b0
  try clear c10b1
  try clear c13
  try clear c13b0
  try clear c13b1
  try clear c15
  try clear c15b0
  try clear c15b1
  try clear c18
  obtain ⟨kq, x44_3, rfl, HA, HJ3, HB⟩ := hcut
  cases kq with
  | zero => exact absurd HA.out (by simp [tillerlaw01_FixRing.j0])
  | succ kj3 =>
   have H := HA.out
   clear HA
   simp only [tillerlaw01_FixRing.j0] at H
   by_cases c44 : x44_3 = true
   ·subst c44
    have H1 : (some false) = some r := by rw [if_pos rfl] at H; exact H
    clear H
    have H := H1
    clear H1
    exact absurd (Option.some.inj H) (by rw [hr_.out]; decide)
   ·replace c44 := Bool.eq_false_iff.mpr c44
    subst c44
    have H1 : ((fix_Sub.f 0 a0).bind fun t148 => ((fix_Mul.f kj3 t148 a1).bind fun t149 => ((fix_Sat.f (wrap64 (a0))).bind fun t150 => ((fix_Mul.f kj3 t150 a1).bind fun t151 => ((fix_Sub.f 0 t151).bind fun t152 => (if t149 = t152 then ((tillerlaw01_awake.f kj3).bind fun t153 => (if t153 = true then (if a0 > a1 then (some true) else ((fix_Add.f a0 a2).bind fun t154 => ((fix_Add.f a1 a2).bind fun t155 => (if t154 ≤ t155 then (if a2 < 0 then (some true) else ((fix_Mul.f kj3 a0 a2).bind fun t156 => ((fix_Mul.f kj3 a1 a2).bind fun t157 => (some (decide (t156 ≤ t157)))))) else (some false))))) else (some false))) else (some false))))))) = some r := by rw [if_neg (show ¬ (false = true) by decide)] at H; exact H
    clear H
    have H := H1
    clear H1
    replace H := Option.bind_eq_some_iff.mp H
    obtain ⟨t148, A450, H⟩ := H
    replace H : ((fix_Mul.f kj3 t148 a1).bind fun t149 => ((fix_Sat.f (wrap64 (a0))).bind fun t150 => ((fix_Mul.f kj3 t150 a1).bind fun t151 => ((fix_Sub.f 0 t151).bind fun t152 => (if t149 = t152 then ((tillerlaw01_awake.f kj3).bind fun t153 => (if t153 = true then (if a0 > a1 then (some true) else ((fix_Add.f a0 a2).bind fun t154 => ((fix_Add.f a1 a2).bind fun t155 => (if t154 ≤ t155 then (if a2 < 0 then (some true) else ((fix_Mul.f kj3 a0 a2).bind fun t156 => ((fix_Mul.f kj3 a1 a2).bind fun t157 => (some (decide (t156 ≤ t157)))))) else (some false))))) else (some false))) else (some false)))))) = some r := H
    have A45 := Aside0.mk A450
    clear A450
    replace H := Option.bind_eq_some_iff.mp H
    obtain ⟨t149, A460, H⟩ := H
    replace H : ((fix_Sat.f (wrap64 (a0))).bind fun t150 => ((fix_Mul.f kj3 t150 a1).bind fun t151 => ((fix_Sub.f 0 t151).bind fun t152 => (if t149 = t152 then ((tillerlaw01_awake.f kj3).bind fun t153 => (if t153 = true then (if a0 > a1 then (some true) else ((fix_Add.f a0 a2).bind fun t154 => ((fix_Add.f a1 a2).bind fun t155 => (if t154 ≤ t155 then (if a2 < 0 then (some true) else ((fix_Mul.f kj3 a0 a2).bind fun t156 => ((fix_Mul.f kj3 a1 a2).bind fun t157 => (some (decide (t156 ≤ t157)))))) else (some false))))) else (some false))) else (some false))))) = some r := H
    have A46 := Aside0.mk A460
    clear A460
    replace H := Option.bind_eq_some_iff.mp H
    obtain ⟨t150, A470, H⟩ := H
    replace H : ((fix_Mul.f kj3 t150 a1).bind fun t151 => ((fix_Sub.f 0 t151).bind fun t152 => (if t149 = t152 then ((tillerlaw01_awake.f kj3).bind fun t153 => (if t153 = true then (if a0 > a1 then (some true) else ((fix_Add.f a0 a2).bind fun t154 => ((fix_Add.f a1 a2).bind fun t155 => (if t154 ≤ t155 then (if a2 < 0 then (some true) else ((fix_Mul.f kj3 a0 a2).bind fun t156 => ((fix_Mul.f kj3 a1 a2).bind fun t157 => (some (decide (t156 ≤ t157)))))) else (some false))))) else (some false))) else (some false)))) = some r := H
    have A47 := Aside0.mk A470
    clear A470
    replace H := Option.bind_eq_some_iff.mp H
    obtain ⟨t151, A480, H⟩ := H
    replace H : ((fix_Sub.f 0 t151).bind fun t152 => (if t149 = t152 then ((tillerlaw01_awake.f kj3).bind fun t153 => (if t153 = true then (if a0 > a1 then (some true) else ((fix_Add.f a0 a2).bind fun t154 => ((fix_Add.f a1 a2).bind fun t155 => (if t154 ≤ t155 then (if a2 < 0 then (some true) else ((fix_Mul.f kj3 a0 a2).bind fun t156 => ((fix_Mul.f kj3 a1 a2).bind fun t157 => (some (decide (t156 ≤ t157)))))) else (some false))))) else (some false))) else (some false))) = some r := H
    have A48 := Aside0.mk A480
    clear A480
    replace H := Option.bind_eq_some_iff.mp H
    obtain ⟨t152, A490, H⟩ := H
    replace H : (if t149 = t152 then ((tillerlaw01_awake.f kj3).bind fun t153 => (if t153 = true then (if a0 > a1 then (some true) else ((fix_Add.f a0 a2).bind fun t154 => ((fix_Add.f a1 a2).bind fun t155 => (if t154 ≤ t155 then (if a2 < 0 then (some true) else ((fix_Mul.f kj3 a0 a2).bind fun t156 => ((fix_Mul.f kj3 a1 a2).bind fun t157 => (some (decide (t156 ≤ t157)))))) else (some false))))) else (some false))) else (some false)) = some r := H
    have A49 := Aside0.mk A490
    clear A490
    by_cases c50 : t149 = t152
    ·rw [if_pos c50] at H
     have c50b0 : (t149 == t152) = true := beq_iff_eq.mpr c50
     have c50b1 : (t149 != t152) = false := bne_eq_false_iff_eq.mpr c50
     clear c50
     replace H := Option.bind_eq_some_iff.mp H
     obtain ⟨t153, A510, H⟩ := H
     replace H : (if t153 = true then (if a0 > a1 then (some true) else ((fix_Add.f a0 a2).bind fun t154 => ((fix_Add.f a1 a2).bind fun t155 => (if t154 ≤ t155 then (if a2 < 0 then (some true) else ((fix_Mul.f kj3 a0 a2).bind fun t156 => ((fix_Mul.f kj3 a1 a2).bind fun t157 => (some (decide (t156 ≤ t157)))))) else (some false))))) else (some false)) = some r := H
     have A51 := Aside0.mk A510
     clear A510
     by_cases c52 : t153 = true
     ·subst c52
      have H1 : (if a0 > a1 then (some true) else ((fix_Add.f a0 a2).bind fun t154 => ((fix_Add.f a1 a2).bind fun t155 => (if t154 ≤ t155 then (if a2 < 0 then (some true) else ((fix_Mul.f kj3 a0 a2).bind fun t156 => ((fix_Mul.f kj3 a1 a2).bind fun t157 => (some (decide (t156 ≤ t157)))))) else (some false))))) = some r := by rw [if_pos rfl] at H; exact H
      clear H
      have H := H1
      clear H1
      by_cases c53 : a0 > a1
      ·rw [if_pos c53] at H
       have c53b0 : decide (a1 < a0) = true := decide_eq_true c53
       clear c53
       obtain rfl := Option.some.inj H
       go_wp2_with (first | ((with_reducible refine gate_callee (f := 20) rfl ?_); refine goesL_ (some 46) rfl rfl Try.func20 (by kernel_rfl) rfl #[.int .i32 0, .int .i32 a0] rfl (by (try simp only [List.map_toArray, List.map_cons, List.map_nil]); first | done | rfl | (simp only [List.length_drop, List.length_take]; rfl)) ?_; (with_reducible refine (fix_Sub.calls 0 a0 t148 _ A45.out).mono ?_); rintro e w54 ⟨rfl, hb⟩; refine ⟨_, rfl, ?_⟩; have n0_ := Aside0.mk (below_step (by repeat (first | (with_reducible first | exact HB.out | apply bwA | apply bwN | apply bwD) | exact HB.out)) hb); clear HB; have HB := n0_; clear n0_; (try clear hb); (try clear hb2); (try clear hk); (try clear hi)) | ((with_reducible refine gate_callee (f := 13) rfl ?_); refine goesL_ (some 48) rfl rfl Try.func13 (by kernel_rfl) rfl #[.int .i32 t148, .int .i32 a1] rfl (by (try simp only [List.map_toArray, List.map_cons, List.map_nil]); first | done | rfl | (simp only [List.length_drop, List.length_take]; rfl)) ?_; (with_reducible refine (fix_Mul.calls kj3 t148 a1 t149 _ A46.out).mono ?_); rintro e w55 ⟨rfl, hb⟩; refine ⟨_, rfl, ?_⟩; have n0_ := Aside0.mk (below_step (by repeat (first | (with_reducible first | exact HB.out | apply bwA | apply bwN | apply bwD) | exact HB.out)) hb); clear HB; have HB := n0_; clear n0_; (try clear hb); (try clear hb2); (try clear hk); (try clear hi)) | ((with_reducible refine gate_callee (f := 19) rfl ?_); refine goesL_ (some 51) rfl rfl Try.func19 (by kernel_rfl) rfl #[.int .i64 (wrap64 (a0))] rfl (by (try simp only [List.map_toArray, List.map_cons, List.map_nil]); first | done | rfl | (simp only [List.length_drop, List.length_take]; rfl)) ?_; (with_reducible refine (fix_Sat.calls (wrap64 (a0)) t150 _ A47.out).mono ?_); rintro e w56 ⟨rfl, hb⟩; refine ⟨_, rfl, ?_⟩; have n0_ := Aside0.mk (below_step (by repeat (first | (with_reducible first | exact HB.out | apply bwA | apply bwN | apply bwD) | exact HB.out)) hb); clear HB; have HB := n0_; clear n0_; (try clear hb); (try clear hb2); (try clear hk); (try clear hi)) | ((with_reducible refine gate_callee (f := 13) rfl ?_); refine goesL_ (some 53) rfl rfl Try.func13 (by kernel_rfl) rfl #[.int .i32 t150, .int .i32 a1] rfl (by (try simp only [List.map_toArray, List.map_cons, List.map_nil]); first | done | rfl | (simp only [List.length_drop, List.length_take]; rfl)) ?_; (with_reducible refine (fix_Mul.calls kj3 t150 a1 t151 _ A48.out).mono ?_); rintro e w57 ⟨rfl, hb⟩; refine ⟨_, rfl, ?_⟩; have n0_ := Aside0.mk (below_step (by repeat (first | (with_reducible first | exact HB.out | apply bwA | apply bwN | apply bwD) | exact HB.out)) hb); clear HB; have HB := n0_; clear n0_; (try clear hb); (try clear hb2); (try clear hk); (try clear hi)) | ((with_reducible refine gate_callee (f := 20) rfl ?_); refine goesL_ (some 54) rfl rfl Try.func20 (by kernel_rfl) rfl #[.int .i32 0, .int .i32 t151] rfl (by (try simp only [List.map_toArray, List.map_cons, List.map_nil]); first | done | rfl | (simp only [List.length_drop, List.length_take]; rfl)) ?_; (with_reducible refine (fix_Sub.calls 0 t151 t152 _ A49.out).mono ?_); rintro e w58 ⟨rfl, hb⟩; refine ⟨_, rfl, ?_⟩; have n0_ := Aside0.mk (below_step (by repeat (first | (with_reducible first | exact HB.out | apply bwA | apply bwN | apply bwD) | exact HB.out)) hb); clear HB; have HB := n0_; clear n0_; (try clear hb); (try clear hb2); (try clear hk); (try clear hi)) | ((with_reducible refine gate_callee (f := 12) rfl ?_); refine goesL_ (some 56) rfl rfl Try.func12 (by kernel_rfl) rfl #[] rfl (by (try simp only [List.map_toArray, List.map_cons, List.map_nil]); first | done | rfl | (simp only [List.length_drop, List.length_take]; rfl)) ?_; (with_reducible refine (tillerlaw01_awake.calls kj3  true _ A51.out).mono ?_); rintro e w59 ⟨rfl, hb⟩; refine ⟨_, rfl, ?_⟩; have n0_ := Aside0.mk (below_step (by repeat (first | (with_reducible first | exact HB.out | apply bwA | apply bwN | apply bwD) | exact HB.out)) hb); clear HB; have HB := n0_; clear n0_; (try clear hb); (try clear hb2); (try clear hk); (try clear hi)))
       go_ret
       exact ⟨by first | rfl | (simp [errW_none, errW_some] <;> rfl) | (simp [*, errW_none, errW_some] <;> rfl), by repeat (first | (with_reducible first | exact HB.out | apply bwA | apply bwN | apply bwD) | exact HB.out)⟩
      ·rw [if_neg c53] at H
       have c53b0 : decide (a1 < a0) = false := decide_eq_false c53
       clear c53
       replace H := Option.bind_eq_some_iff.mp H
       obtain ⟨t154, A600, H⟩ := H
       replace H : ((fix_Add.f a1 a2).bind fun t155 => (if t154 ≤ t155 then (if a2 < 0 then (some true) else ((fix_Mul.f kj3 a0 a2).bind fun t156 => ((fix_Mul.f kj3 a1 a2).bind fun t157 => (some (decide (t156 ≤ t157)))))) else (some false))) = some r := H
       have A60 := Aside0.mk A600
       clear A600
       replace H := Option.bind_eq_some_iff.mp H
       obtain ⟨t155, A610, H⟩ := H
       replace H : (if t154 ≤ t155 then (if a2 < 0 then (some true) else ((fix_Mul.f kj3 a0 a2).bind fun t156 => ((fix_Mul.f kj3 a1 a2).bind fun t157 => (some (decide (t156 ≤ t157)))))) else (some false)) = some r := H
       have A61 := Aside0.mk A610
       clear A610
       by_cases c62 : t154 ≤ t155
       ·rw [if_pos c62] at H
        have c62b0 : decide (t154 ≤ t155) = true := decide_eq_true c62
        clear c62
        by_cases c63 : a2 < 0
        ·rw [if_pos c63] at H
         have c63b0 : decide (a2 < 0) = true := decide_eq_true c63
         clear c63
         obtain rfl := Option.some.inj H
         go_wp2_with (first | ((with_reducible refine gate_callee (f := 20) rfl ?_); refine goesL_ (some 46) rfl rfl Try.func20 (by kernel_rfl) rfl #[.int .i32 0, .int .i32 a0] rfl (by (try simp only [List.map_toArray, List.map_cons, List.map_nil]); first | done | rfl | (simp only [List.length_drop, List.length_take]; rfl)) ?_; (with_reducible refine (fix_Sub.calls 0 a0 t148 _ A45.out).mono ?_); rintro e w64 ⟨rfl, hb⟩; refine ⟨_, rfl, ?_⟩; have n0_ := Aside0.mk (below_step (by repeat (first | (with_reducible first | exact HB.out | apply bwA | apply bwN | apply bwD) | exact HB.out)) hb); clear HB; have HB := n0_; clear n0_; (try clear hb); (try clear hb2); (try clear hk); (try clear hi)) | ((with_reducible refine gate_callee (f := 13) rfl ?_); refine goesL_ (some 48) rfl rfl Try.func13 (by kernel_rfl) rfl #[.int .i32 t148, .int .i32 a1] rfl (by (try simp only [List.map_toArray, List.map_cons, List.map_nil]); first | done | rfl | (simp only [List.length_drop, List.length_take]; rfl)) ?_; (with_reducible refine (fix_Mul.calls kj3 t148 a1 t149 _ A46.out).mono ?_); rintro e w65 ⟨rfl, hb⟩; refine ⟨_, rfl, ?_⟩; have n0_ := Aside0.mk (below_step (by repeat (first | (with_reducible first | exact HB.out | apply bwA | apply bwN | apply bwD) | exact HB.out)) hb); clear HB; have HB := n0_; clear n0_; (try clear hb); (try clear hb2); (try clear hk); (try clear hi)) | ((with_reducible refine gate_callee (f := 19) rfl ?_); refine goesL_ (some 51) rfl rfl Try.func19 (by kernel_rfl) rfl #[.int .i64 (wrap64 (a0))] rfl (by (try simp only [List.map_toArray, List.map_cons, List.map_nil]); first | done | rfl | (simp only [List.length_drop, List.length_take]; rfl)) ?_; (with_reducible refine (fix_Sat.calls (wrap64 (a0)) t150 _ A47.out).mono ?_); rintro e w66 ⟨rfl, hb⟩; refine ⟨_, rfl, ?_⟩; have n0_ := Aside0.mk (below_step (by repeat (first | (with_reducible first | exact HB.out | apply bwA | apply bwN | apply bwD) | exact HB.out)) hb); clear HB; have HB := n0_; clear n0_; (try clear hb); (try clear hb2); (try clear hk); (try clear hi)) | ((with_reducible refine gate_callee (f := 13) rfl ?_); refine goesL_ (some 53) rfl rfl Try.func13 (by kernel_rfl) rfl #[.int .i32 t150, .int .i32 a1] rfl (by (try simp only [List.map_toArray, List.map_cons, List.map_nil]); first | done | rfl | (simp only [List.length_drop, List.length_take]; rfl)) ?_; (with_reducible refine (fix_Mul.calls kj3 t150 a1 t151 _ A48.out).mono ?_); rintro e w67 ⟨rfl, hb⟩; refine ⟨_, rfl, ?_⟩; have n0_ := Aside0.mk (below_step (by repeat (first | (with_reducible first | exact HB.out | apply bwA | apply bwN | apply bwD) | exact HB.out)) hb); clear HB; have HB := n0_; clear n0_; (try clear hb); (try clear hb2); (try clear hk); (try clear hi)) | ((with_reducible refine gate_callee (f := 20) rfl ?_); refine goesL_ (some 54) rfl rfl Try.func20 (by kernel_rfl) rfl #[.int .i32 0, .int .i32 t151] rfl (by (try simp only [List.map_toArray, List.map_cons, List.map_nil]); first | done | rfl | (simp only [List.length_drop, List.length_take]; rfl)) ?_; (with_reducible refine (fix_Sub.calls 0 t151 t152 _ A49.out).mono ?_); rintro e w68 ⟨rfl, hb⟩; refine ⟨_, rfl, ?_⟩; have n0_ := Aside0.mk (below_step (by repeat (first | (with_reducible first | exact HB.out | apply bwA | apply bwN | apply bwD) | exact HB.out)) hb); clear HB; have HB := n0_; clear n0_; (try clear hb); (try clear hb2); (try clear hk); (try clear hi)) | ((with_reducible refine gate_callee (f := 12) rfl ?_); refine goesL_ (some 56) rfl rfl Try.func12 (by kernel_rfl) rfl #[] rfl (by (try simp only [List.map_toArray, List.map_cons, List.map_nil]); first | done | rfl | (simp only [List.length_drop, List.length_take]; rfl)) ?_; (with_reducible refine (tillerlaw01_awake.calls kj3  true _ A51.out).mono ?_); rintro e w69 ⟨rfl, hb⟩; refine ⟨_, rfl, ?_⟩; have n0_ := Aside0.mk (below_step (by repeat (first | (with_reducible first | exact HB.out | apply bwA | apply bwN | apply bwD) | exact HB.out)) hb); clear HB; have HB := n0_; clear n0_; (try clear hb); (try clear hb2); (try clear hk); (try clear hi)) | (go_at_call 18; (with_reducible refine (fix_Add.calls a0 a2 t154 _ A60.out).mono ?_); rintro e w70 ⟨rfl, hb⟩; have n0_ := Aside0.mk (below_step (by repeat (first | (with_reducible first | exact HB.out | apply bwA | apply bwN | apply bwD) | exact HB.out)) hb); clear HB; have HB := n0_; clear n0_; (try clear hb); (try clear hb2); (try clear hk); (try clear hi)) | (go_at_call 18; (with_reducible refine (fix_Add.calls a1 a2 t155 _ A61.out).mono ?_); rintro e w71 ⟨rfl, hb⟩; have n0_ := Aside0.mk (below_step (by repeat (first | (with_reducible first | exact HB.out | apply bwA | apply bwN | apply bwD) | exact HB.out)) hb); clear HB; have HB := n0_; clear n0_; (try clear hb); (try clear hb2); (try clear hk); (try clear hi)))
         go_ret
         exact ⟨by first | rfl | (simp [errW_none, errW_some] <;> rfl) | (simp [*, errW_none, errW_some] <;> rfl), by repeat (first | (with_reducible first | exact HB.out | apply bwA | apply bwN | apply bwD) | exact HB.out)⟩
        ·rw [if_neg c63] at H
         have c63b0 : decide (a2 < 0) = false := decide_eq_false c63
         clear c63
         replace H := Option.bind_eq_some_iff.mp H
         obtain ⟨t156, A720, H⟩ := H
         replace H : ((fix_Mul.f kj3 a1 a2).bind fun t157 => (some (decide (t156 ≤ t157)))) = some r := H
         have A72 := Aside0.mk A720
         clear A720
         replace H := Option.bind_eq_some_iff.mp H
         obtain ⟨t157, A730, H⟩ := H
         replace H : (some (decide (t156 ≤ t157))) = some r := H
         have A73 := Aside0.mk A730
         clear A730
         obtain rfl := Option.some.inj H
         go_wp2_with (first | ((with_reducible refine gate_callee (f := 20) rfl ?_); refine goesL_ (some 46) rfl rfl Try.func20 (by kernel_rfl) rfl #[.int .i32 0, .int .i32 a0] rfl (by (try simp only [List.map_toArray, List.map_cons, List.map_nil]); first | done | rfl | (simp only [List.length_drop, List.length_take]; rfl)) ?_; (with_reducible refine (fix_Sub.calls 0 a0 t148 _ A45.out).mono ?_); rintro e w74 ⟨rfl, hb⟩; refine ⟨_, rfl, ?_⟩; have n0_ := Aside0.mk (below_step (by repeat (first | (with_reducible first | exact HB.out | apply bwA | apply bwN | apply bwD) | exact HB.out)) hb); clear HB; have HB := n0_; clear n0_; (try clear hb); (try clear hb2); (try clear hk); (try clear hi)) | ((with_reducible refine gate_callee (f := 13) rfl ?_); refine goesL_ (some 48) rfl rfl Try.func13 (by kernel_rfl) rfl #[.int .i32 t148, .int .i32 a1] rfl (by (try simp only [List.map_toArray, List.map_cons, List.map_nil]); first | done | rfl | (simp only [List.length_drop, List.length_take]; rfl)) ?_; (with_reducible refine (fix_Mul.calls kj3 t148 a1 t149 _ A46.out).mono ?_); rintro e w75 ⟨rfl, hb⟩; refine ⟨_, rfl, ?_⟩; have n0_ := Aside0.mk (below_step (by repeat (first | (with_reducible first | exact HB.out | apply bwA | apply bwN | apply bwD) | exact HB.out)) hb); clear HB; have HB := n0_; clear n0_; (try clear hb); (try clear hb2); (try clear hk); (try clear hi)) | ((with_reducible refine gate_callee (f := 19) rfl ?_); refine goesL_ (some 51) rfl rfl Try.func19 (by kernel_rfl) rfl #[.int .i64 (wrap64 (a0))] rfl (by (try simp only [List.map_toArray, List.map_cons, List.map_nil]); first | done | rfl | (simp only [List.length_drop, List.length_take]; rfl)) ?_; (with_reducible refine (fix_Sat.calls (wrap64 (a0)) t150 _ A47.out).mono ?_); rintro e w76 ⟨rfl, hb⟩; refine ⟨_, rfl, ?_⟩; have n0_ := Aside0.mk (below_step (by repeat (first | (with_reducible first | exact HB.out | apply bwA | apply bwN | apply bwD) | exact HB.out)) hb); clear HB; have HB := n0_; clear n0_; (try clear hb); (try clear hb2); (try clear hk); (try clear hi)) | ((with_reducible refine gate_callee (f := 13) rfl ?_); refine goesL_ (some 53) rfl rfl Try.func13 (by kernel_rfl) rfl #[.int .i32 t150, .int .i32 a1] rfl (by (try simp only [List.map_toArray, List.map_cons, List.map_nil]); first | done | rfl | (simp only [List.length_drop, List.length_take]; rfl)) ?_; (with_reducible refine (fix_Mul.calls kj3 t150 a1 t151 _ A48.out).mono ?_); rintro e w77 ⟨rfl, hb⟩; refine ⟨_, rfl, ?_⟩; have n0_ := Aside0.mk (below_step (by repeat (first | (with_reducible first | exact HB.out | apply bwA | apply bwN | apply bwD) | exact HB.out)) hb); clear HB; have HB := n0_; clear n0_; (try clear hb); (try clear hb2); (try clear hk); (try clear hi)) | ((with_reducible refine gate_callee (f := 20) rfl ?_); refine goesL_ (some 54) rfl rfl Try.func20 (by kernel_rfl) rfl #[.int .i32 0, .int .i32 t151] rfl (by (try simp only [List.map_toArray, List.map_cons, List.map_nil]); first | done | rfl | (simp only [List.length_drop, List.length_take]; rfl)) ?_; (with_reducible refine (fix_Sub.calls 0 t151 t152 _ A49.out).mono ?_); rintro e w78 ⟨rfl, hb⟩; refine ⟨_, rfl, ?_⟩; have n0_ := Aside0.mk (below_step (by repeat (first | (with_reducible first | exact HB.out | apply bwA | apply bwN | apply bwD) | exact HB.out)) hb); clear HB; have HB := n0_; clear n0_; (try clear hb); (try clear hb2); (try clear hk); (try clear hi)) | ((with_reducible refine gate_callee (f := 12) rfl ?_); refine goesL_ (some 56) rfl rfl Try.func12 (by kernel_rfl) rfl #[] rfl (by (try simp only [List.map_toArray, List.map_cons, List.map_nil]); first | done | rfl | (simp only [List.length_drop, List.length_take]; rfl)) ?_; (with_reducible refine (tillerlaw01_awake.calls kj3  true _ A51.out).mono ?_); rintro e w79 ⟨rfl, hb⟩; refine ⟨_, rfl, ?_⟩; have n0_ := Aside0.mk (below_step (by repeat (first | (with_reducible first | exact HB.out | apply bwA | apply bwN | apply bwD) | exact HB.out)) hb); clear HB; have HB := n0_; clear n0_; (try clear hb); (try clear hb2); (try clear hk); (try clear hi)) | (go_at_call 18; (with_reducible refine (fix_Add.calls a0 a2 t154 _ A60.out).mono ?_); rintro e w80 ⟨rfl, hb⟩; have n0_ := Aside0.mk (below_step (by repeat (first | (with_reducible first | exact HB.out | apply bwA | apply bwN | apply bwD) | exact HB.out)) hb); clear HB; have HB := n0_; clear n0_; (try clear hb); (try clear hb2); (try clear hk); (try clear hi)) | (go_at_call 18; (with_reducible refine (fix_Add.calls a1 a2 t155 _ A61.out).mono ?_); rintro e w81 ⟨rfl, hb⟩; have n0_ := Aside0.mk (below_step (by repeat (first | (with_reducible first | exact HB.out | apply bwA | apply bwN | apply bwD) | exact HB.out)) hb); clear HB; have HB := n0_; clear n0_; (try clear hb); (try clear hb2); (try clear hk); (try clear hi)) | (go_at_call 13; (with_reducible refine (fix_Mul.calls kj3 a0 a2 t156 _ A72.out).mono ?_); rintro e w82 ⟨rfl, hb⟩; have n0_ := Aside0.mk (below_step (by repeat (first | (with_reducible first | exact HB.out | apply bwA | apply bwN | apply bwD) | exact HB.out)) hb); clear HB; have HB := n0_; clear n0_; (try clear hb); (try clear hb2); (try clear hk); (try clear hi)) | (go_at_call 13; (with_reducible refine (fix_Mul.calls kj3 a1 a2 t157 _ A73.out).mono ?_); rintro e w83 ⟨rfl, hb⟩; have n0_ := Aside0.mk (below_step (by repeat (first | (with_reducible first | exact HB.out | apply bwA | apply bwN | apply bwD) | exact HB.out)) hb); clear HB; have HB := n0_; clear n0_; (try clear hb); (try clear hb2); (try clear hk); (try clear hi)))
         go_ret
         exact ⟨by first | rfl | (simp [errW_none, errW_some] <;> rfl) | (simp [*, errW_none, errW_some] <;> rfl), by repeat (first | (with_reducible first | exact HB.out | apply bwA | apply bwN | apply bwD) | exact HB.out)⟩
       ·rw [if_neg c62] at H
        exact absurd (Option.some.inj H) (by rw [hr_.out]; decide)
     ·replace c52 := Bool.eq_false_iff.mpr c52
      subst c52
      have H1 : (some false) = some r := by rw [if_neg (show ¬ (false = true) by decide)] at H; exact H
      clear H
      have H := H1
      clear H1
      exact absurd (Option.some.inj H) (by rw [hr_.out]; decide)
    ·rw [if_neg c50] at H
     exact absurd (Option.some.inj H) (by rw [hr_.out]; decide)

end Go.Proofs.Ytnhapgenebcjmaa.GQ
