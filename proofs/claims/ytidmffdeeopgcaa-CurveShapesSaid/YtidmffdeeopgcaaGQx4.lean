-- written by this session's program gprint.py
import Derived.Test.YtidmffdeeopgcaaGQx0
import Derived.Test.YtidmffdeeopgcaaGQx1
import Derived.Test.YtidmffdeeopgcaaWLast
import Derived.Test.YtidmffdeeopgcaaWMore
import Derived.Test.YtidmffdeeopgcaaWWords
namespace Go.Proofs.Ytidmffdeeopgcaa.GQ
open Go.RowKit Go.Proofs.YtidmffdeeopgcaaW.PrintWords Go.Proofs.YtidmffdeeopgcaaW.PrintLast Go.Proofs.YtidmffdeeopgcaaW.PrintMore Go.Proofs.Ytidmffdeeopgcaa.GLen Go.Proofs.Ytidmffdeeopgcaa.GCurve Go.Proofs.Ytidmffdeeopgcaa.GAwake
attribute [local go_sem] max2_int min2_int max_two min_two max_three min_three max_four min_four   -- for this text's walks alone
set_option linter.unusedVariables false
set_option linter.unusedSimpArgs false

/-! ### tillerlaw02_CurveShapes: function 5 -/
mutual
def tillerlaw02_CurveShapes.j0 : Nat → Int → Int → Bool → Option (Bool)
 | 0, _, _, _ => none
 | k + 1, x0, x2, x24 => if x24 = true then (some false) else (if x0 ≤ 0 then (if x0 > (-1073741824) then ((curve_Pow.f (wrap32 (x0 - 65536))).bind fun t123 => ((curve_Pow.f x0).bind fun t124 => (if t123 = (wrap32 (Int.tdiv t124 2)) then (if t124 < 0 then (tillerlaw02_CurveShapes.j1 k x2 true) else (tillerlaw02_CurveShapes.j1 k x2 (decide (t124 > 65536)))) else (tillerlaw02_CurveShapes.j1 k x2 true)))) else ((curve_Pow.f x0).bind fun t125 => (if t125 < 0 then (tillerlaw02_CurveShapes.j1 k x2 true) else (tillerlaw02_CurveShapes.j1 k x2 (decide (t125 > 65536)))))) else ((curve_Pow.f x0).bind fun t126 => (if t126 < 0 then (tillerlaw02_CurveShapes.j1 k x2 true) else (tillerlaw02_CurveShapes.j1 k x2 (decide (t126 > 65536))))))
def tillerlaw02_CurveShapes.j1 : Nat → Int → Bool → Option (Bool)
 | 0, _, _ => none
 | k + 1, x2, x49 => if x49 = true then (some false) else ((curve_Root.f k x2).bind fun t127 => ((tillerlaw02_awake.f).bind fun t128 => (if t128 = true then (if t127 < 4294967296 then (if (IntKind.u64.wrap (t127 * t127)) ≤ x2 then (if t127 = 4294967295 then (some true) else (some (decide ((IntKind.u64.wrap ((IntKind.u64.wrap (t127 + 1)) * (IntKind.u64.wrap (t127 + 1)))) > x2)))) else (some false)) else (some false)) else (some false))))
end
def tillerlaw02_CurveShapes.f (k : Nat) (a0 : Int) (a1 : Int) (a2 : Int) : Option (Bool) := if a0 ≤ a1 then ((curve_Pow.f a0).bind fun t119 => ((curve_Pow.f a1).bind fun t120 => (if t119 > t120 then (tillerlaw02_CurveShapes.j0 k a0 a2 true) else ((curve_Inverse.f k a0).bind fun t121 => ((curve_Inverse.f k a1).bind fun t122 => (tillerlaw02_CurveShapes.j0 k a0 a2 (decide (t121 < t122)))))))) else (tillerlaw02_CurveShapes.j0 k a0 a2 false)
theorem tillerlaw02_CurveShapes.mono_l : ∀ k, (∀ y0 y1 y2, LeO (tillerlaw02_CurveShapes.j0 k y0 y1 y2) (tillerlaw02_CurveShapes.j0 (k + 1) y0 y1 y2)) ∧ (∀ y0 y1, LeO (tillerlaw02_CurveShapes.j1 k y0 y1) (tillerlaw02_CurveShapes.j1 (k + 1) y0 y1))
 | 0 => ⟨fun _ _ _ r h => by simp [tillerlaw02_CurveShapes.j0] at h, fun _ _ r h => by simp [tillerlaw02_CurveShapes.j1] at h⟩
 | k + 1 => by
  obtain ⟨ih0, ih1⟩ := tillerlaw02_CurveShapes.mono_l k
  refine ⟨?_, ?_⟩
  ·intro y0 y1 y2
   unfold tillerlaw02_CurveShapes.j0
   repeat' first
   | (with_reducible exact ih0 _ _ _)
   | (with_reducible exact ih1 _ _)
   | (with_reducible exact curve_Inverse.mono _ _)
   | (with_reducible exact curve_Root.mono _ _)
   | (with_reducible exact LeO.refl _)
   | (with_reducible exact LeO.none _)
   | (with_reducible refine LeO.ite ?_ ?_)
   | (with_reducible refine LeO.bind ?_ (fun _ => ?_))
   | exact ih0 _ _ _
   | exact ih1 _ _
   | exact curve_Inverse.mono _ _
   | exact curve_Root.mono _ _
   | exact LeO.none _
   | refine LeO.ite ?_ ?_
   | refine LeO.bind ?_ (fun _ => ?_)
  ·intro y0 y1
   unfold tillerlaw02_CurveShapes.j1
   repeat' first
   | (with_reducible exact ih0 _ _ _)
   | (with_reducible exact ih1 _ _)
   | (with_reducible exact curve_Inverse.mono _ _)
   | (with_reducible exact curve_Root.mono _ _)
   | (with_reducible exact LeO.refl _)
   | (with_reducible exact LeO.none _)
   | (with_reducible refine LeO.ite ?_ ?_)
   | (with_reducible refine LeO.bind ?_ (fun _ => ?_))
   | exact ih0 _ _ _
   | exact ih1 _ _
   | exact curve_Inverse.mono _ _
   | exact curve_Root.mono _ _
   | exact LeO.none _
   | refine LeO.ite ?_ ?_
   | refine LeO.bind ?_ (fun _ => ?_)
theorem tillerlaw02_CurveShapes.mono : ∀ a0 a1 a2 k, LeO (tillerlaw02_CurveShapes.f k a0 a1 a2) (tillerlaw02_CurveShapes.f (k + 1) a0 a1 a2) := by
 intro a0 a1 a2 k
 obtain ⟨ih0, ih1⟩ := tillerlaw02_CurveShapes.mono_l k
 unfold tillerlaw02_CurveShapes.f
 repeat' first
   | (with_reducible exact ih0 _ _ _)
   | (with_reducible exact ih1 _ _)
   | (with_reducible exact curve_Inverse.mono _ _)
   | (with_reducible exact curve_Root.mono _ _)
   | (with_reducible exact LeO.refl _)
   | (with_reducible exact LeO.none _)
   | (with_reducible refine LeO.ite ?_ ?_)
   | (with_reducible refine LeO.bind ?_ (fun _ => ?_))
   | exact ih0 _ _ _
   | exact ih1 _ _
   | exact curve_Inverse.mono _ _
   | exact curve_Root.mono _ _
   | exact LeO.none _
   | refine LeO.ite ?_ ?_
   | refine LeO.bind ?_ (fun _ => ?_)
set_option maxHeartbeats 8000000 in
set_option maxRecDepth 100000 in
theorem tillerlaw02_CurveShapes.calls (k : Nat) (a0 : Int) (a1 : Int) (a2 : Int) (r : Bool) (w : World) (hr_ : Aside0 (r = true)) (h : tillerlaw02_CurveShapes.f k a0 a1 a2 = some r) :
  Calls Try.prog 5 #[.int .i32 a0, .int .i32 a1, .int .u64 a2] w fun e w' => e = .returned (.bool r) ∧ Below w.heap.size w w' := by
 have HB := Aside0.mk (Below.refl w.heap.size w)
 have H : (if a0 ≤ a1 then ((curve_Pow.f a0).bind fun t119 => ((curve_Pow.f a1).bind fun t120 => (if t119 > t120 then (tillerlaw02_CurveShapes.j0 k a0 a2 true) else ((curve_Inverse.f k a0).bind fun t121 => ((curve_Inverse.f k a1).bind fun t122 => (tillerlaw02_CurveShapes.j0 k a0 a2 (decide (t121 < t122)))))))) else (tillerlaw02_CurveShapes.j0 k a0 a2 false)) = some r := h
 clear h
 have HC4 := Aside0.mk H
 clear H
 go_enter Try.func5, Try.ntmps5
 go_upto_region 1 with (fail)
 go_cut [24] (fun v24 wc => ∃ (kq : Nat) (x24_3 : Bool), v24 = .bool x24_3 ∧ Aside0 (tillerlaw02_CurveShapes.j0 kq a0 a2 x24_3 = some r) ∧ Aside0 (kq ≤ k) ∧ Aside0 (Below w.heap.size w wc))
 case first =>
  have H := HC4.out
  clear HC4
  by_cases c5 : a0 ≤ a1
  ·rw [if_pos c5] at H
   have c5b0 : decide (a0 ≤ a1) = true := decide_eq_true c5
   clear c5
   (first | rw [c5b0] | (simp only [i64_w, i32_w]; rw [c5b0]) | skip)
   replace H := Option.bind_eq_some_iff.mp H
   obtain ⟨t119, A60, H⟩ := H
   replace H : ((curve_Pow.f a1).bind fun t120 => (if t119 > t120 then (tillerlaw02_CurveShapes.j0 k a0 a2 true) else ((curve_Inverse.f k a0).bind fun t121 => ((curve_Inverse.f k a1).bind fun t122 => (tillerlaw02_CurveShapes.j0 k a0 a2 (decide (t121 < t122))))))) = some r := H
   have A6 := Aside0.mk A60
   clear A60
   replace H := Option.bind_eq_some_iff.mp H
   obtain ⟨t120, A70, H⟩ := H
   replace H : (if t119 > t120 then (tillerlaw02_CurveShapes.j0 k a0 a2 true) else ((curve_Inverse.f k a0).bind fun t121 => ((curve_Inverse.f k a1).bind fun t122 => (tillerlaw02_CurveShapes.j0 k a0 a2 (decide (t121 < t122)))))) = some r := H
   have A7 := Aside0.mk A70
   clear A70
   by_cases c8 : t119 > t120
   ·rw [if_pos c8] at H
    have c8b0 : decide (t120 < t119) = true := decide_eq_true c8
    clear c8
    have H' := Aside0.mk H
    clear H
    go_wp2_with (first | (go_at_call 9; (with_reducible refine (curve_Pow.calls a0 t119 _ A6.out).mono ?_); rintro e w9 ⟨rfl, hb⟩; have n0_ := Aside0.mk (below_step (by repeat (first | (with_reducible first | exact HB.out | apply bwA | apply bwN | apply bwD) | exact HB.out)) hb); clear HB; have HB := n0_; clear n0_; (try clear hb); (try clear hb2); (try clear hk); (try clear hi)) | (go_at_call 9; (with_reducible refine (curve_Pow.calls a1 t120 _ A7.out).mono ?_); rintro e w10 ⟨rfl, hb⟩; have n0_ := Aside0.mk (below_step (by repeat (first | (with_reducible first | exact HB.out | apply bwA | apply bwN | apply bwD) | exact HB.out)) hb); clear HB; have HB := n0_; clear n0_; (try clear hb); (try clear hb2); (try clear hk); (try clear hi)))
    go_meet
    case rel => exact ⟨_, (true), (by first | rfl | (simp; done) | (simp [*]; done)), H', ⟨by first | omega | exact Nat.le_refl _⟩, ⟨by repeat (first | (with_reducible first | exact HB.out | apply bwA | apply bwN | apply bwD) | exact HB.out)⟩⟩
   ·rw [if_neg c8] at H
    have c8b0 : decide (t120 < t119) = false := decide_eq_false c8
    clear c8
    replace H := Option.bind_eq_some_iff.mp H
    obtain ⟨t121, A110, H⟩ := H
    replace H : ((curve_Inverse.f k a1).bind fun t122 => (tillerlaw02_CurveShapes.j0 k a0 a2 (decide (t121 < t122)))) = some r := H
    have A11 := Aside0.mk A110
    clear A110
    replace H := Option.bind_eq_some_iff.mp H
    obtain ⟨t122, A120, H⟩ := H
    replace H : (tillerlaw02_CurveShapes.j0 k a0 a2 (decide (t121 < t122))) = some r := H
    have A12 := Aside0.mk A120
    clear A120
    have H' := Aside0.mk H
    clear H
    go_wp2_with (first | (go_at_call 9; (with_reducible refine (curve_Pow.calls a0 t119 _ A6.out).mono ?_); rintro e w13 ⟨rfl, hb⟩; have n0_ := Aside0.mk (below_step (by repeat (first | (with_reducible first | exact HB.out | apply bwA | apply bwN | apply bwD) | exact HB.out)) hb); clear HB; have HB := n0_; clear n0_; (try clear hb); (try clear hb2); (try clear hk); (try clear hi)) | (go_at_call 9; (with_reducible refine (curve_Pow.calls a1 t120 _ A7.out).mono ?_); rintro e w14 ⟨rfl, hb⟩; have n0_ := Aside0.mk (below_step (by repeat (first | (with_reducible first | exact HB.out | apply bwA | apply bwN | apply bwD) | exact HB.out)) hb); clear HB; have HB := n0_; clear n0_; (try clear hb); (try clear hb2); (try clear hk); (try clear hi)) | (go_at_call 15; (with_reducible refine (curve_Inverse.calls k a0 t121 _ A11.out).mono ?_); rintro e w' ⟨rfl, ⟨nd, rfl⟩⟩) | (go_at_call 15; (with_reducible refine (curve_Inverse.calls k a1 t122 _ A12.out).mono ?_); rintro e w' ⟨rfl, ⟨nd, rfl⟩⟩))
    go_meet
    case rel => exact ⟨_, (decide (t121 < t122)), (by first | rfl | (simp; done) | (simp [*]; done)), H', ⟨by first | omega | exact Nat.le_refl _⟩, ⟨by repeat (first | (with_reducible first | exact HB.out | apply bwA | apply bwN | apply bwD) | exact HB.out)⟩⟩
  ·rw [if_neg c5] at H
   have c5b0 : decide (a0 ≤ a1) = false := decide_eq_false c5
   clear c5
   (first | rw [c5b0] | (simp only [i64_w, i32_w]; rw [c5b0]) | skip)
   have H' := Aside0.mk H
   clear H
   go_wp2
   go_meet
   case rel => exact ⟨_, (false), (by first | rfl | (simp; done) | (simp [*]; done)), H', ⟨by first | omega | exact Nat.le_refl _⟩, ⟨by repeat (first | (with_reducible first | exact HB.out | apply bwA | apply bwN | apply bwD) | exact HB.out)⟩⟩
 case rest =>
  clear HC4
  try clear p2
  try clear c5
  try clear c5b0
  try clear c8
  try clear c8b0
  obtain ⟨kq, x24_3, rfl, HA, HJ3, HB⟩ := hcut
  cases kq with
  | zero => exact absurd HA.out (by simp [tillerlaw02_CurveShapes.j0])
  | succ kj3 =>
   have H := HA.out
   clear HA
   simp only [tillerlaw02_CurveShapes.j0] at H
   by_cases c15 : x24_3 = true
   ·subst c15
    have H1 : (some false) = some r := by rw [if_pos rfl] at H; exact H
    clear H
    have H := H1
    clear H1
    exact absurd (Option.some.inj H) (by rw [hr_.out]; decide)
   ·replace c15 := Bool.eq_false_iff.mpr c15
    subst c15
    have H1 : (if a0 ≤ 0 then (if a0 > (-1073741824) then ((curve_Pow.f (wrap32 (a0 - 65536))).bind fun t123 => ((curve_Pow.f a0).bind fun t124 => (if t123 = (wrap32 (Int.tdiv t124 2)) then (if t124 < 0 then (tillerlaw02_CurveShapes.j1 kj3 a2 true) else (tillerlaw02_CurveShapes.j1 kj3 a2 (decide (t124 > 65536)))) else (tillerlaw02_CurveShapes.j1 kj3 a2 true)))) else ((curve_Pow.f a0).bind fun t125 => (if t125 < 0 then (tillerlaw02_CurveShapes.j1 kj3 a2 true) else (tillerlaw02_CurveShapes.j1 kj3 a2 (decide (t125 > 65536)))))) else ((curve_Pow.f a0).bind fun t126 => (if t126 < 0 then (tillerlaw02_CurveShapes.j1 kj3 a2 true) else (tillerlaw02_CurveShapes.j1 kj3 a2 (decide (t126 > 65536)))))) = some r := by rw [if_neg (show ¬ (false = true) by decide)] at H; exact H
    clear H
    have H := H1
    clear H1
    have HC16 := Aside0.mk H
    clear H
    go_upto_region 3 with (fail)
    go_cut [49] (fun v49 wc => ∃ (kq : Nat) (x49_15 : Bool), v49 = .bool x49_15 ∧ Aside0 (tillerlaw02_CurveShapes.j1 kq a2 x49_15 = some r) ∧ Aside0 (kq ≤ kj3) ∧ Aside0 (Below w.heap.size w wc))
    case first =>
     have H := HC16.out
     clear HC16
     by_cases c17 : a0 ≤ 0
     ·rw [if_pos c17] at H
      have c17b0 : decide (a0 ≤ 0) = true := decide_eq_true c17
      clear c17
      (first | rw [c17b0] | (simp only [i64_w, i32_w]; rw [c17b0]) | skip)
      by_cases c18 : a0 > (-1073741824)
      ·rw [if_pos c18] at H
       have c18b0 : decide ((-1073741824) < a0) = true := decide_eq_true c18
       clear c18
       replace H := Option.bind_eq_some_iff.mp H
       obtain ⟨t123, A190, H⟩ := H
       replace H : ((curve_Pow.f a0).bind fun t124 => (if t123 = (wrap32 (Int.tdiv t124 2)) then (if t124 < 0 then (tillerlaw02_CurveShapes.j1 kj3 a2 true) else (tillerlaw02_CurveShapes.j1 kj3 a2 (decide (t124 > 65536)))) else (tillerlaw02_CurveShapes.j1 kj3 a2 true))) = some r := H
       have A19 := Aside0.mk A190
       clear A190
       replace H := Option.bind_eq_some_iff.mp H
       obtain ⟨t124, A200, H⟩ := H
       replace H : (if t123 = (wrap32 (Int.tdiv t124 2)) then (if t124 < 0 then (tillerlaw02_CurveShapes.j1 kj3 a2 true) else (tillerlaw02_CurveShapes.j1 kj3 a2 (decide (t124 > 65536)))) else (tillerlaw02_CurveShapes.j1 kj3 a2 true)) = some r := H
       have A20 := Aside0.mk A200
       clear A200
       by_cases c21 : t123 = (wrap32 (Int.tdiv t124 2))
       ·rw [if_pos c21] at H
        have c21b0 : (t123 == (wrap32 (Int.tdiv t124 2))) = true := beq_iff_eq.mpr c21
        have c21b1 : (t123 != (wrap32 (Int.tdiv t124 2))) = false := bne_eq_false_iff_eq.mpr c21
        clear c21
        by_cases c22 : t124 < 0
        ·rw [if_pos c22] at H
         have c22b0 : decide (t124 < 0) = true := decide_eq_true c22
         clear c22
         have H' := Aside0.mk H
         clear H
         go_wp2_with (first | (go_at_call 9; (with_reducible refine (curve_Pow.calls (wrap32 (a0 - 65536)) t123 _ A19.out).mono ?_); rintro e w23 ⟨rfl, hb⟩; have n0_ := Aside0.mk (below_step (by repeat (first | (with_reducible first | exact HB.out | apply bwA | apply bwN | apply bwD) | exact HB.out)) hb); clear HB; have HB := n0_; clear n0_; (try clear hb); (try clear hb2); (try clear hk); (try clear hi)) | (go_at_call 9; (with_reducible refine (curve_Pow.calls a0 t124 _ A20.out).mono ?_); rintro e w24 ⟨rfl, hb⟩; have n0_ := Aside0.mk (below_step (by repeat (first | (with_reducible first | exact HB.out | apply bwA | apply bwN | apply bwD) | exact HB.out)) hb); clear HB; have HB := n0_; clear n0_; (try clear hb); (try clear hb2); (try clear hk); (try clear hi)))
         go_meet
         case rel => exact ⟨_, (true), (by first | rfl | (simp; done) | (simp [*]; done)), H', ⟨by have := HJ3.out; first | omega | exact Nat.le_refl _⟩, ⟨by repeat (first | (with_reducible first | exact HB.out | apply bwA | apply bwN | apply bwD) | exact HB.out)⟩⟩
        ·rw [if_neg c22] at H
         have c22b0 : decide (t124 < 0) = false := decide_eq_false c22
         clear c22
         have H' := Aside0.mk H
         clear H
         go_wp2_with (first | (go_at_call 9; (with_reducible refine (curve_Pow.calls (wrap32 (a0 - 65536)) t123 _ A19.out).mono ?_); rintro e w25 ⟨rfl, hb⟩; have n0_ := Aside0.mk (below_step (by repeat (first | (with_reducible first | exact HB.out | apply bwA | apply bwN | apply bwD) | exact HB.out)) hb); clear HB; have HB := n0_; clear n0_; (try clear hb); (try clear hb2); (try clear hk); (try clear hi)) | (go_at_call 9; (with_reducible refine (curve_Pow.calls a0 t124 _ A20.out).mono ?_); rintro e w26 ⟨rfl, hb⟩; have n0_ := Aside0.mk (below_step (by repeat (first | (with_reducible first | exact HB.out | apply bwA | apply bwN | apply bwD) | exact HB.out)) hb); clear HB; have HB := n0_; clear n0_; (try clear hb); (try clear hb2); (try clear hk); (try clear hi)))
         go_meet
         case rel => exact ⟨_, (decide (t124 > 65536)), (by first | rfl | (simp; done) | (simp [*]; done)), H', ⟨by have := HJ3.out; first | omega | exact Nat.le_refl _⟩, ⟨by repeat (first | (with_reducible first | exact HB.out | apply bwA | apply bwN | apply bwD) | exact HB.out)⟩⟩
       ·rw [if_neg c21] at H
        have c21b0 : (t123 == (wrap32 (Int.tdiv t124 2))) = false := beq_eq_false_iff_ne.mpr c21
        have c21b1 : (t123 != (wrap32 (Int.tdiv t124 2))) = true := bne_iff_ne.mpr c21
        have H' := Aside0.mk H
        clear H
        go_wp2_with (first | (go_at_call 9; (with_reducible refine (curve_Pow.calls (wrap32 (a0 - 65536)) t123 _ A19.out).mono ?_); rintro e w27 ⟨rfl, hb⟩; have n0_ := Aside0.mk (below_step (by repeat (first | (with_reducible first | exact HB.out | apply bwA | apply bwN | apply bwD) | exact HB.out)) hb); clear HB; have HB := n0_; clear n0_; (try clear hb); (try clear hb2); (try clear hk); (try clear hi)) | (go_at_call 9; (with_reducible refine (curve_Pow.calls a0 t124 _ A20.out).mono ?_); rintro e w28 ⟨rfl, hb⟩; have n0_ := Aside0.mk (below_step (by repeat (first | (with_reducible first | exact HB.out | apply bwA | apply bwN | apply bwD) | exact HB.out)) hb); clear HB; have HB := n0_; clear n0_; (try clear hb); (try clear hb2); (try clear hk); (try clear hi)))
        go_meet
        case rel => exact ⟨_, (true), (by first | rfl | (simp; done) | (simp [*]; done)), H', ⟨by have := HJ3.out; first | omega | exact Nat.le_refl _⟩, ⟨by repeat (first | (with_reducible first | exact HB.out | apply bwA | apply bwN | apply bwD) | exact HB.out)⟩⟩
      ·rw [if_neg c18] at H
       have c18b0 : decide ((-1073741824) < a0) = false := decide_eq_false c18
       clear c18
       replace H := Option.bind_eq_some_iff.mp H
       obtain ⟨t125, A290, H⟩ := H
       replace H : (if t125 < 0 then (tillerlaw02_CurveShapes.j1 kj3 a2 true) else (tillerlaw02_CurveShapes.j1 kj3 a2 (decide (t125 > 65536)))) = some r := H
       have A29 := Aside0.mk A290
       clear A290
       by_cases c30 : t125 < 0
       ·rw [if_pos c30] at H
        have c30b0 : decide (t125 < 0) = true := decide_eq_true c30
        clear c30
        have H' := Aside0.mk H
        clear H
        go_wp2_with (first | (go_at_call 9; (with_reducible refine (curve_Pow.calls a0 t125 _ A29.out).mono ?_); rintro e w31 ⟨rfl, hb⟩; have n0_ := Aside0.mk (below_step (by repeat (first | (with_reducible first | exact HB.out | apply bwA | apply bwN | apply bwD) | exact HB.out)) hb); clear HB; have HB := n0_; clear n0_; (try clear hb); (try clear hb2); (try clear hk); (try clear hi)))
        go_meet
        case rel => exact ⟨_, (true), (by first | rfl | (simp; done) | (simp [*]; done)), H', ⟨by have := HJ3.out; first | omega | exact Nat.le_refl _⟩, ⟨by repeat (first | (with_reducible first | exact HB.out | apply bwA | apply bwN | apply bwD) | exact HB.out)⟩⟩
       ·rw [if_neg c30] at H
        have c30b0 : decide (t125 < 0) = false := decide_eq_false c30
        clear c30
        have H' := Aside0.mk H
        clear H
        go_wp2_with (first | (go_at_call 9; (with_reducible refine (curve_Pow.calls a0 t125 _ A29.out).mono ?_); rintro e w32 ⟨rfl, hb⟩; have n0_ := Aside0.mk (below_step (by repeat (first | (with_reducible first | exact HB.out | apply bwA | apply bwN | apply bwD) | exact HB.out)) hb); clear HB; have HB := n0_; clear n0_; (try clear hb); (try clear hb2); (try clear hk); (try clear hi)))
        go_meet
        case rel => exact ⟨_, (decide (t125 > 65536)), (by first | rfl | (simp; done) | (simp [*]; done)), H', ⟨by have := HJ3.out; first | omega | exact Nat.le_refl _⟩, ⟨by repeat (first | (with_reducible first | exact HB.out | apply bwA | apply bwN | apply bwD) | exact HB.out)⟩⟩
     ·rw [if_neg c17] at H
      have c17b0 : decide (a0 ≤ 0) = false := decide_eq_false c17
      clear c17
      (first | rw [c17b0] | (simp only [i64_w, i32_w]; rw [c17b0]) | skip)
      replace H := Option.bind_eq_some_iff.mp H
      obtain ⟨t126, A330, H⟩ := H
      replace H : (if t126 < 0 then (tillerlaw02_CurveShapes.j1 kj3 a2 true) else (tillerlaw02_CurveShapes.j1 kj3 a2 (decide (t126 > 65536)))) = some r := H
      have A33 := Aside0.mk A330
      clear A330
      by_cases c34 : t126 < 0
      ·rw [if_pos c34] at H
       have c34b0 : decide (t126 < 0) = true := decide_eq_true c34
       clear c34
       have H' := Aside0.mk H
       clear H
       go_wp2_with (first | (go_at_call 9; (with_reducible refine (curve_Pow.calls a0 t126 _ A33.out).mono ?_); rintro e w35 ⟨rfl, hb⟩; have n0_ := Aside0.mk (below_step (by repeat (first | (with_reducible first | exact HB.out | apply bwA | apply bwN | apply bwD) | exact HB.out)) hb); clear HB; have HB := n0_; clear n0_; (try clear hb); (try clear hb2); (try clear hk); (try clear hi)))
       go_meet
       case rel => exact ⟨_, (true), (by first | rfl | (simp; done) | (simp [*]; done)), H', ⟨by have := HJ3.out; first | omega | exact Nat.le_refl _⟩, ⟨by repeat (first | (with_reducible first | exact HB.out | apply bwA | apply bwN | apply bwD) | exact HB.out)⟩⟩
      ·rw [if_neg c34] at H
       have c34b0 : decide (t126 < 0) = false := decide_eq_false c34
       clear c34
       have H' := Aside0.mk H
       clear H
       go_wp2_with (first | (go_at_call 9; (with_reducible refine (curve_Pow.calls a0 t126 _ A33.out).mono ?_); rintro e w36 ⟨rfl, hb⟩; have n0_ := Aside0.mk (below_step (by repeat (first | (with_reducible first | exact HB.out | apply bwA | apply bwN | apply bwD) | exact HB.out)) hb); clear HB; have HB := n0_; clear n0_; (try clear hb); (try clear hb2); (try clear hk); (try clear hi)))
       go_meet
       case rel => exact ⟨_, (decide (t126 > 65536)), (by first | rfl | (simp; done) | (simp [*]; done)), H', ⟨by have := HJ3.out; first | omega | exact Nat.le_refl _⟩, ⟨by repeat (first | (with_reducible first | exact HB.out | apply bwA | apply bwN | apply bwD) | exact HB.out)⟩⟩
    case rest =>
     clear HC16
     try clear c1
     try clear c2
     try clear p2
     try clear c3
     try clear p3
     try clear c5
     try clear c5b0
     try clear c8
     try clear c8b0
     try clear c15
     try clear c17
     try clear c17b0
     try clear c18
     try clear c18b0
     try clear c21
     try clear c21b0
     try clear c21b1
     try clear c22
     try clear c22b0
     try clear c30
     try clear c30b0
     try clear p32
     try clear c34
     try clear c34b0
     try clear p2
     obtain ⟨kq, x49_15, rfl, HA, HJ15, HB⟩ := hcut
     cases kq with
     | zero => exact absurd HA.out (by simp [tillerlaw02_CurveShapes.j1])
     | succ kj15 =>
      have H := HA.out
      clear HA
      simp only [tillerlaw02_CurveShapes.j1] at H
      by_cases c37 : x49_15 = true
      ·subst c37
       have H1 : (some false) = some r := by rw [if_pos rfl] at H; exact H
       clear H
       have H := H1
       clear H1
       exact absurd (Option.some.inj H) (by rw [hr_.out]; decide)
      ·replace c37 := Bool.eq_false_iff.mpr c37
       subst c37
       have H1 : ((curve_Root.f kj15 a2).bind fun t127 => ((tillerlaw02_awake.f).bind fun t128 => (if t128 = true then (if t127 < 4294967296 then (if (IntKind.u64.wrap (t127 * t127)) ≤ a2 then (if t127 = 4294967295 then (some true) else (some (decide ((IntKind.u64.wrap ((IntKind.u64.wrap (t127 + 1)) * (IntKind.u64.wrap (t127 + 1)))) > a2)))) else (some false)) else (some false)) else (some false)))) = some r := by rw [if_neg (show ¬ (false = true) by decide)] at H; exact H
       clear H
       have H := H1
       clear H1
       replace H := Option.bind_eq_some_iff.mp H
       obtain ⟨t127, A380, H⟩ := H
       replace H : ((tillerlaw02_awake.f).bind fun t128 => (if t128 = true then (if t127 < 4294967296 then (if (IntKind.u64.wrap (t127 * t127)) ≤ a2 then (if t127 = 4294967295 then (some true) else (some (decide ((IntKind.u64.wrap ((IntKind.u64.wrap (t127 + 1)) * (IntKind.u64.wrap (t127 + 1)))) > a2)))) else (some false)) else (some false)) else (some false))) = some r := H
       have A38 := Aside0.mk A380
       clear A380
       replace H := Option.bind_eq_some_iff.mp H
       obtain ⟨t128, A390, H⟩ := H
       replace H : (if t128 = true then (if t127 < 4294967296 then (if (IntKind.u64.wrap (t127 * t127)) ≤ a2 then (if t127 = 4294967295 then (some true) else (some (decide ((IntKind.u64.wrap ((IntKind.u64.wrap (t127 + 1)) * (IntKind.u64.wrap (t127 + 1)))) > a2)))) else (some false)) else (some false)) else (some false)) = some r := H
       have A39 := Aside0.mk A390
       clear A390
       by_cases c40 : t128 = true
       ·subst c40
        have H1 : (if t127 < 4294967296 then (if (IntKind.u64.wrap (t127 * t127)) ≤ a2 then (if t127 = 4294967295 then (some true) else (some (decide ((IntKind.u64.wrap ((IntKind.u64.wrap (t127 + 1)) * (IntKind.u64.wrap (t127 + 1)))) > a2)))) else (some false)) else (some false)) = some r := by rw [if_pos rfl] at H; exact H
        clear H
        have H := H1
        clear H1
        by_cases c41 : t127 < 4294967296
        ·rw [if_pos c41] at H
         have c41b0 : decide (t127 < 4294967296) = true := decide_eq_true c41
         clear c41
         by_cases c42 : (IntKind.u64.wrap (t127 * t127)) ≤ a2
         ·rw [if_pos c42] at H
          have c42b0 : decide ((IntKind.u64.wrap (t127 * t127)) ≤ a2) = true := decide_eq_true c42
          clear c42
          by_cases c43 : t127 = 4294967295
          ·rw [if_pos c43] at H
           have c43b0 : (t127 == 4294967295) = true := beq_iff_eq.mpr c43
           have c43b1 : (t127 != 4294967295) = false := bne_eq_false_iff_eq.mpr c43
           clear c43
           obtain rfl := Option.some.inj H
           go_wp2_with (first | ((with_reducible refine gate_callee (f := 13) rfl ?_); refine goesL_ (some 51) rfl rfl Try.func13 (by kernel_rfl) rfl #[.int .u64 a2] rfl (by (try simp only [List.map_toArray, List.map_cons, List.map_nil]); first | done | rfl | (simp only [List.length_drop, List.length_take]; rfl)) ?_; (with_reducible refine (curve_Root.calls kj15 a2 t127 _ A38.out).mono ?_); rintro e w' ⟨rfl, ⟨nd, rfl⟩⟩; refine ⟨_, rfl, ?_⟩) | ((with_reducible refine gate_callee (f := 8) rfl ?_); refine goesL_ (some 52) rfl rfl Try.func8 (by kernel_rfl) rfl #[] rfl (by (try simp only [List.map_toArray, List.map_cons, List.map_nil]); first | done | rfl | (simp only [List.length_drop, List.length_take]; rfl)) ?_; (with_reducible refine (tillerlaw02_awake.calls  true _ A39.out).mono ?_); rintro e w44 ⟨rfl, hb⟩; refine ⟨_, rfl, ?_⟩; have n0_ := Aside0.mk (below_step (by repeat (first | (with_reducible first | exact HB.out | apply bwA | apply bwN | apply bwD) | exact HB.out)) hb); clear HB; have HB := n0_; clear n0_; (try clear hb); (try clear hb2); (try clear hk); (try clear hi)))
           go_ret
           exact ⟨by first | rfl | (simp [errW_none, errW_some] <;> rfl) | (simp [*, errW_none, errW_some] <;> rfl), by repeat (first | (with_reducible first | exact HB.out | apply bwA | apply bwN | apply bwD) | exact HB.out)⟩
          ·rw [if_neg c43] at H
           have c43b0 : (t127 == 4294967295) = false := beq_eq_false_iff_ne.mpr c43
           have c43b1 : (t127 != 4294967295) = true := bne_iff_ne.mpr c43
           obtain rfl := Option.some.inj H
           go_wp2_with (first | ((with_reducible refine gate_callee (f := 13) rfl ?_); refine goesL_ (some 51) rfl rfl Try.func13 (by kernel_rfl) rfl #[.int .u64 a2] rfl (by (try simp only [List.map_toArray, List.map_cons, List.map_nil]); first | done | rfl | (simp only [List.length_drop, List.length_take]; rfl)) ?_; (with_reducible refine (curve_Root.calls kj15 a2 t127 _ A38.out).mono ?_); rintro e w' ⟨rfl, ⟨nd, rfl⟩⟩; refine ⟨_, rfl, ?_⟩) | ((with_reducible refine gate_callee (f := 8) rfl ?_); refine goesL_ (some 52) rfl rfl Try.func8 (by kernel_rfl) rfl #[] rfl (by (try simp only [List.map_toArray, List.map_cons, List.map_nil]); first | done | rfl | (simp only [List.length_drop, List.length_take]; rfl)) ?_; (with_reducible refine (tillerlaw02_awake.calls  true _ A39.out).mono ?_); rintro e w45 ⟨rfl, hb⟩; refine ⟨_, rfl, ?_⟩; have n0_ := Aside0.mk (below_step (by repeat (first | (with_reducible first | exact HB.out | apply bwA | apply bwN | apply bwD) | exact HB.out)) hb); clear HB; have HB := n0_; clear n0_; (try clear hb); (try clear hb2); (try clear hk); (try clear hi)))
           go_ret
           exact ⟨by first | rfl | (simp [errW_none, errW_some] <;> rfl) | (simp [*, errW_none, errW_some] <;> rfl), by repeat (first | (with_reducible first | exact HB.out | apply bwA | apply bwN | apply bwD) | exact HB.out)⟩
         ·rw [if_neg c42] at H
          exact absurd (Option.some.inj H) (by rw [hr_.out]; decide)
        ·rw [if_neg c41] at H
         exact absurd (Option.some.inj H) (by rw [hr_.out]; decide)
       ·replace c40 := Bool.eq_false_iff.mpr c40
        subst c40
        have H1 : (some false) = some r := by rw [if_neg (show ¬ (false = true) by decide)] at H; exact H
        clear H
        have H := H1
        clear H1
        exact absurd (Option.some.inj H) (by rw [hr_.out]; decide)

end Go.Proofs.Ytidmffdeeopgcaa.GQ
