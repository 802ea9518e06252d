-- written by this session's program gprint.py
import Derived.Test.YtidmffdeeopgcaaGQx0
import Derived.Test.YtidmffdeeopgcaaGQx1
import Derived.Test.YtidmffdeeopgcaaWLast
import Derived.Test.YtidmffdeeopgcaaWMore
import Derived.Test.YtidmffdeeopgcaaWWords
namespace Go.Proofs.Ytidmffdeeopgcaa.GQ
open Go.RowKit Go.Proofs.YtidmffdeeopgcaaW.PrintWords Go.Proofs.YtidmffdeeopgcaaW.PrintLast Go.Proofs.YtidmffdeeopgcaaW.PrintMore Go.Proofs.Ytidmffdeeopgcaa.GLen Go.Proofs.Ytidmffdeeopgcaa.GCurve Go.Proofs.Ytidmffdeeopgcaa.GAwake
attribute [local go_sem] max2_int min2_int max_two min_two max_three min_three max_four min_four   -- for this text's walks alone
set_option linter.unusedVariables false
set_option linter.unusedSimpArgs false

/-! ### tillerlaw02_CurveNear: function 7 -/
def tillerlaw02_CurveNear.j0 : Nat → Int → Bool → Option (Bool)
 | 0, _, _ => none
 | k + 1, x0, x11 => if x11 = true then ((tillerlaw02_awake.f).bind fun t129 => (some t129)) else ((curve_Inverse.f k x0).bind fun t130 => ((tillerlaw02_awake.f).bind fun t131 => (if t131 = true then (if (IntKind.u64.wrap ((IntKind.u64.wrap ((IntKind.u64.wrap (x0)) * (IntKind.u64.wrap (t130)))) * (IntKind.u64.wrap (t130)))) ≤ 281474976710656 then (some (decide ((IntKind.u64.wrap ((IntKind.u64.wrap ((IntKind.u64.wrap (x0)) * (IntKind.u64.wrap ((IntKind.u64.wrap (t130)) + 1)))) * (IntKind.u64.wrap ((IntKind.u64.wrap (t130)) + 1)))) > (IntKind.u64.wrap (281474976710656 - (IntKind.u64.wrap (x0))))))) else (some false)) else (some false))))
def tillerlaw02_CurveNear.f (k : Nat) (a0 : Int) : Option (Bool) := if a0 < 256 then (tillerlaw02_CurveNear.j0 k a0 true) else (tillerlaw02_CurveNear.j0 k a0 (decide (a0 > 16777216)))
theorem tillerlaw02_CurveNear.mono_l : ∀ k, (∀ y0 y1, LeO (tillerlaw02_CurveNear.j0 k y0 y1) (tillerlaw02_CurveNear.j0 (k + 1) y0 y1))
 | 0 => fun _ _ r h => by simp [tillerlaw02_CurveNear.j0] at h
 | k + 1 => by
  have ih0 := tillerlaw02_CurveNear.mono_l k
  ·intro y0 y1
   unfold tillerlaw02_CurveNear.j0
   repeat' first
   | (with_reducible exact ih0 _ _)
   | (with_reducible exact curve_Inverse.mono _ _)
   | (with_reducible exact LeO.refl _)
   | (with_reducible exact LeO.none _)
   | (with_reducible refine LeO.ite ?_ ?_)
   | (with_reducible refine LeO.bind ?_ (fun _ => ?_))
   | exact ih0 _ _
   | exact curve_Inverse.mono _ _
   | exact LeO.none _
   | refine LeO.ite ?_ ?_
   | refine LeO.bind ?_ (fun _ => ?_)
theorem tillerlaw02_CurveNear.mono : ∀ a0 k, LeO (tillerlaw02_CurveNear.f k a0) (tillerlaw02_CurveNear.f (k + 1) a0) := by
 intro a0 k
 have ih0 := tillerlaw02_CurveNear.mono_l k
 unfold tillerlaw02_CurveNear.f
 repeat' first
   | (with_reducible exact ih0 _ _)
   | (with_reducible exact curve_Inverse.mono _ _)
   | (with_reducible exact LeO.refl _)
   | (with_reducible exact LeO.none _)
   | (with_reducible refine LeO.ite ?_ ?_)
   | (with_reducible refine LeO.bind ?_ (fun _ => ?_))
   | exact ih0 _ _
   | exact curve_Inverse.mono _ _
   | exact LeO.none _
   | refine LeO.ite ?_ ?_
   | refine LeO.bind ?_ (fun _ => ?_)
set_option maxHeartbeats 8000000 in
set_option maxRecDepth 100000 in
theorem tillerlaw02_CurveNear.calls (k : Nat) (a0 : Int) (r : Bool) (w : World) (hr_ : Aside0 (r = true)) (h : tillerlaw02_CurveNear.f k a0 = some r) :
  Calls Try.prog 7 #[.int .i32 a0] w fun e w' => e = .returned (.bool r) ∧ Below w.heap.size w w' := by
 have HB := Aside0.mk (Below.refl w.heap.size w)
 have H : (if a0 < 256 then (tillerlaw02_CurveNear.j0 k a0 true) else (tillerlaw02_CurveNear.j0 k a0 (decide (a0 > 16777216)))) = some r := h
 clear h
 have HC2 := Aside0.mk H
 clear H
 go_enter Try.func7, Try.ntmps7
 go_upto_region 1 with (fail)
 go_cut [11] (fun v11 wc => ∃ (kq : Nat) (x11_1 : Bool), v11 = .bool x11_1 ∧ Aside0 (tillerlaw02_CurveNear.j0 kq a0 x11_1 = some r) ∧ Aside0 (kq ≤ k) ∧ Aside0 (Below w.heap.size w wc))
 case first =>
  have H := HC2.out
  clear HC2
  by_cases c3 : a0 < 256
  ·rw [if_pos c3] at H
   have c3b0 : decide (a0 < 256) = true := decide_eq_true c3
   clear c3
   (first | rw [c3b0] | (simp only [i64_w, i32_w]; rw [c3b0]) | skip)
   have H' := Aside0.mk H
   clear H
   go_wp2
   go_meet
   case rel => exact ⟨_, (true), (by first | rfl | (simp; done) | (simp [*]; done)), H', ⟨by first | omega | exact Nat.le_refl _⟩, ⟨by repeat (first | (with_reducible first | exact HB.out | apply bwA | apply bwN | apply bwD) | exact HB.out)⟩⟩
  ·rw [if_neg c3] at H
   have c3b0 : decide (a0 < 256) = false := decide_eq_false c3
   clear c3
   (first | rw [c3b0] | (simp only [i64_w, i32_w]; rw [c3b0]) | skip)
   have H' := Aside0.mk H
   clear H
   go_wp2
   go_meet
   case rel => exact ⟨_, (decide (a0 > 16777216)), (by first | rfl | (simp; done) | (simp [*]; done)), H', ⟨by first | omega | exact Nat.le_refl _⟩, ⟨by repeat (first | (with_reducible first | exact HB.out | apply bwA | apply bwN | apply bwD) | exact HB.out)⟩⟩
 case rest =>
  clear HC2
  try clear p2
  try clear c3
  try clear c3b0
  obtain ⟨kq, x11_1, rfl, HA, HJ1, HB⟩ := hcut
  cases kq with
  | zero => exact absurd HA.out (by simp [tillerlaw02_CurveNear.j0])
  | succ kj1 =>
   have H := HA.out
   clear HA
   simp only [tillerlaw02_CurveNear.j0] at H
   by_cases c4 : x11_1 = true
   ·subst c4
    have H1 : ((tillerlaw02_awake.f).bind fun t129 => (some t129)) = some r := by rw [if_pos rfl] at H; exact H
    clear H
    have H := H1
    clear H1
    replace H := Option.bind_eq_some_iff.mp H
    obtain ⟨t129, A50, H⟩ := H
    replace H : (some t129) = some r := H
    have A5 := Aside0.mk A50
    clear A50
    obtain rfl := Option.some.inj H
    go_wp2_with (first | ((with_reducible refine gate_callee (f := 8) rfl ?_); refine goesL_ (some 12) rfl rfl Try.func8 (by kernel_rfl) rfl #[] rfl (by (try simp only [List.map_toArray, List.map_cons, List.map_nil]); first | done | rfl | (simp only [List.length_drop, List.length_take]; rfl)) ?_; (with_reducible refine (tillerlaw02_awake.calls  t129 _ A5.out).mono ?_); rintro e w6 ⟨rfl, hb⟩; refine ⟨_, rfl, ?_⟩; have n0_ := Aside0.mk (below_step (by repeat (first | (with_reducible first | exact HB.out | apply bwA | apply bwN | apply bwD) | exact HB.out)) hb); clear HB; have HB := n0_; clear n0_; (try clear hb); (try clear hb2); (try clear hk); (try clear hi)))
    go_ret
    exact ⟨by first | rfl | (simp [errW_none, errW_some] <;> rfl) | (simp [*, errW_none, errW_some] <;> rfl), by repeat (first | (with_reducible first | exact HB.out | apply bwA | apply bwN | apply bwD) | exact HB.out)⟩
   ·replace c4 := Bool.eq_false_iff.mpr c4
    subst c4
    have H1 : ((curve_Inverse.f kj1 a0).bind fun t130 => ((tillerlaw02_awake.f).bind fun t131 => (if t131 = true then (if (IntKind.u64.wrap ((IntKind.u64.wrap ((IntKind.u64.wrap (a0)) * (IntKind.u64.wrap (t130)))) * (IntKind.u64.wrap (t130)))) ≤ 281474976710656 then (some (decide ((IntKind.u64.wrap ((IntKind.u64.wrap ((IntKind.u64.wrap (a0)) * (IntKind.u64.wrap ((IntKind.u64.wrap (t130)) + 1)))) * (IntKind.u64.wrap ((IntKind.u64.wrap (t130)) + 1)))) > (IntKind.u64.wrap (281474976710656 - (IntKind.u64.wrap (a0))))))) else (some false)) else (some false)))) = some r := by rw [if_neg (show ¬ (false = true) by decide)] at H; exact H
    clear H
    have H := H1
    clear H1
    replace H := Option.bind_eq_some_iff.mp H
    obtain ⟨t130, A70, H⟩ := H
    replace H : ((tillerlaw02_awake.f).bind fun t131 => (if t131 = true then (if (IntKind.u64.wrap ((IntKind.u64.wrap ((IntKind.u64.wrap (a0)) * (IntKind.u64.wrap (t130)))) * (IntKind.u64.wrap (t130)))) ≤ 281474976710656 then (some (decide ((IntKind.u64.wrap ((IntKind.u64.wrap ((IntKind.u64.wrap (a0)) * (IntKind.u64.wrap ((IntKind.u64.wrap (t130)) + 1)))) * (IntKind.u64.wrap ((IntKind.u64.wrap (t130)) + 1)))) > (IntKind.u64.wrap (281474976710656 - (IntKind.u64.wrap (a0))))))) else (some false)) else (some false))) = some r := H
    have A7 := Aside0.mk A70
    clear A70
    replace H := Option.bind_eq_some_iff.mp H
    obtain ⟨t131, A80, H⟩ := H
    replace H : (if t131 = true then (if (IntKind.u64.wrap ((IntKind.u64.wrap ((IntKind.u64.wrap (a0)) * (IntKind.u64.wrap (t130)))) * (IntKind.u64.wrap (t130)))) ≤ 281474976710656 then (some (decide ((IntKind.u64.wrap ((IntKind.u64.wrap ((IntKind.u64.wrap (a0)) * (IntKind.u64.wrap ((IntKind.u64.wrap (t130)) + 1)))) * (IntKind.u64.wrap ((IntKind.u64.wrap (t130)) + 1)))) > (IntKind.u64.wrap (281474976710656 - (IntKind.u64.wrap (a0))))))) else (some false)) else (some false)) = some r := H
    have A8 := Aside0.mk A80
    clear A80
    by_cases c9 : t131 = true
    ·subst c9
     have H1 : (if (IntKind.u64.wrap ((IntKind.u64.wrap ((IntKind.u64.wrap (a0)) * (IntKind.u64.wrap (t130)))) * (IntKind.u64.wrap (t130)))) ≤ 281474976710656 then (some (decide ((IntKind.u64.wrap ((IntKind.u64.wrap ((IntKind.u64.wrap (a0)) * (IntKind.u64.wrap ((IntKind.u64.wrap (t130)) + 1)))) * (IntKind.u64.wrap ((IntKind.u64.wrap (t130)) + 1)))) > (IntKind.u64.wrap (281474976710656 - (IntKind.u64.wrap (a0))))))) else (some false)) = some r := by rw [if_pos rfl] at H; exact H
     clear H
     have H := H1
     clear H1
     by_cases c10 : (IntKind.u64.wrap ((IntKind.u64.wrap ((IntKind.u64.wrap (a0)) * (IntKind.u64.wrap (t130)))) * (IntKind.u64.wrap (t130)))) ≤ 281474976710656
     ·rw [if_pos c10] at H
      have c10b0 : decide ((IntKind.u64.wrap ((IntKind.u64.wrap ((IntKind.u64.wrap (a0)) * (IntKind.u64.wrap (t130)))) * (IntKind.u64.wrap (t130)))) ≤ 281474976710656) = true := decide_eq_true c10
      clear c10
      obtain rfl := Option.some.inj H
      go_wp2_with (first | ((with_reducible refine gate_callee (f := 15) rfl ?_); refine goesL_ (some 14) rfl rfl Try.func15 (by kernel_rfl) rfl #[.int .i32 a0] rfl (by (try simp only [List.map_toArray, List.map_cons, List.map_nil]); first | done | rfl | (simp only [List.length_drop, List.length_take]; rfl)) ?_; (with_reducible refine (curve_Inverse.calls kj1 a0 t130 _ A7.out).mono ?_); rintro e w' ⟨rfl, ⟨nd, rfl⟩⟩; refine ⟨_, rfl, ?_⟩) | ((with_reducible refine gate_callee (f := 8) rfl ?_); refine goesL_ (some 30) rfl rfl Try.func8 (by kernel_rfl) rfl #[] rfl (by (try simp only [List.map_toArray, List.map_cons, List.map_nil]); first | done | rfl | (simp only [List.length_drop, List.length_take]; rfl)) ?_; (with_reducible refine (tillerlaw02_awake.calls  true _ A8.out).mono ?_); rintro e w11 ⟨rfl, hb⟩; refine ⟨_, rfl, ?_⟩; have n0_ := Aside0.mk (below_step (by repeat (first | (with_reducible first | exact HB.out | apply bwA | apply bwN | apply bwD) | exact HB.out)) hb); clear HB; have HB := n0_; clear n0_; (try clear hb); (try clear hb2); (try clear hk); (try clear hi)))
      go_ret
      exact ⟨by first | rfl | (simp [errW_none, errW_some] <;> rfl) | (simp [*, errW_none, errW_some] <;> rfl), by repeat (first | (with_reducible first | exact HB.out | apply bwA | apply bwN | apply bwD) | exact HB.out)⟩
     ·rw [if_neg c10] at H
      exact absurd (Option.some.inj H) (by rw [hr_.out]; decide)
    ·replace c9 := Bool.eq_false_iff.mpr c9
     subst c9
     have H1 : (some false) = some r := by rw [if_neg (show ¬ (false = true) by decide)] at H; exact H
     clear H
     have H := H1
     clear H1
     exact absurd (Option.some.inj H) (by rw [hr_.out]; decide)

end Go.Proofs.Ytidmffdeeopgcaa.GQ
