/- CurvePows, walked by hand: each call's answer is known. -/
import Derived.Test.YtidmffdeeopgcaaGAwake
import Derived.Test.YtidmffdeeopgcaaURefPow
import Derived.Deep.RegionWith
set_option linter.unusedVariables false
set_option linter.unusedSimpArgs false
namespace Go.Proofs.Ytidmffdeeopgcaa.GPows
open Go.RowKit Go.Proofs.YtidmffdeeopgcaaW.PrintWords Go.Proofs.YtidmffdeeopgcaaW.PrintLast Go.Proofs.YtidmffdeeopgcaaW.PrintMore
open Go.Proofs.Ytidmffdeeopgcaa.GCurve (stepAt stepsA curve_Pow.f)
open Go.Proofs.Ytidmffdeeopgcaa.U (pow2 Pow_eq rPow_eq Step_eq pow2_bound)
def tillerlaw02_CurvePows.f (a0 a1 : Int) : Option Bool := if (-2147483648 ≤ a0 ∧ a0 ≤ 2147483647) ∧ (-9223372036854775808 ≤ a1 ∧ a1 ≤ 9223372036854775807) then some true else none
set_option maxHeartbeats 1000000 in
set_option maxRecDepth 100000 in
theorem tillerlaw02_CurvePows.calls (a0 a1 : Int) (r : Bool) (w : World) (hr_ : Aside0 (r = true)) (h : tillerlaw02_CurvePows.f a0 a1 = some r) : Calls Try.prog 3 #[.int .i32 a0, .int .i64 a1] w fun e w' => e = .returned (.bool r) ∧ Below w.heap.size w w' := by
  have hb : (-2147483648 ≤ a0 ∧ a0 ≤ 2147483647) ∧ (-9223372036854775808 ≤ a1 ∧ a1 ≤ 9223372036854775807) := by
    unfold tillerlaw02_CurvePows.f at h
    split at h
    · assumption
    · cases h
  obtain ⟨r_⟩ := hr_
  subst r_
  clear h
  obtain ⟨hb0, hb1⟩ := hb
  have P1 := Pow_eq a0 hb0
  have P2 := rPow_eq a0 hb0 100000 (by omega)
  obtain ⟨p, hp⟩ : ∃ p, pow2 a0 = p := ⟨_, rfl⟩
  rw [hp] at P1 P2
  clear hp
  have go : ∀ j : Int, 0 ≤ j → j < 65 → (∀ W : World, (Instr.index 25 (.agg stepsA) (.int .i64 j)).run Try.prog W = .ok (.int .i32 (stepAt j)) W) ∧ GQ.tillerref02_Step.f j = some (stepAt j) ∧ 32768 ≤ stepAt j ∧ stepAt j ≤ 65536 := fun j h0 h1 => ⟨GAwake.index_steps j h0 h1, Step_eq j h0 (by omega), GCurve.step_ok j h0 h1⟩
  by_cases c1 : a1 < 0
  · have f1 : decide (a1 < 0) = true := decide_eq_true c1
    obtain ⟨hx, hs, s0, s1⟩ := go 0 (by omega) (by omega)
    obtain ⟨s, hs_⟩ : ∃ s, stepAt 0 = s := ⟨_, rfl⟩
    rw [hs_] at hx hs s0 s1
    clear hs_
    clear go
    have hw : IntKind.i64.wrap s = s := by rw [IntKind.wrap_i64]; omega
    go_enter Try.func3, Try.ntmps3
    go_wp2
    go_region_with (first
      | (go_at_call 8; refine (GAwake.tillerlaw02_awake.calls true _ rfl).mono ?_; rintro e w1 ⟨rfl, hb1⟩)
      | (go_at_call 9; refine (GCurve.curve_Pow.calls a0 p _ P1).mono ?_; rintro e w2 ⟨rfl, hb2⟩)
      | (go_at_call 10; refine (GQ.tillerref02_Pow.calls 100000 a0 p _ P2).mono ?_; rintro e w3 ⟨rfl, hb3⟩)
      | (go_at_call 11; refine (GCurve.curve_Steps.calls _).mono ?_; rintro e w4 ⟨rfl, hb4⟩)
      | (go_at_call 12; refine (GQ.tillerref02_Step.calls 0 s _ hs).mono ?_; rintro e w5 ⟨rfl, hb5⟩))
    all_goals go_wp2
    all_goals go_ret
    all_goals
      have B1 : Below w.heap.size w w1 := below_step (Below.refl w.heap.size w).drew hb1
      have B5 := below_step (below_step (below_step (below_step B1 hb2) hb3) hb4) hb5
      refine ⟨?_, B5⟩
      go_simp
  by_cases c2 : a1 > 64
  · have f1 : decide (a1 < 0) = false := decide_eq_false c1
    have f2 : decide (a1 > 64) = true := decide_eq_true c2
    obtain ⟨hx, hs, s0, s1⟩ := go 0 (by omega) (by omega)
    obtain ⟨s, hs_⟩ : ∃ s, stepAt 0 = s := ⟨_, rfl⟩
    rw [hs_] at hx hs s0 s1
    clear hs_
    clear go
    have hw : IntKind.i64.wrap s = s := by rw [IntKind.wrap_i64]; omega
    go_enter Try.func3, Try.ntmps3
    go_wp2
    go_region_with (first
      | (go_at_call 8; refine (GAwake.tillerlaw02_awake.calls true _ rfl).mono ?_; rintro e w1 ⟨rfl, hb1⟩)
      | (go_at_call 9; refine (GCurve.curve_Pow.calls a0 p _ P1).mono ?_; rintro e w2 ⟨rfl, hb2⟩)
      | (go_at_call 10; refine (GQ.tillerref02_Pow.calls 100000 a0 p _ P2).mono ?_; rintro e w3 ⟨rfl, hb3⟩)
      | (go_at_call 11; refine (GCurve.curve_Steps.calls _).mono ?_; rintro e w4 ⟨rfl, hb4⟩)
      | (go_at_call 12; refine (GQ.tillerref02_Step.calls 0 s _ hs).mono ?_; rintro e w5 ⟨rfl, hb5⟩))
    all_goals go_wp2
    all_goals go_ret
    all_goals
      have B1 : Below w.heap.size w w1 := below_step (Below.refl w.heap.size w).drew hb1
      have B5 := below_step (below_step (below_step (below_step B1 hb2) hb3) hb4) hb5
      refine ⟨?_, B5⟩
      go_simp
  · have f1 : decide (a1 < 0) = false := decide_eq_false c1
    have f2 : decide (a1 > 64) = false := decide_eq_false c2
    obtain ⟨hx, hs, s0, s1⟩ := go a1 (by omega) (by omega)
    obtain ⟨s, hs_⟩ : ∃ s, stepAt a1 = s := ⟨_, rfl⟩
    rw [hs_] at hx hs s0 s1
    clear hs_
    clear go
    have hw : IntKind.i64.wrap s = s := by rw [IntKind.wrap_i64]; omega
    go_enter Try.func3, Try.ntmps3
    go_wp2
    go_region_with (first
      | (go_at_call 8; refine (GAwake.tillerlaw02_awake.calls true _ rfl).mono ?_; rintro e w1 ⟨rfl, hb1⟩)
      | (go_at_call 9; refine (GCurve.curve_Pow.calls a0 p _ P1).mono ?_; rintro e w2 ⟨rfl, hb2⟩)
      | (go_at_call 10; refine (GQ.tillerref02_Pow.calls 100000 a0 p _ P2).mono ?_; rintro e w3 ⟨rfl, hb3⟩)
      | (go_at_call 11; refine (GCurve.curve_Steps.calls _).mono ?_; rintro e w4 ⟨rfl, hb4⟩)
      | (go_at_call 12; refine (GQ.tillerref02_Step.calls a1 s _ hs).mono ?_; rintro e w5 ⟨rfl, hb5⟩))
    all_goals go_wp2
    all_goals go_ret
    all_goals
      have B1 : Below w.heap.size w w1 := below_step (Below.refl w.heap.size w).drew hb1
      have B5 := below_step (below_step (below_step (below_step B1 hb2) hb3) hb4) hb5
      refine ⟨?_, B5⟩
      go_simp
end Go.Proofs.Ytidmffdeeopgcaa.GPows
