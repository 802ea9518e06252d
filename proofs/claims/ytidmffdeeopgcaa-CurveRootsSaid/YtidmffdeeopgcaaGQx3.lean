-- written by this session's program gprint.py
import Derived.Test.YtidmffdeeopgcaaGQx0
import Derived.Test.YtidmffdeeopgcaaGQx1
import Derived.Test.YtidmffdeeopgcaaGQx2
import Derived.Test.YtidmffdeeopgcaaWLast
import Derived.Test.YtidmffdeeopgcaaWMore
import Derived.Test.YtidmffdeeopgcaaWWords
namespace Go.Proofs.Ytidmffdeeopgcaa.GQ
open Go.RowKit Go.Proofs.YtidmffdeeopgcaaW.PrintWords Go.Proofs.YtidmffdeeopgcaaW.PrintLast Go.Proofs.YtidmffdeeopgcaaW.PrintMore Go.Proofs.Ytidmffdeeopgcaa.GLen Go.Proofs.Ytidmffdeeopgcaa.GCurve Go.Proofs.Ytidmffdeeopgcaa.GAwake
attribute [local go_sem] max2_int min2_int max_two min_two max_three min_three max_four min_four   -- for this text's walks alone
set_option linter.unusedVariables false
set_option linter.unusedSimpArgs false

/-! ### tillerlaw02_CurveRoots: function 4 -/
def tillerlaw02_CurveRoots.f (k : Nat) (a0 : Int) (a1 : Int) : Option (Bool) := (tillerlaw02_awake.f).bind fun t114 => (if t114 = true then ((curve_Root.f k a0).bind fun t115 => ((tillerref02_Root.f k a0).bind fun t116 => (if t115 = t116 then ((curve_Inverse.f k a1).bind fun t117 => ((tillerref02_Inverse.f k a1).bind fun t118 => (some (t117 == t118)))) else (some false)))) else (some false))
theorem tillerlaw02_CurveRoots.mono : ∀ a0 a1 k, LeO (tillerlaw02_CurveRoots.f k a0 a1) (tillerlaw02_CurveRoots.f (k + 1) a0 a1) := by
 intro a0 a1 k
 unfold tillerlaw02_CurveRoots.f
 repeat' first
   | (with_reducible exact curve_Inverse.mono _ _)
   | (with_reducible exact curve_Root.mono _ _)
   | (with_reducible exact tillerref02_Inverse.mono _ _)
   | (with_reducible exact tillerref02_Root.mono _ _)
   | (with_reducible exact LeO.refl _)
   | (with_reducible exact LeO.none _)
   | (with_reducible refine LeO.ite ?_ ?_)
   | (with_reducible refine LeO.bind ?_ (fun _ => ?_))
   | exact curve_Inverse.mono _ _
   | exact curve_Root.mono _ _
   | exact tillerref02_Inverse.mono _ _
   | exact tillerref02_Root.mono _ _
   | exact LeO.none _
   | refine LeO.ite ?_ ?_
   | refine LeO.bind ?_ (fun _ => ?_)
set_option maxHeartbeats 8000000 in
set_option maxRecDepth 100000 in
theorem tillerlaw02_CurveRoots.calls (k : Nat) (a0 : Int) (a1 : Int) (r : Bool) (w : World) (hr_ : Aside0 (r = true)) (h : tillerlaw02_CurveRoots.f k a0 a1 = some r) :
  Calls Try.prog 4 #[.int .u64 a0, .int .i32 a1] w fun e w' => e = .returned (.bool r) ∧ Below w.heap.size w w' := by
 have HB := Aside0.mk (Below.refl w.heap.size w)
 have H : ((tillerlaw02_awake.f).bind fun t114 => (if t114 = true then ((curve_Root.f k a0).bind fun t115 => ((tillerref02_Root.f k a0).bind fun t116 => (if t115 = t116 then ((curve_Inverse.f k a1).bind fun t117 => ((tillerref02_Inverse.f k a1).bind fun t118 => (some (t117 == t118)))) else (some false)))) else (some false))) = some r := h
 clear h
 replace H := Option.bind_eq_some_iff.mp H
 obtain ⟨t114, A30, H⟩ := H
 replace H : (if t114 = true then ((curve_Root.f k a0).bind fun t115 => ((tillerref02_Root.f k a0).bind fun t116 => (if t115 = t116 then ((curve_Inverse.f k a1).bind fun t117 => ((tillerref02_Inverse.f k a1).bind fun t118 => (some (t117 == t118)))) else (some false)))) else (some false)) = some r := H
 have A3 := Aside0.mk A30
 clear A30
 by_cases c4 : t114 = true
 ·subst c4
  have H1 : ((curve_Root.f k a0).bind fun t115 => ((tillerref02_Root.f k a0).bind fun t116 => (if t115 = t116 then ((curve_Inverse.f k a1).bind fun t117 => ((tillerref02_Inverse.f k a1).bind fun t118 => (some (t117 == t118)))) else (some false)))) = some r := by rw [if_pos rfl] at H; exact H
  clear H
  have H := H1
  clear H1
  replace H := Option.bind_eq_some_iff.mp H
  obtain ⟨t115, A50, H⟩ := H
  replace H : ((tillerref02_Root.f k a0).bind fun t116 => (if t115 = t116 then ((curve_Inverse.f k a1).bind fun t117 => ((tillerref02_Inverse.f k a1).bind fun t118 => (some (t117 == t118)))) else (some false))) = some r := H
  have A5 := Aside0.mk A50
  clear A50
  replace H := Option.bind_eq_some_iff.mp H
  obtain ⟨t116, A60, H⟩ := H
  replace H : (if t115 = t116 then ((curve_Inverse.f k a1).bind fun t117 => ((tillerref02_Inverse.f k a1).bind fun t118 => (some (t117 == t118)))) else (some false)) = some r := H
  have A6 := Aside0.mk A60
  clear A60
  by_cases c7 : t115 = t116
  ·rw [if_pos c7] at H
   have c7b0 : (t115 == t116) = true := beq_iff_eq.mpr c7
   have c7b1 : (t115 != t116) = false := bne_eq_false_iff_eq.mpr c7
   clear c7
   replace H := Option.bind_eq_some_iff.mp H
   obtain ⟨t117, A80, H⟩ := H
   replace H : ((tillerref02_Inverse.f k a1).bind fun t118 => (some (t117 == t118))) = some r := H
   have A8 := Aside0.mk A80
   clear A80
   replace H := Option.bind_eq_some_iff.mp H
   obtain ⟨t118, A90, H⟩ := H
   replace H : (some (t117 == t118)) = some r := H
   have A9 := Aside0.mk A90
   clear A90
   obtain rfl := Option.some.inj H
   go_enter Try.func4, Try.ntmps4
   go_wp2_with (first | ((with_reducible refine gate_callee (f := 8) rfl ?_); refine goesL_ (some 5) rfl rfl Try.func8 (by kernel_rfl) rfl #[] rfl (by (try simp only [List.map_toArray, List.map_cons, List.map_nil]); first | done | rfl | (simp only [List.length_drop, List.length_take]; rfl)) ?_; (with_reducible refine (tillerlaw02_awake.calls  true _ A3.out).mono ?_); rintro e w10 ⟨rfl, hb⟩; refine ⟨_, rfl, ?_⟩; have n0_ := Aside0.mk (below_step (by repeat (first | (with_reducible first | exact HB.out | apply bwA | apply bwN | apply bwD) | exact HB.out)) hb); clear HB; have HB := n0_; clear n0_; (try clear hb); (try clear hb2); (try clear hk); (try clear hi)) | (go_at_call 13; (with_reducible refine (curve_Root.calls k a0 t115 _ A5.out).mono ?_); rintro e w' ⟨rfl, ⟨nd, rfl⟩⟩) | (go_at_call 14; (with_reducible refine (tillerref02_Root.calls k a0 t116 _ A6.out).mono ?_); rintro e w' ⟨rfl, ⟨nd, rfl⟩⟩) | (go_at_call 15; (with_reducible refine (curve_Inverse.calls k a1 t117 _ A8.out).mono ?_); rintro e w' ⟨rfl, ⟨nd, rfl⟩⟩) | (go_at_call 16; (with_reducible refine (tillerref02_Inverse.calls k a1 t118 _ A9.out).mono ?_); rintro e w' ⟨rfl, ⟨nd, rfl⟩⟩))
   go_ret
   exact ⟨by first | rfl | (simp [errW_none, errW_some] <;> rfl) | (simp [*, errW_none, errW_some] <;> rfl), by repeat (first | (with_reducible first | exact HB.out | apply bwA | apply bwN | apply bwD) | exact HB.out)⟩
  ·rw [if_neg c7] at H
   exact absurd (Option.some.inj H) (by rw [hr_.out]; decide)
 ·replace c4 := Bool.eq_false_iff.mpr c4
  subst c4
  have H1 : (some false) = some r := by rw [if_neg (show ¬ (false = true) by decide)] at H; exact H
  clear H
  have H := H1
  clear H1
  exact absurd (Option.some.inj H) (by rw [hr_.out]; decide)

end Go.Proofs.Ytidmffdeeopgcaa.GQ
