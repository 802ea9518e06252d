/- Layer 2's awake, walked by hand: each call's answer is known. -/
import Derived.Test.YtidmffdeeopgcaaGCurve
import Derived.Test.YtidmffdeeopgcaaGRx1
import Derived.Test.YtidmffdeeopgcaaGRx2
set_option linter.unusedVariables false
set_option linter.unusedSimpArgs false
namespace Go.Proofs.Ytidmffdeeopgcaa.GAwake
open Go.RowKit Go.Proofs.YtidmffdeeopgcaaW.PrintWords Go.Proofs.YtidmffdeeopgcaaW.PrintLast Go.Proofs.YtidmffdeeopgcaaW.PrintMore
open Go.Proofs.Ytidmffdeeopgcaa.GCurve (stepAt stepsA curve_Pow.f)
def tillerlaw02_awake.f : Option Bool := some true
theorem index_steps (i : Int) (h0 : 0 ≤ i) (h1 : i < 65) (W : World) : (Instr.index 25 (.agg stepsA) (.int .i64 i)).run Try.prog W = .ok (.int .i32 (stepAt i)) W := by
  have hl : GCurve.stepsL.length = 65 := rfl
  have hg : stepsA[i.toNat]? = some (.int .i32 (stepAt i)) := by
    unfold stepsA stepAt rd
    rw [List.getElem?_toArray, List.getElem?_map, List.getD_eq_getElem?_getD, List.getElem?_eq_getElem (by omega)]
    rfl
  have hn : 0 ≤ i ∧ i < ((65 : Nat) : Int) := ⟨h0, h1⟩
  simp [Instr.index, run_underlying Try.underlying25, asIntOf, h0, h1, go_sem]
  rw [hg]
  rfl
set_option maxHeartbeats 1000000 in
set_option maxRecDepth 100000 in
theorem tillerlaw02_awake.calls (r : Bool) (w : World) (h : tillerlaw02_awake.f = some r) : Calls Try.prog 8 #[] w fun e w' => e = .returned (.bool r) ∧ Below w.heap.size w w' := by
  cases h
  have hx := index_steps 32 (by decide) (by decide)
  rw [show stepAt 32 = 46341 by decide +kernel] at hx
  go_enter Try.func8, Try.ntmps8
  go_wp2_with (first
    | (go_at_call 9; refine (GCurve.curve_Pow.calls (-65536) 32768 _ (by decide +kernel)).mono ?_; rintro e w1 ⟨rfl, hb1⟩)
    | (go_at_call 13; refine (GR.curve_Root.calls 100 15 3 _ (by decide +kernel)).mono ?_; rintro e w2 ⟨rfl, hb2⟩)
    | (go_at_call 15; refine (GR.curve_Inverse.calls 100 65536 65536 _ (by decide +kernel)).mono ?_; rintro e w3 ⟨rfl, hb3⟩)
    | (go_at_call 11; refine (GCurve.curve_Steps.calls _).mono ?_; rintro e w4 ⟨rfl, hb4⟩))
  go_ret
  exact ⟨rfl, below_step (below_step (below_step hb1 hb2.below) hb3.below) hb4⟩
end Go.Proofs.Ytidmffdeeopgcaa.GAwake
