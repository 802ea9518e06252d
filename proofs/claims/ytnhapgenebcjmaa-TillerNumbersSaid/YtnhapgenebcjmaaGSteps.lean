/- The table of steps of layer 2, walked by hand. -/
import Derived.Test.YtnhapgenebcjmaaWRow
import Derived.Test.YtnhapgenebcjmaaProg
import Derived.Deep.WholeRow
import Derived.Outline
set_option linter.unusedVariables false
set_option linter.unusedSimpArgs false
namespace Go.Proofs.Ytnhapgenebcjmaa.GCurve
open Go.RowKit Go.Proofs.YtnhapgenebcjmaaW.PrintWords Go.Proofs.YtnhapgenebcjmaaW.PrintLast Go.Proofs.YtnhapgenebcjmaaW.PrintMore
attribute [local go_sem] max2_int min2_int max_two min_two max_three min_three max_four min_four
def stepsL : List Int := [65536, 64830, 64132, 63441, 62757, 62081, 61413, 60751, 60097, 59449, 58809, 58176, 57549, 56929, 56316, 55709, 55109, 54515, 53928, 53347, 52773, 52204, 51642, 51085, 50535, 49991, 49452, 48920, 48393, 47871, 47356, 46846, 46341, 45842, 45348, 44859, 44376, 43898, 43425, 42958, 42495, 42037, 41584, 41136, 40693, 40255, 39821, 39392, 38968, 38548, 38133, 37722, 37316, 36914, 36516, 36123, 35734, 35349, 34968, 34591, 34219, 33850, 33486, 33125, 32768]
def stepsA : Array Value := (stepsL.map (Value.int .i32)).toArray
def zeroA : Array Value := (List.replicate 65 (Value.int .i32 0)).toArray
theorem zero_steps (w : World) : (zeroValue 63).run Try.prog w = .ok (.agg zeroA) w := by kernel_rfl
theorem info_steps : (Try.prog.info? 63).map (·.size) = some stepsA.size := by kernel_rfl
theorem one_steps : stepsA.all (·.oneCell') = true := by kernel_rfl
theorem wpList_store_new {P : Program} {ops : Array Oper} {rest : List Oper} {op : Oper} {a : Act} {w : World} {Q : Exit → Act → World → Prop} (hgd : op.guard = none) (ty : TypeId) (x y : Operand) (ho : op.op = .store ty x y)
    (c c' : Array Value) (hx : a.eval x = .pointer (some ⟨w.heap.size, 0, none⟩)) (hy : a.eval y = .agg c') (hi : (P.info? ty).map (·.size) = some c'.size) (hs : c.size = c'.size) (h1 : c'.all (·.oneCell') = true)
    (h : wpList P ops Q rest (a.put op.dst undef) (w.alloc (.cells c' ty))) : wpList P ops Q (op :: rest) a (w.alloc (.cells c ty)) :=
  wpList_plain hgd fun K hK => by
    unfold Oper.wp execOp
    simp only [ho, hx, hy, run_storeAt_new w ty c c' hi hs h1, Sem.run_bind, Sem.run_pure, Result.andThen_ok]
    exact hK _ _ h
set_option maxHeartbeats 1000000 in
set_option maxRecDepth 100000 in
theorem curve_Steps.calls (w : World) : Calls Try.prog 36 #[] w fun e w' => e = .returned (.agg stepsA) ∧ Below w.heap.size w w' := by
  have hz := zero_steps
  go_enter Try.func36, Try.ntmps36
  go_wp2_with (first | ((with_reducible refine gate_dst (N := 1) rfl ?_); refine event_run (v := .agg stepsA) rfl (by rfl) ?_) | (refine wpList_store_new rfl 63 _ _ rfl zeroA stepsA rfl rfl info_steps rfl one_steps ?_))
  refine bodyPost_ret (results_cell_row rfl _ _ _ _ stepsA _ _ rfl (heap_alloc_new _ _) Try.underlying63 rfl info_steps) rfl ⟨rfl, below_alloc (Below.refl _ _) _⟩
end Go.Proofs.Ytnhapgenebcjmaa.GCurve
