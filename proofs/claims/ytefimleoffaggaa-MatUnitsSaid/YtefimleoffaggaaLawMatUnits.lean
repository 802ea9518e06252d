/- The law MatUnits holds of the given program at every input that its row speaks of: it returns true and leaves its arguments as they were. Conditions: none of ours beyond the row's own. Written by this session's program gprint.py. -/
import Derived.Test.YtefimleoffaggaaRows
import Derived.Test.YtefimleoffaggaaOMatUnits
import Derived.Test.YtefimleoffaggaaPureMatUnits
import Derived.Test.YtefimleoffaggaaWRow
import Derived.WalkKit
import Derived.ProofKit
import Derived.OpenShut
import Derived.ShutString
import Derived.ChangeOld
import Derived.Below
import Derived.SizedLaws
namespace Go.Proofs.Ytefimleoffaggaa.matUnits
open Go.ChangeShapes Go.WideShapes Go.ChangeAt Go.Joins
open Go.RowKit Go.Proofs.YtefimleoffaggaaW.PrintWords Go.Proofs.YtefimleoffaggaaW.PrintLast Go.Proofs.YtefimleoffaggaaW.PrintMore Go.Proofs.Ytefimleoffaggaa.GQ Go.Proofs.Ytefimleoffaggaa.OMatUnits
open Go.ChangeMaps (open_string shut_string)
set_option linter.unusedVariables false
theorem own : ownKnob Try.prog.godebug = none := by kernel_rfl
theorem laidOut : laidOutB Try.prog = true := by kernel_rfl
theorem opens_22 : Opens Try.prog 22 (Kd.slice 24 (Kd.int .i32)) (fun xs => (xs.length * 4 ≤ 140737488351232 ∧ xs.length ≤ maxLen ∧ ∀ x0 ∈ xs, (Lit.int .i32 x0).wf = true)) := opens_slice Try.underlying22 (by kernel_rfl) (by kernel_rfl) (opens_int (t := 24) Try.underlying24)
theorem opens_46 : Opens Try.prog 46 k46 (fun x => ((Lit.int .i64 x.f0).wf = true ∧ (Lit.int .i64 x.f1).wf = true ∧ (x.f2.length * 4 ≤ 140737488351232 ∧ x.f2.length ≤ maxLen ∧ ∀ x0 ∈ x.f2, (Lit.int .i32 x0).wf = true))) := opens_iso (fun x : S46 => (x.f0, x.f1, x.f2)) (fun y => ⟨y.1, y.2.1, y.2.2⟩) (fun _ => rfl) (opens_struct (tot := 3) Try.underlying46 rfl (by kernel_rfl) (seq_cons rfl (by kernel_rfl) (opens_int (t := 3) Try.underlying3) (seq_cons rfl (by kernel_rfl) (opens_int (t := 3) Try.underlying3) (seq_one rfl (by kernel_rfl) opens_22))))
set_option maxRecDepth 100000 in
theorem lifted (os : Os) (started : os.Started) (H : Type) (enc : TypeId × Value → H) :
    ReturnsInHanded {} Try.checked os 12 .any (Rows.matUnitsSpec.pre6 enc Try.prog Try.f12 Rows.matUnitsRow.domain false) (Rows.matUnitsSpec.post enc Try.prog Try.f12 false true false false) := by
  refine returnsInHanded_of_change_sized (C := Try.checked) own started (by kernel_rfl) Try.func12
    (ChangeSpec.witness6 (enc := enc) (C := Try.checked) false ⟨#[], #[(.agg #[(.int .i64 0), (.int .i64 0), (.slice none 0 0)]), (.int .i64 0)], []⟩ 8 (by kernel_rfl) (by kernel_rfl) (by kernel_rfl) (by kernel_rfl)) ?_
  intro W base args ds gs before hval0 hW hcnd hsz0 _
  have hsz : (DataW.weightsEach Try.prog (Try.f12.params.toList ++ Rows.matUnitsSpec.plain.varTypes Try.prog) (ds ++ gs)).all (· ≤ reachBytes) = true := hsz0
  have hval : ∀ (j : Nat) t v, Try.f12.params[j]? = some t → args[j]? = some v → Value.okWide Try.prog W .any base t v := hval0
  have hW' := hW
  obtain ⟨p, q, hA0, hV, rfl, hfz, hnd⟩ := hW
  have hA : DataW.TrodAll enc Try.prog W 0 (fun _ => true) true Try.f12.params.toList args.toList ds p := hA0
  rw [Try.params12] at hA hval hsz
  obtain ⟨v0, vs0, d0, ds0, p0, q0, hargs, rfl, rfl, h0, r0⟩ := trodAll_cons hA
  obtain ⟨v1, vs1, d1, ds1, p1, q1, rfl, rfl, rfl, h1, r1⟩ := trodAll_cons r0
  obtain ⟨rfl, rfl, rfl⟩ := trodAll_nil r1
  obtain rfl : args = #[v0, v1] := by cases args; simp_all
  obtain ⟨rfl, rfl⟩ := trodVars_none hV
  have k0 := h0
  have lt0 : ∀ x ∈ p0, x.block < W.heap.size := by obtain ⟨m, hm⟩ := k0; exact DataW.trod_lt m _ _ _ hm
  obtain ⟨x0, hK0, ok0⟩ := open_arg opens_46 hsz (j := 0) (t := 46) rfl rfl h0
  obtain ⟨cs0, rfl, _⟩ := okWide_struct Try.underlying46 (hval 0 46 v0 rfl rfl)
  obtain ⟨A0_2, c0_2, hc0, hl0_2, hr0_2⟩ := k46_open hK0
  obtain rfl : cs0 = #[.int .i64 x0.f0, .int .i64 x0.f1, .slice A0_2 x0.f2.length c0_2] := Array.toList_inj.mp (by simpa [Value.cells] using hc0)
  have k1 := h1
  have lt1 : ∀ x ∈ p1, x.block < W.heap.size := by obtain ⟨m, hm⟩ := k1; exact DataW.trod_lt m _ _ _ hm
  obtain ⟨x1, hK1, ok1⟩ := open_arg (opens_int (t := 3) Try.underlying3) hsz (j := 1) (t := 3) rfl rfl h1
  obtain ⟨a1, rfl, _, _, _⟩ := open_int Try.underlying3 (hval 1 3 v1 rfl rfl) h1
  obtain rfl : a1 = x1 := by simpa [Value.cells, Kd.int, Kd.scalar] using hK1
  clear hA0 hval0 hsz0 hsz
  obtain ⟨k, hp⟩ := Pure.MatUnits x0.f0 x0.f1 x0.f2 a1 ok0.1 ok0.2.1 ok0.2.2 ok1
  refine (tillerlaw04_MatUnits.calls x0.f0 x0.f1 _ _ x0.f2 a1 true W hr0_2 hl0_2 ⟨rfl⟩ hp).mono fun e W' ⟨he, bel0⟩ => ?_
  have bel : Below W.heap.size W W' := bel0
  subst he
  exact ⟨_, rfl, _, _, _, [], _, [], hW', trodAll_mk1 (shut_bool Try.underlying4 _), (trodAll_cons_mk (Below.trod laidOut (by kernel_rfl) (of_decide_eq_true (by kernel_rfl)) k0 bel lt0) (trodAll_cons_mk (Below.trod laidOut (by kernel_rfl) (of_decide_eq_true (by kernel_rfl)) k1 bel lt1) trodAll_mk0)), rfl, bel.frame _, fun h => by cases h⟩
theorem over : Rows.matUnitsRow.holds Try.pinned (OpenSpec.ofChange Rows.matUnitsSpec) :=
  OpenClaim.holds_of_wide 12 Try.f12 rfl rfl rfl rfl rfl rfl rfl ⟨rfl, rfl, rfl, rfl, rfl⟩ rfl rfl rfl rfl rfl (by kernel_rfl) Try.func12 (by kernel_rfl)
    (of_decide_eq_true (by kernel_rfl)) (by unfold Func.isWrapper; first | (rw [if_pos (by decide +kernel)]; kernel_rfl) | (rw [if_neg (by decide +kernel)]; exact ⟨rfl, rfl⟩))
    (fun os started H enc _ => lifted os started H enc)
theorem proved : Rows.MatUnitsSaid := over
#print axioms proved
end Go.Proofs.Ytefimleoffaggaa.matUnits
namespace Go.Proofs.Ytefimleoffaggaa
/-- The row, under a short name, for the claim. -/
theorem matUnits_holds : Rows.MatUnitsSaid := matUnits.proved
end Go.Proofs.Ytefimleoffaggaa
