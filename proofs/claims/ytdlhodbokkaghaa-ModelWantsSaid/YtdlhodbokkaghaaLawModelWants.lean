/- The law ModelWants holds of the given program at every input that its row speaks of: it returns true and leaves its arguments as they were. Conditions: none of ours beyond the row's own. Written by this session's program gprint.py. -/
import Derived.Test.YtdlhodbokkaghaaRows
import Derived.Test.YtdlhodbokkaghaaOWants
import Derived.Test.YtdlhodbokkaghaaPureModelWants
import Derived.Test.YtdlhodbokkaghaaWRow
import Derived.WalkKit
import Derived.ProofKit
import Derived.OpenShut
import Derived.ShutString
import Derived.ChangeOld
import Derived.Below
import Derived.SizedLaws
namespace Go.Proofs.Ytdlhodbokkaghaa.modelWants
open Go.ChangeShapes Go.WideShapes Go.ChangeAt Go.Joins
open Go.RowKit Go.Proofs.YtdlhodbokkaghaaW.PrintWords Go.Proofs.YtdlhodbokkaghaaW.PrintLast Go.Proofs.YtdlhodbokkaghaaW.PrintMore Go.Proofs.Ytdlhodbokkaghaa.GQ Go.Proofs.Ytdlhodbokkaghaa.OWants
open Go.ChangeMaps (open_string shut_string)
set_option linter.unusedVariables false
theorem own : ownKnob Try.prog.godebug = none := by kernel_rfl
theorem laidOut : laidOutB Try.prog = true := by kernel_rfl
theorem opens_23 : Opens Try.prog 23 k23 (fun x => ((Lit.int .i64 x.f0).wf = true ∧ (Lit.int .i64 x.f1).wf = true ∧ (Lit.int .i64 x.f2).wf = true ∧ (Lit.int .i64 x.f3).wf = true ∧ (Lit.int .i64 x.f4).wf = true)) := opens_iso (fun x : S23 => (x.f0, x.f1, x.f2, x.f3, x.f4)) (fun y => ⟨y.1, y.2.1, y.2.2.1, y.2.2.2.1, y.2.2.2.2⟩) (fun _ => rfl) (opens_struct (tot := 5) Try.underlying23 rfl (by kernel_rfl) (seq_cons rfl (by kernel_rfl) (opens_int (t := 3) Try.underlying3) (seq_cons rfl (by kernel_rfl) (opens_int (t := 3) Try.underlying3) (seq_cons rfl (by kernel_rfl) (opens_int (t := 3) Try.underlying3) (seq_cons rfl (by kernel_rfl) (opens_int (t := 3) Try.underlying3) (seq_one rfl (by kernel_rfl) (opens_int (t := 3) Try.underlying3)))))))
set_option maxRecDepth 100000 in
theorem lifted (os : Os) (started : os.Started) (H : Type) (enc : TypeId × Value → H) :
    ReturnsInHanded {} Try.checked os 7 .any (Rows.modelWantsSpec.pre6 enc Try.prog Try.f7 Rows.modelWantsRow.domain false) (Rows.modelWantsSpec.post enc Try.prog Try.f7 false true false false) := by
  refine returnsInHanded_of_change_sized (C := Try.checked) own started (by kernel_rfl) Try.func7
    (ChangeSpec.witness6 (enc := enc) (C := Try.checked) false ⟨#[], #[(.agg #[(.int .i64 0), (.int .i64 0), (.int .i64 0), (.int .i64 0), (.int .i64 0)]), (.int .u64 0), (.int .i64 0), (.bool false)], []⟩ 8 (by kernel_rfl) (by kernel_rfl) (by kernel_rfl) (by kernel_rfl)) ?_
  intro W base args ds gs before hval0 hW hcnd hsz0 _
  have hsz : (DataW.weightsEach Try.prog (Try.f7.params.toList ++ Rows.modelWantsSpec.plain.varTypes Try.prog) (ds ++ gs)).all (· ≤ reachBytes) = true := hsz0
  have hval : ∀ (j : Nat) t v, Try.f7.params[j]? = some t → args[j]? = some v → Value.okWide Try.prog W .any base t v := hval0
  have hW' := hW
  obtain ⟨p, q, hA0, hV, rfl, hfz, hnd⟩ := hW
  have hA : DataW.TrodAll enc Try.prog W 0 (fun _ => true) true Try.f7.params.toList args.toList ds p := hA0
  rw [Try.params7] at hA hval hsz
  obtain ⟨v0, vs0, d0, ds0, p0, q0, hargs, rfl, rfl, h0, r0⟩ := trodAll_cons hA
  obtain ⟨v1, vs1, d1, ds1, p1, q1, rfl, rfl, rfl, h1, r1⟩ := trodAll_cons r0
  obtain ⟨v2, vs2, d2, ds2, p2, q2, rfl, rfl, rfl, h2, r2⟩ := trodAll_cons r1
  obtain ⟨v3, vs3, d3, ds3, p3, q3, rfl, rfl, rfl, h3, r3⟩ := trodAll_cons r2
  obtain ⟨rfl, rfl, rfl⟩ := trodAll_nil r3
  obtain rfl : args = #[v0, v1, v2, v3] := by cases args; simp_all
  obtain ⟨rfl, rfl⟩ := trodVars_none hV
  have k0 := h0
  have lt0 : ∀ x ∈ p0, x.block < W.heap.size := by obtain ⟨m, hm⟩ := k0; exact DataW.trod_lt m _ _ _ hm
  obtain ⟨x0, hK0, ok0⟩ := open_arg opens_23 hsz (j := 0) (t := 23) rfl rfl h0
  obtain ⟨cs0, rfl, _⟩ := okWide_struct Try.underlying23 (hval 0 23 v0 rfl rfl)
  have hc0 := k23_open hK0
  obtain rfl : cs0 = #[.int .i64 x0.f0, .int .i64 x0.f1, .int .i64 x0.f2, .int .i64 x0.f3, .int .i64 x0.f4] := Array.toList_inj.mp (by simpa [Value.cells] using hc0)
  have k1 := h1
  have lt1 : ∀ x ∈ p1, x.block < W.heap.size := by obtain ⟨m, hm⟩ := k1; exact DataW.trod_lt m _ _ _ hm
  obtain ⟨x1, hK1, ok1⟩ := open_arg (opens_int (t := 24) Try.underlying24) hsz (j := 1) (t := 24) rfl rfl h1
  obtain ⟨a1, rfl, _, _, _⟩ := open_int Try.underlying24 (hval 1 24 v1 rfl rfl) h1
  obtain rfl : a1 = x1 := by simpa [Value.cells, Kd.int, Kd.scalar] using hK1
  have k2 := h2
  have lt2 : ∀ x ∈ p2, x.block < W.heap.size := by obtain ⟨m, hm⟩ := k2; exact DataW.trod_lt m _ _ _ hm
  obtain ⟨x2, hK2, ok2⟩ := open_arg (opens_int (t := 3) Try.underlying3) hsz (j := 2) (t := 3) rfl rfl h2
  obtain ⟨a2, rfl, _, _, _⟩ := open_int Try.underlying3 (hval 2 3 v2 rfl rfl) h2
  obtain rfl : a2 = x2 := by simpa [Value.cells, Kd.int, Kd.scalar] using hK2
  have k3 := h3
  have lt3 : ∀ x ∈ p3, x.block < W.heap.size := by obtain ⟨m, hm⟩ := k3; exact DataW.trod_lt m _ _ _ hm
  obtain ⟨x3, hK3, ok3⟩ := open_arg (opens_bool (t := 4) Try.underlying4) hsz (j := 3) (t := 4) rfl rfl h3
  obtain ⟨a3, rfl, _, _⟩ := open_bool Try.underlying4 (hval 3 4 v3 rfl rfl) h3
  obtain rfl : a3 = x3 := by simpa [Value.cells, Kd.bool, Kd.scalar] using hK3
  clear hA0 hval0 hsz0 hsz
  obtain ⟨k, hp⟩ := Pure.ModelWants x0.f0 x0.f1 x0.f2 x0.f3 x0.f4 a1 a2 a3 ok0.1 ok0.2.1 ok0.2.2.1 ok0.2.2.2.1 ok0.2.2.2.2 ok1 ok2
  refine (tillerlaw06_ModelWants.calls x0.f0 x0.f1 x0.f2 x0.f3 x0.f4 a1 a2 a3 true W  ⟨rfl⟩ hp).mono fun e W' ⟨he, bel0⟩ => ?_
  have bel : Below W.heap.size W W' := bel0
  subst he
  exact ⟨_, rfl, _, _, _, [], _, [], hW', trodAll_mk1 (shut_bool Try.underlying4 _), (trodAll_cons_mk (Below.trod laidOut (by kernel_rfl) (of_decide_eq_true (by kernel_rfl)) k0 bel lt0) (trodAll_cons_mk (Below.trod laidOut (by kernel_rfl) (of_decide_eq_true (by kernel_rfl)) k1 bel lt1) (trodAll_cons_mk (Below.trod laidOut (by kernel_rfl) (of_decide_eq_true (by kernel_rfl)) k2 bel lt2) (trodAll_cons_mk (Below.trod laidOut (by kernel_rfl) (of_decide_eq_true (by kernel_rfl)) k3 bel lt3) trodAll_mk0)))), rfl, bel.frame _, fun h => by cases h⟩
theorem over : Rows.modelWantsRow.holds Try.pinned (OpenSpec.ofChange Rows.modelWantsSpec) :=
  OpenClaim.holds_of_wide 7 Try.f7 rfl rfl rfl rfl rfl rfl rfl ⟨rfl, rfl, rfl, rfl, rfl⟩ rfl rfl rfl rfl rfl (by kernel_rfl) Try.func7 (by kernel_rfl)
    (of_decide_eq_true (by kernel_rfl)) (by unfold Func.isWrapper; first | (rw [if_pos (by decide +kernel)]; kernel_rfl) | (rw [if_neg (by decide +kernel)]; exact ⟨rfl, rfl⟩))
    (fun os started H enc _ => lifted os started H enc)
theorem proved : Rows.ModelWantsSaid := over
#print axioms proved
end Go.Proofs.Ytdlhodbokkaghaa.modelWants
namespace Go.Proofs.Ytdlhodbokkaghaa
/-- The row, under a short name, for the claim. -/
theorem modelWants_holds : Rows.ModelWantsSaid := modelWants.proved
end Go.Proofs.Ytdlhodbokkaghaa
