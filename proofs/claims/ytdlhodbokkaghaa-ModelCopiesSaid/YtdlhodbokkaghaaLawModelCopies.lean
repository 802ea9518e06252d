/- The law ModelCopies holds of the given program at every input that its row speaks of: it returns true and leaves its arguments as they were. Conditions: none of ours beyond the row's own. Written by this session's program gprint.py. -/
import Derived.Test.YtdlhodbokkaghaaRows
import Derived.Test.YtdlhodbokkaghaaOCopies
import Derived.Test.YtdlhodbokkaghaaPureModelCopies
import Derived.Test.YtdlhodbokkaghaaWRow
import Derived.WalkKit
import Derived.ProofKit
import Derived.OpenShut
import Derived.ShutString
import Derived.ChangeOld
import Derived.Below
import Derived.SizedLaws
namespace Go.Proofs.Ytdlhodbokkaghaa.modelCopies
open Go.ChangeShapes Go.WideShapes Go.ChangeAt Go.Joins
open Go.RowKit Go.Proofs.YtdlhodbokkaghaaW.PrintWords Go.Proofs.YtdlhodbokkaghaaW.PrintLast Go.Proofs.YtdlhodbokkaghaaW.PrintMore Go.Proofs.Ytdlhodbokkaghaa.GQ Go.Proofs.Ytdlhodbokkaghaa.OCopies
open Go.ChangeMaps (open_string shut_string)
set_option linter.unusedVariables false
theorem own : ownKnob Try.prog.godebug = none := by kernel_rfl
theorem laidOut : laidOutB Try.prog = true := by kernel_rfl
theorem opens_25 : Opens Try.prog 25 (Kd.slice 35 (Kd.int .i32)) (fun xs => (xs.length * 4 ≤ 140737488351232 ∧ xs.length ≤ maxLen ∧ ∀ x0 ∈ xs, (Lit.int .i32 x0).wf = true)) := opens_slice Try.underlying25 (by kernel_rfl) (by kernel_rfl) (opens_int (t := 35) Try.underlying35)
theorem opens_27 : Opens Try.prog 27 k27 (fun x => ((Lit.int .i64 x.f0).wf = true ∧ (Lit.int .i64 x.f1).wf = true ∧ (x.f2.length * 4 ≤ 140737488351232 ∧ x.f2.length ≤ maxLen ∧ ∀ x0 ∈ x.f2, (Lit.int .i32 x0).wf = true))) := opens_iso (fun x : S27 => (x.f0, x.f1, x.f2)) (fun y => ⟨y.1, y.2.1, y.2.2⟩) (fun _ => rfl) (opens_struct (tot := 3) Try.underlying27 rfl (by kernel_rfl) (seq_cons rfl (by kernel_rfl) (opens_int (t := 3) Try.underlying3) (seq_cons rfl (by kernel_rfl) (opens_int (t := 3) Try.underlying3) (seq_one rfl (by kernel_rfl) opens_25))))
theorem opens_37 : Opens Try.prog 37 k37 (fun x => ((x.f0.length * 4 ≤ 140737488351232 ∧ x.f0.length ≤ maxLen ∧ ∀ x0 ∈ x.f0, (Lit.int .i32 x0).wf = true) ∧ ((Lit.int .i64 x.f1.f0).wf = true ∧ (Lit.int .i64 x.f1.f1).wf = true ∧ (x.f1.f2.length * 4 ≤ 140737488351232 ∧ x.f1.f2.length ≤ maxLen ∧ ∀ x0 ∈ x.f1.f2, (Lit.int .i32 x0).wf = true)) ∧ ((Lit.int .i64 x.f2.f0).wf = true ∧ (Lit.int .i64 x.f2.f1).wf = true ∧ (x.f2.f2.length * 4 ≤ 140737488351232 ∧ x.f2.f2.length ≤ maxLen ∧ ∀ x0 ∈ x.f2.f2, (Lit.int .i32 x0).wf = true)) ∧ ((Lit.int .i64 x.f3.f0).wf = true ∧ (Lit.int .i64 x.f3.f1).wf = true ∧ (x.f3.f2.length * 4 ≤ 140737488351232 ∧ x.f3.f2.length ≤ maxLen ∧ ∀ x0 ∈ x.f3.f2, (Lit.int .i32 x0).wf = true)) ∧ ((Lit.int .i64 x.f4.f0).wf = true ∧ (Lit.int .i64 x.f4.f1).wf = true ∧ (x.f4.f2.length * 4 ≤ 140737488351232 ∧ x.f4.f2.length ≤ maxLen ∧ ∀ x0 ∈ x.f4.f2, (Lit.int .i32 x0).wf = true)) ∧ (x.f5.length * 4 ≤ 140737488351232 ∧ x.f5.length ≤ maxLen ∧ ∀ x0 ∈ x.f5, (Lit.int .i32 x0).wf = true) ∧ ((Lit.int .i64 x.f6.f0).wf = true ∧ (Lit.int .i64 x.f6.f1).wf = true ∧ (x.f6.f2.length * 4 ≤ 140737488351232 ∧ x.f6.f2.length ≤ maxLen ∧ ∀ x0 ∈ x.f6.f2, (Lit.int .i32 x0).wf = true)) ∧ ((Lit.int .i64 x.f7.f0).wf = true ∧ (Lit.int .i64 x.f7.f1).wf = true ∧ (x.f7.f2.length * 4 ≤ 140737488351232 ∧ x.f7.f2.length ≤ maxLen ∧ ∀ x0 ∈ x.f7.f2, (Lit.int .i32 x0).wf = true)))) := opens_iso (fun x : S37 => (x.f0, x.f1, x.f2, x.f3, x.f4, x.f5, x.f6, x.f7)) (fun y => ⟨y.1, y.2.1, y.2.2.1, y.2.2.2.1, y.2.2.2.2.1, y.2.2.2.2.2.1, y.2.2.2.2.2.2.1, y.2.2.2.2.2.2.2⟩) (fun _ => rfl) (opens_struct (tot := 20) Try.underlying37 rfl (by kernel_rfl) (seq_cons rfl (by kernel_rfl) opens_25 (seq_cons rfl (by kernel_rfl) opens_27 (seq_cons rfl (by kernel_rfl) opens_27 (seq_cons rfl (by kernel_rfl) opens_27 (seq_cons rfl (by kernel_rfl) opens_27 (seq_cons rfl (by kernel_rfl) opens_25 (seq_cons rfl (by kernel_rfl) opens_27 (seq_one rfl (by kernel_rfl) opens_27)))))))))
theorem opens_28 : Opens Try.prog 28 (Kd.slice 37 k37) (fun xs => (xs.length * 288 ≤ 140737488351232 ∧ xs.length ≤ maxLen ∧ ∀ x0 ∈ xs, ((x0.f0.length * 4 ≤ 140737488351232 ∧ x0.f0.length ≤ maxLen ∧ ∀ x1 ∈ x0.f0, (Lit.int .i32 x1).wf = true) ∧ ((Lit.int .i64 x0.f1.f0).wf = true ∧ (Lit.int .i64 x0.f1.f1).wf = true ∧ (x0.f1.f2.length * 4 ≤ 140737488351232 ∧ x0.f1.f2.length ≤ maxLen ∧ ∀ x1 ∈ x0.f1.f2, (Lit.int .i32 x1).wf = true)) ∧ ((Lit.int .i64 x0.f2.f0).wf = true ∧ (Lit.int .i64 x0.f2.f1).wf = true ∧ (x0.f2.f2.length * 4 ≤ 140737488351232 ∧ x0.f2.f2.length ≤ maxLen ∧ ∀ x1 ∈ x0.f2.f2, (Lit.int .i32 x1).wf = true)) ∧ ((Lit.int .i64 x0.f3.f0).wf = true ∧ (Lit.int .i64 x0.f3.f1).wf = true ∧ (x0.f3.f2.length * 4 ≤ 140737488351232 ∧ x0.f3.f2.length ≤ maxLen ∧ ∀ x1 ∈ x0.f3.f2, (Lit.int .i32 x1).wf = true)) ∧ ((Lit.int .i64 x0.f4.f0).wf = true ∧ (Lit.int .i64 x0.f4.f1).wf = true ∧ (x0.f4.f2.length * 4 ≤ 140737488351232 ∧ x0.f4.f2.length ≤ maxLen ∧ ∀ x1 ∈ x0.f4.f2, (Lit.int .i32 x1).wf = true)) ∧ (x0.f5.length * 4 ≤ 140737488351232 ∧ x0.f5.length ≤ maxLen ∧ ∀ x1 ∈ x0.f5, (Lit.int .i32 x1).wf = true) ∧ ((Lit.int .i64 x0.f6.f0).wf = true ∧ (Lit.int .i64 x0.f6.f1).wf = true ∧ (x0.f6.f2.length * 4 ≤ 140737488351232 ∧ x0.f6.f2.length ≤ maxLen ∧ ∀ x1 ∈ x0.f6.f2, (Lit.int .i32 x1).wf = true)) ∧ ((Lit.int .i64 x0.f7.f0).wf = true ∧ (Lit.int .i64 x0.f7.f1).wf = true ∧ (x0.f7.f2.length * 4 ≤ 140737488351232 ∧ x0.f7.f2.length ≤ maxLen ∧ ∀ x1 ∈ x0.f7.f2, (Lit.int .i32 x1).wf = true))))) := opens_slice Try.underlying28 (by kernel_rfl) (by kernel_rfl) opens_37
theorem opens_30 : Opens Try.prog 30 k30 (fun x => (((Lit.int .i64 x.f0.f0).wf = true ∧ (Lit.int .i64 x.f0.f1).wf = true ∧ (x.f0.f2.length * 4 ≤ 140737488351232 ∧ x.f0.f2.length ≤ maxLen ∧ ∀ x0 ∈ x.f0.f2, (Lit.int .i32 x0).wf = true)) ∧ (x.f1.length * 288 ≤ 140737488351232 ∧ x.f1.length ≤ maxLen ∧ ∀ x0 ∈ x.f1, ((x0.f0.length * 4 ≤ 140737488351232 ∧ x0.f0.length ≤ maxLen ∧ ∀ x1 ∈ x0.f0, (Lit.int .i32 x1).wf = true) ∧ ((Lit.int .i64 x0.f1.f0).wf = true ∧ (Lit.int .i64 x0.f1.f1).wf = true ∧ (x0.f1.f2.length * 4 ≤ 140737488351232 ∧ x0.f1.f2.length ≤ maxLen ∧ ∀ x1 ∈ x0.f1.f2, (Lit.int .i32 x1).wf = true)) ∧ ((Lit.int .i64 x0.f2.f0).wf = true ∧ (Lit.int .i64 x0.f2.f1).wf = true ∧ (x0.f2.f2.length * 4 ≤ 140737488351232 ∧ x0.f2.f2.length ≤ maxLen ∧ ∀ x1 ∈ x0.f2.f2, (Lit.int .i32 x1).wf = true)) ∧ ((Lit.int .i64 x0.f3.f0).wf = true ∧ (Lit.int .i64 x0.f3.f1).wf = true ∧ (x0.f3.f2.length * 4 ≤ 140737488351232 ∧ x0.f3.f2.length ≤ maxLen ∧ ∀ x1 ∈ x0.f3.f2, (Lit.int .i32 x1).wf = true)) ∧ ((Lit.int .i64 x0.f4.f0).wf = true ∧ (Lit.int .i64 x0.f4.f1).wf = true ∧ (x0.f4.f2.length * 4 ≤ 140737488351232 ∧ x0.f4.f2.length ≤ maxLen ∧ ∀ x1 ∈ x0.f4.f2, (Lit.int .i32 x1).wf = true)) ∧ (x0.f5.length * 4 ≤ 140737488351232 ∧ x0.f5.length ≤ maxLen ∧ ∀ x1 ∈ x0.f5, (Lit.int .i32 x1).wf = true) ∧ ((Lit.int .i64 x0.f6.f0).wf = true ∧ (Lit.int .i64 x0.f6.f1).wf = true ∧ (x0.f6.f2.length * 4 ≤ 140737488351232 ∧ x0.f6.f2.length ≤ maxLen ∧ ∀ x1 ∈ x0.f6.f2, (Lit.int .i32 x1).wf = true)) ∧ ((Lit.int .i64 x0.f7.f0).wf = true ∧ (Lit.int .i64 x0.f7.f1).wf = true ∧ (x0.f7.f2.length * 4 ≤ 140737488351232 ∧ x0.f7.f2.length ≤ maxLen ∧ ∀ x1 ∈ x0.f7.f2, (Lit.int .i32 x1).wf = true)))) ∧ (x.f2.length * 4 ≤ 140737488351232 ∧ x.f2.length ≤ maxLen ∧ ∀ x0 ∈ x.f2, (Lit.int .i32 x0).wf = true) ∧ ((Lit.int .i64 x.f3.f0).wf = true ∧ (Lit.int .i64 x.f3.f1).wf = true ∧ (x.f3.f2.length * 4 ≤ 140737488351232 ∧ x.f3.f2.length ≤ maxLen ∧ ∀ x0 ∈ x.f3.f2, (Lit.int .i32 x0).wf = true)))) := opens_iso (fun x : S30 => (x.f0, x.f1, x.f2, x.f3)) (fun y => ⟨y.1, y.2.1, y.2.2.1, y.2.2.2⟩) (fun _ => rfl) (opens_struct (tot := 8) Try.underlying30 rfl (by kernel_rfl) (seq_cons rfl (by kernel_rfl) opens_27 (seq_cons rfl (by kernel_rfl) opens_28 (seq_cons rfl (by kernel_rfl) opens_25 (seq_one rfl (by kernel_rfl) opens_27)))))
set_option maxRecDepth 100000 in
theorem lifted (os : Os) (started : os.Started) (H : Type) (enc : TypeId × Value → H) :
    ReturnsInHanded {} Try.checked os 5 .any (Rows.modelCopiesSpec.pre6 enc Try.prog Try.f5 Rows.modelCopiesRow.domain false) (Rows.modelCopiesSpec.post enc Try.prog Try.f5 false true false false) := by
  refine returnsInHanded_of_change_sized (C := Try.checked) own started (by kernel_rfl) Try.func5
    (ChangeSpec.witness6 (enc := enc) (C := Try.checked) false ⟨#[], #[(.agg #[(.int .i64 0), (.int .i64 0), (.slice none 0 0), (.slice none 0 0), (.slice none 0 0), (.int .i64 0), (.int .i64 0), (.slice none 0 0)]), (.int .i64 0)], []⟩ 8 (by kernel_rfl) (by kernel_rfl) (by kernel_rfl) (by kernel_rfl)) ?_
  intro W base args ds gs before hval0 hW hcnd hsz0 _
  have hsz : (DataW.weightsEach Try.prog (Try.f5.params.toList ++ Rows.modelCopiesSpec.plain.varTypes Try.prog) (ds ++ gs)).all (· ≤ reachBytes) = true := hsz0
  have hval : ∀ (j : Nat) t v, Try.f5.params[j]? = some t → args[j]? = some v → Value.okWide Try.prog W .any base t v := hval0
  have hW' := hW
  obtain ⟨p, q, hA0, hV, rfl, hfz, hnd⟩ := hW
  have hA : DataW.TrodAll enc Try.prog W 0 (fun _ => true) true Try.f5.params.toList args.toList ds p := hA0
  rw [Try.params5] at hA hval hsz
  obtain ⟨v0, vs0, d0, ds0, p0, q0, hargs, rfl, rfl, h0, r0⟩ := trodAll_cons hA
  obtain ⟨v1, vs1, d1, ds1, p1, q1, rfl, rfl, rfl, h1, r1⟩ := trodAll_cons r0
  obtain ⟨rfl, rfl, rfl⟩ := trodAll_nil r1
  obtain rfl : args = #[v0, v1] := by cases args; simp_all
  obtain ⟨rfl, rfl⟩ := trodVars_none hV
  have k0 := h0
  have lt0 : ∀ x ∈ p0, x.block < W.heap.size := by obtain ⟨m, hm⟩ := k0; exact DataW.trod_lt m _ _ _ hm
  obtain ⟨x0, hK0, ok0⟩ := open_arg opens_30 hsz (j := 0) (t := 30) rfl rfl h0
  obtain ⟨cs0, rfl, _⟩ := okWide_struct Try.underlying30 (hval 0 30 v0 rfl rfl)
  obtain ⟨A0_2, c0_2, A0_3, c0_3, A0_4, c0_4, A0_7, c0_7, hc0, hl0_2, hr0_2, hl0_3, hr0_3, hl0_4, hr0_4, hl0_7, hr0_7⟩ := k30_open hK0
  obtain rfl : cs0 = #[.int .i64 x0.f0.f0, .int .i64 x0.f0.f1, .slice A0_2 x0.f0.f2.length c0_2, .slice A0_3 x0.f1.length c0_3, .slice A0_4 x0.f2.length c0_4, .int .i64 x0.f3.f0, .int .i64 x0.f3.f1, .slice A0_7 x0.f3.f2.length c0_7] := Array.toList_inj.mp (by simpa [Value.cells] using hc0)
  have k1 := h1
  have lt1 : ∀ x ∈ p1, x.block < W.heap.size := by obtain ⟨m, hm⟩ := k1; exact DataW.trod_lt m _ _ _ hm
  obtain ⟨x1, hK1, ok1⟩ := open_arg (opens_int (t := 3) Try.underlying3) hsz (j := 1) (t := 3) rfl rfl h1
  obtain ⟨a1, rfl, _, _, _⟩ := open_int Try.underlying3 (hval 1 3 v1 rfl rfl) h1
  obtain rfl : a1 = x1 := by simpa [Value.cells, Kd.int, Kd.scalar] using hK1
  clear hA0 hval0 hsz0 hsz
  obtain ⟨k, hp⟩ := Pure.ModelCopies x0.f0.f0 x0.f0.f1 x0.f0.f2 x0.f1 x0.f2 x0.f3.f0 x0.f3.f1 x0.f3.f2 a1 ok0.1.1 ok0.1.2.1 ok0.1.2.2 ok0.2.1 ok0.2.2.1 ok0.2.2.2.1 ok0.2.2.2.2.1 ok0.2.2.2.2.2 ok1
  refine (tillerlaw06_ModelCopies.calls x0.f0.f0 x0.f0.f1 _ _ x0.f0.f2 _ _ x0.f1 _ _ x0.f2 x0.f3.f0 x0.f3.f1 _ _ x0.f3.f2 a1 true W hr0_2 hl0_2 hr0_3 hl0_3 hr0_4 hl0_4 hr0_7 hl0_7 ⟨rfl⟩ hp).mono fun e W' ⟨he, bel0⟩ => ?_
  have bel : Below W.heap.size W W' := bel0
  subst he
  exact ⟨_, rfl, _, _, _, [], _, [], hW', trodAll_mk1 (shut_bool Try.underlying4 _), (trodAll_cons_mk (Below.trod laidOut (by kernel_rfl) (of_decide_eq_true (by kernel_rfl)) k0 bel lt0) (trodAll_cons_mk (Below.trod laidOut (by kernel_rfl) (of_decide_eq_true (by kernel_rfl)) k1 bel lt1) trodAll_mk0)), rfl, bel.frame _, fun h => by cases h⟩
theorem over : Rows.modelCopiesRow.holds Try.pinned (OpenSpec.ofChange Rows.modelCopiesSpec) :=
  OpenClaim.holds_of_wide 5 Try.f5 rfl rfl rfl rfl rfl rfl rfl ⟨rfl, rfl, rfl, rfl, rfl⟩ rfl rfl rfl rfl rfl (by kernel_rfl) Try.func5 (by kernel_rfl)
    (of_decide_eq_true (by kernel_rfl)) (by unfold Func.isWrapper; first | (rw [if_pos (by decide +kernel)]; kernel_rfl) | (rw [if_neg (by decide +kernel)]; exact ⟨rfl, rfl⟩))
    (fun os started H enc _ => lifted os started H enc)
theorem proved : Rows.ModelCopiesSaid := over
#print axioms proved
end Go.Proofs.Ytdlhodbokkaghaa.modelCopies
namespace Go.Proofs.Ytdlhodbokkaghaa
/-- The row, under a short name, for the claim. -/
theorem modelCopies_holds : Rows.ModelCopiesSaid := modelCopies.proved
end Go.Proofs.Ytdlhodbokkaghaa
