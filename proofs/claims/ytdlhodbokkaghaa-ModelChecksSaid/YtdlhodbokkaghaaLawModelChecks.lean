/- The law ModelChecks holds of the given program at every input that its row speaks of: it returns true and leaves its arguments as they were. Conditions: none of ours beyond the row's own. Written by this session's program gprint.py. -/
import Derived.Test.YtdlhodbokkaghaaRows
import Derived.Test.YtdlhodbokkaghaaOChecks
import Derived.Test.YtdlhodbokkaghaaPureModelChecks
import Derived.Test.YtdlhodbokkaghaaWRow
import Derived.WalkKit
import Derived.ProofKit
import Derived.OpenShut
import Derived.ShutString
import Derived.ChangeOld
import Derived.Below
import Derived.SizedLaws
namespace Go.Proofs.Ytdlhodbokkaghaa.modelChecks
open Go.ChangeShapes Go.WideShapes Go.ChangeAt Go.Joins
open Go.RowKit Go.Proofs.YtdlhodbokkaghaaW.PrintWords Go.Proofs.YtdlhodbokkaghaaW.PrintLast Go.Proofs.YtdlhodbokkaghaaW.PrintMore Go.Proofs.Ytdlhodbokkaghaa.GQ Go.Proofs.Ytdlhodbokkaghaa.OChecks
open Go.ChangeMaps (open_string shut_string)
set_option linter.unusedVariables false
theorem own : ownKnob Try.prog.godebug = none := by kernel_rfl
theorem laidOut : laidOutB Try.prog = true := by kernel_rfl
theorem opens_23 : Opens Try.prog 23 k23 (fun x => ((Lit.int .i64 x.f0).wf = true ∧ (Lit.int .i64 x.f1).wf = true ∧ (Lit.int .i64 x.f2).wf = true ∧ (Lit.int .i64 x.f3).wf = true ∧ (Lit.int .i64 x.f4).wf = true)) := opens_iso (fun x : S23 => (x.f0, x.f1, x.f2, x.f3, x.f4)) (fun y => ⟨y.1, y.2.1, y.2.2.1, y.2.2.2.1, y.2.2.2.2⟩) (fun _ => rfl) (opens_struct (tot := 5) Try.underlying23 rfl (by kernel_rfl) (seq_cons rfl (by kernel_rfl) (opens_int (t := 3) Try.underlying3) (seq_cons rfl (by kernel_rfl) (opens_int (t := 3) Try.underlying3) (seq_cons rfl (by kernel_rfl) (opens_int (t := 3) Try.underlying3) (seq_cons rfl (by kernel_rfl) (opens_int (t := 3) Try.underlying3) (seq_one rfl (by kernel_rfl) (opens_int (t := 3) Try.underlying3)))))))
theorem opens_25 : Opens Try.prog 25 (Kd.slice 35 (Kd.int .i32)) (fun xs => (xs.length * 4 ≤ 140737488351232 ∧ xs.length ≤ maxLen ∧ ∀ x0 ∈ xs, (Lit.int .i32 x0).wf = true)) := opens_slice Try.underlying25 (by kernel_rfl) (by kernel_rfl) (opens_int (t := 35) Try.underlying35)
theorem opens_27 : Opens Try.prog 27 k27 (fun x => ((Lit.int .i64 x.f0).wf = true ∧ (Lit.int .i64 x.f1).wf = true ∧ (x.f2.length * 4 ≤ 140737488351232 ∧ x.f2.length ≤ maxLen ∧ ∀ x0 ∈ x.f2, (Lit.int .i32 x0).wf = true))) := opens_iso (fun x : S27 => (x.f0, x.f1, x.f2)) (fun y => ⟨y.1, y.2.1, y.2.2⟩) (fun _ => rfl) (opens_struct (tot := 3) Try.underlying27 rfl (by kernel_rfl) (seq_cons rfl (by kernel_rfl) (opens_int (t := 3) Try.underlying3) (seq_cons rfl (by kernel_rfl) (opens_int (t := 3) Try.underlying3) (seq_one rfl (by kernel_rfl) opens_25))))
theorem opens_37 : Opens Try.prog 37 k37 (fun x => ((x.f0.length * 4 ≤ 140737488351232 ∧ x.f0.length ≤ maxLen ∧ ∀ x0 ∈ x.f0, (Lit.int .i32 x0).wf = true) ∧ ((Lit.int .i64 x.f1.f0).wf = true ∧ (Lit.int .i64 x.f1.f1).wf = true ∧ (x.f1.f2.length * 4 ≤ 140737488351232 ∧ x.f1.f2.length ≤ maxLen ∧ ∀ x0 ∈ x.f1.f2, (Lit.int .i32 x0).wf = true)) ∧ ((Lit.int .i64 x.f2.f0).wf = true ∧ (Lit.int .i64 x.f2.f1).wf = true ∧ (x.f2.f2.length * 4 ≤ 140737488351232 ∧ x.f2.f2.length ≤ maxLen ∧ ∀ x0 ∈ x.f2.f2, (Lit.int .i32 x0).wf = true)) ∧ ((Lit.int .i64 x.f3.f0).wf = true ∧ (Lit.int .i64 x.f3.f1).wf = true ∧ (x.f3.f2.length * 4 ≤ 140737488351232 ∧ x.f3.f2.length ≤ maxLen ∧ ∀ x0 ∈ x.f3.f2, (Lit.int .i32 x0).wf = true)) ∧ ((Lit.int .i64 x.f4.f0).wf = true ∧ (Lit.int .i64 x.f4.f1).wf = true ∧ (x.f4.f2.length * 4 ≤ 140737488351232 ∧ x.f4.f2.length ≤ maxLen ∧ ∀ x0 ∈ x.f4.f2, (Lit.int .i32 x0).wf = true)) ∧ (x.f5.length * 4 ≤ 140737488351232 ∧ x.f5.length ≤ maxLen ∧ ∀ x0 ∈ x.f5, (Lit.int .i32 x0).wf = true) ∧ ((Lit.int .i64 x.f6.f0).wf = true ∧ (Lit.int .i64 x.f6.f1).wf = true ∧ (x.f6.f2.length * 4 ≤ 140737488351232 ∧ x.f6.f2.length ≤ maxLen ∧ ∀ x0 ∈ x.f6.f2, (Lit.int .i32 x0).wf = true)) ∧ ((Lit.int .i64 x.f7.f0).wf = true ∧ (Lit.int .i64 x.f7.f1).wf = true ∧ (x.f7.f2.length * 4 ≤ 140737488351232 ∧ x.f7.f2.length ≤ maxLen ∧ ∀ x0 ∈ x.f7.f2, (Lit.int .i32 x0).wf = true)))) := opens_iso (fun x : S37 => (x.f0, x.f1, x.f2, x.f3, x.f4, x.f5, x.f6, x.f7)) (fun y => ⟨y.1, y.2.1, y.2.2.1, y.2.2.2.1, y.2.2.2.2.1, y.2.2.2.2.2.1, y.2.2.2.2.2.2.1, y.2.2.2.2.2.2.2⟩) (fun _ => rfl) (opens_struct (tot := 20) Try.underlying37 rfl (by kernel_rfl) (seq_cons rfl (by kernel_rfl) opens_25 (seq_cons rfl (by kernel_rfl) opens_27 (seq_cons rfl (by kernel_rfl) opens_27 (seq_cons rfl (by kernel_rfl) opens_27 (seq_cons rfl (by kernel_rfl) opens_27 (seq_cons rfl (by kernel_rfl) opens_25 (seq_cons rfl (by kernel_rfl) opens_27 (seq_one rfl (by kernel_rfl) opens_27)))))))))
theorem opens_28 : Opens Try.prog 28 (Kd.slice 37 k37) (fun xs => (xs.length * 288 ≤ 140737488351232 ∧ xs.length ≤ maxLen ∧ ∀ x0 ∈ xs, ((x0.f0.length * 4 ≤ 140737488351232 ∧ x0.f0.length ≤ maxLen ∧ ∀ x1 ∈ x0.f0, (Lit.int .i32 x1).wf = true) ∧ ((Lit.int .i64 x0.f1.f0).wf = true ∧ (Lit.int .i64 x0.f1.f1).wf = true ∧ (x0.f1.f2.length * 4 ≤ 140737488351232 ∧ x0.f1.f2.length ≤ maxLen ∧ ∀ x1 ∈ x0.f1.f2, (Lit.int .i32 x1).wf = true)) ∧ ((Lit.int .i64 x0.f2.f0).wf = true ∧ (Lit.int .i64 x0.f2.f1).wf = true ∧ (x0.f2.f2.length * 4 ≤ 140737488351232 ∧ x0.f2.f2.length ≤ maxLen ∧ ∀ x1 ∈ x0.f2.f2, (Lit.int .i32 x1).wf = true)) ∧ ((Lit.int .i64 x0.f3.f0).wf = true ∧ (Lit.int .i64 x0.f3.f1).wf = true ∧ (x0.f3.f2.length * 4 ≤ 140737488351232 ∧ x0.f3.f2.length ≤ maxLen ∧ ∀ x1 ∈ x0.f3.f2, (Lit.int .i32 x1).wf = true)) ∧ ((Lit.int .i64 x0.f4.f0).wf = true ∧ (Lit.int .i64 x0.f4.f1).wf = true ∧ (x0.f4.f2.length * 4 ≤ 140737488351232 ∧ x0.f4.f2.length ≤ maxLen ∧ ∀ x1 ∈ x0.f4.f2, (Lit.int .i32 x1).wf = true)) ∧ (x0.f5.length * 4 ≤ 140737488351232 ∧ x0.f5.length ≤ maxLen ∧ ∀ x1 ∈ x0.f5, (Lit.int .i32 x1).wf = true) ∧ ((Lit.int .i64 x0.f6.f0).wf = true ∧ (Lit.int .i64 x0.f6.f1).wf = true ∧ (x0.f6.f2.length * 4 ≤ 140737488351232 ∧ x0.f6.f2.length ≤ maxLen ∧ ∀ x1 ∈ x0.f6.f2, (Lit.int .i32 x1).wf = true)) ∧ ((Lit.int .i64 x0.f7.f0).wf = true ∧ (Lit.int .i64 x0.f7.f1).wf = true ∧ (x0.f7.f2.length * 4 ≤ 140737488351232 ∧ x0.f7.f2.length ≤ maxLen ∧ ∀ x1 ∈ x0.f7.f2, (Lit.int .i32 x1).wf = true))))) := opens_slice Try.underlying28 (by kernel_rfl) (by kernel_rfl) opens_37
theorem opens_30 : Opens Try.prog 30 k30 (fun x => (((Lit.int .i64 x.f0.f0).wf = true ∧ (Lit.int .i64 x.f0.f1).wf = true ∧ (x.f0.f2.length * 4 ≤ 140737488351232 ∧ x.f0.f2.length ≤ maxLen ∧ ∀ x0 ∈ x.f0.f2, (Lit.int .i32 x0).wf = true)) ∧ (x.f1.length * 288 ≤ 140737488351232 ∧ x.f1.length ≤ maxLen ∧ ∀ x0 ∈ x.f1, ((x0.f0.length * 4 ≤ 140737488351232 ∧ x0.f0.length ≤ maxLen ∧ ∀ x1 ∈ x0.f0, (Lit.int .i32 x1).wf = true) ∧ ((Lit.int .i64 x0.f1.f0).wf = true ∧ (Lit.int .i64 x0.f1.f1).wf = true ∧ (x0.f1.f2.length * 4 ≤ 140737488351232 ∧ x0.f1.f2.length ≤ maxLen ∧ ∀ x1 ∈ x0.f1.f2, (Lit.int .i32 x1).wf = true)) ∧ ((Lit.int .i64 x0.f2.f0).wf = true ∧ (Lit.int .i64 x0.f2.f1).wf = true ∧ (x0.f2.f2.length * 4 ≤ 140737488351232 ∧ x0.f2.f2.length ≤ maxLen ∧ ∀ x1 ∈ x0.f2.f2, (Lit.int .i32 x1).wf = true)) ∧ ((Lit.int .i64 x0.f3.f0).wf = true ∧ (Lit.int .i64 x0.f3.f1).wf = true ∧ (x0.f3.f2.length * 4 ≤ 140737488351232 ∧ x0.f3.f2.length ≤ maxLen ∧ ∀ x1 ∈ x0.f3.f2, (Lit.int .i32 x1).wf = true)) ∧ ((Lit.int .i64 x0.f4.f0).wf = true ∧ (Lit.int .i64 x0.f4.f1).wf = true ∧ (x0.f4.f2.length * 4 ≤ 140737488351232 ∧ x0.f4.f2.length ≤ maxLen ∧ ∀ x1 ∈ x0.f4.f2, (Lit.int .i32 x1).wf = true)) ∧ (x0.f5.length * 4 ≤ 140737488351232 ∧ x0.f5.length ≤ maxLen ∧ ∀ x1 ∈ x0.f5, (Lit.int .i32 x1).wf = true) ∧ ((Lit.int .i64 x0.f6.f0).wf = true ∧ (Lit.int .i64 x0.f6.f1).wf = true ∧ (x0.f6.f2.length * 4 ≤ 140737488351232 ∧ x0.f6.f2.length ≤ maxLen ∧ ∀ x1 ∈ x0.f6.f2, (Lit.int .i32 x1).wf = true)) ∧ ((Lit.int .i64 x0.f7.f0).wf = true ∧ (Lit.int .i64 x0.f7.f1).wf = true ∧ (x0.f7.f2.length * 4 ≤ 140737488351232 ∧ x0.f7.f2.length ≤ maxLen ∧ ∀ x1 ∈ x0.f7.f2, (Lit.int .i32 x1).wf = true)))) ∧ (x.f2.length * 4 ≤ 140737488351232 ∧ x.f2.length ≤ maxLen ∧ ∀ x0 ∈ x.f2, (Lit.int .i32 x0).wf = true) ∧ ((Lit.int .i64 x.f3.f0).wf = true ∧ (Lit.int .i64 x.f3.f1).wf = true ∧ (x.f3.f2.length * 4 ≤ 140737488351232 ∧ x.f3.f2.length ≤ maxLen ∧ ∀ x0 ∈ x.f3.f2, (Lit.int .i32 x0).wf = true)))) := opens_iso (fun x : S30 => (x.f0, x.f1, x.f2, x.f3)) (fun y => ⟨y.1, y.2.1, y.2.2.1, y.2.2.2⟩) (fun _ => rfl) (opens_struct (tot := 8) Try.underlying30 rfl (by kernel_rfl) (seq_cons rfl (by kernel_rfl) opens_27 (seq_cons rfl (by kernel_rfl) opens_28 (seq_cons rfl (by kernel_rfl) opens_25 (seq_one rfl (by kernel_rfl) opens_27)))))
theorem opens_59 : Opens Try.prog 59 (Kd.slice 3 (Kd.int .i64)) (fun xs => (xs.length * 8 ≤ 140737488351232 ∧ xs.length ≤ maxLen ∧ ∀ x0 ∈ xs, (Lit.int .i64 x0).wf = true)) := opens_slice Try.underlying59 (by kernel_rfl) (by kernel_rfl) (opens_int (t := 3) Try.underlying3)
set_option maxRecDepth 100000 in
theorem lifted (os : Os) (started : os.Started) (H : Type) (enc : TypeId × Value → H) :
    ReturnsInHanded {} Try.checked os 8 .any (Rows.modelChecksSpec.pre6 enc Try.prog Try.f8 Rows.modelChecksRow.domain false) (Rows.modelChecksSpec.post enc Try.prog Try.f8 false true false false) := by
  refine returnsInHanded_of_change_sized (C := Try.checked) own started (by kernel_rfl) Try.func8
    (ChangeSpec.witness6 (enc := enc) (C := Try.checked) false ⟨#[], #[(.agg #[(.int .i64 0), (.int .i64 0), (.int .i64 0), (.int .i64 0), (.int .i64 0)]), (.agg #[(.int .i64 0), (.int .i64 0), (.slice none 0 0), (.slice none 0 0), (.slice none 0 0), (.int .i64 0), (.int .i64 0), (.slice none 0 0)]), (.slice none 0 0)], []⟩ 8 (by kernel_rfl) (by kernel_rfl) (by kernel_rfl) (by kernel_rfl)) ?_
  intro W base args ds gs before hval0 hW hcnd hsz0 _
  have hsz : (DataW.weightsEach Try.prog (Try.f8.params.toList ++ Rows.modelChecksSpec.plain.varTypes Try.prog) (ds ++ gs)).all (· ≤ reachBytes) = true := hsz0
  have hval : ∀ (j : Nat) t v, Try.f8.params[j]? = some t → args[j]? = some v → Value.okWide Try.prog W .any base t v := hval0
  have hW' := hW
  obtain ⟨p, q, hA0, hV, rfl, hfz, hnd⟩ := hW
  have hA : DataW.TrodAll enc Try.prog W 0 (fun _ => true) true Try.f8.params.toList args.toList ds p := hA0
  rw [Try.params8] at hA hval hsz
  obtain ⟨v0, vs0, d0, ds0, p0, q0, hargs, rfl, rfl, h0, r0⟩ := trodAll_cons hA
  obtain ⟨v1, vs1, d1, ds1, p1, q1, rfl, rfl, rfl, h1, r1⟩ := trodAll_cons r0
  obtain ⟨v2, vs2, d2, ds2, p2, q2, rfl, rfl, rfl, h2, r2⟩ := trodAll_cons r1
  obtain ⟨rfl, rfl, rfl⟩ := trodAll_nil r2
  obtain rfl : args = #[v0, v1, v2] := by cases args; simp_all
  obtain ⟨rfl, rfl⟩ := trodVars_none hV
  have k0 := h0
  have lt0 : ∀ x ∈ p0, x.block < W.heap.size := by obtain ⟨m, hm⟩ := k0; exact DataW.trod_lt m _ _ _ hm
  obtain ⟨x0, hK0, ok0⟩ := open_arg opens_23 hsz (j := 0) (t := 23) rfl rfl h0
  obtain ⟨cs0, rfl, _⟩ := okWide_struct Try.underlying23 (hval 0 23 v0 rfl rfl)
  have hc0 := k23_open hK0
  obtain rfl : cs0 = #[.int .i64 x0.f0, .int .i64 x0.f1, .int .i64 x0.f2, .int .i64 x0.f3, .int .i64 x0.f4] := Array.toList_inj.mp (by simpa [Value.cells] using hc0)
  have k1 := h1
  have lt1 : ∀ x ∈ p1, x.block < W.heap.size := by obtain ⟨m, hm⟩ := k1; exact DataW.trod_lt m _ _ _ hm
  obtain ⟨x1, hK1, ok1⟩ := open_arg opens_30 hsz (j := 1) (t := 30) rfl rfl h1
  obtain ⟨cs1, rfl, _⟩ := okWide_struct Try.underlying30 (hval 1 30 v1 rfl rfl)
  obtain ⟨A1_2, c1_2, A1_3, c1_3, A1_4, c1_4, A1_7, c1_7, hc1, hl1_2, hr1_2, hl1_3, hr1_3, hl1_4, hr1_4, hl1_7, hr1_7⟩ := k30_open hK1
  obtain rfl : cs1 = #[.int .i64 x1.f0.f0, .int .i64 x1.f0.f1, .slice A1_2 x1.f0.f2.length c1_2, .slice A1_3 x1.f1.length c1_3, .slice A1_4 x1.f2.length c1_4, .int .i64 x1.f3.f0, .int .i64 x1.f3.f1, .slice A1_7 x1.f3.f2.length c1_7] := Array.toList_inj.mp (by simpa [Value.cells] using hc1)
  have k2 := h2
  have lt2 : ∀ x ∈ p2, x.block < W.heap.size := by obtain ⟨m, hm⟩ := k2; exact DataW.trod_lt m _ _ _ hm
  obtain ⟨x2, hK2, ok2⟩ := open_arg opens_59 hsz (j := 2) (t := 59) rfl rfl h2
  obtain ⟨b2, len2, cap2, rfl⟩ := okWide_slice Try.underlying59 (hval 2 59 v2 rfl rfl)
  obtain ⟨A2, c2, hc2, hl2, hr2⟩ := hK2
  simp only [Value.cells, List.cons.injEq, Value.slice.injEq, and_true] at hc2
  obtain ⟨rfl, rfl, rfl⟩ := hc2
  clear hA0 hval0 hsz0 hsz
  obtain ⟨k, hp⟩ := Pure.ModelChecks x0.f0 x0.f1 x0.f2 x0.f3 x0.f4 x1.f0.f0 x1.f0.f1 x1.f0.f2 x1.f1 x1.f2 x1.f3.f0 x1.f3.f1 x1.f3.f2 x2 ok0.1 ok0.2.1 ok0.2.2.1 ok0.2.2.2.1 ok0.2.2.2.2 ok1.1.1 ok1.1.2.1 ok1.1.2.2 ok1.2.1 ok1.2.2.1 ok1.2.2.2.1 ok1.2.2.2.2.1 ok1.2.2.2.2.2 ok2
  refine (tillerlaw06_ModelChecks.calls x0.f0 x0.f1 x0.f2 x0.f3 x0.f4 x1.f0.f0 x1.f0.f1 _ _ x1.f0.f2 _ _ x1.f1 _ _ x1.f2 x1.f3.f0 x1.f3.f1 _ _ x1.f3.f2 _ _ x2 true W hr1_2 hl1_2 hr1_3 hl1_3 hr1_4 hl1_4 hr1_7 hl1_7 hr2 hl2 ⟨rfl⟩ hp).mono fun e W' ⟨he, bel0⟩ => ?_
  have bel : Below W.heap.size W W' := bel0
  subst he
  exact ⟨_, rfl, _, _, _, [], _, [], hW', trodAll_mk1 (shut_bool Try.underlying4 _), (trodAll_cons_mk (Below.trod laidOut (by kernel_rfl) (of_decide_eq_true (by kernel_rfl)) k0 bel lt0) (trodAll_cons_mk (Below.trod laidOut (by kernel_rfl) (of_decide_eq_true (by kernel_rfl)) k1 bel lt1) (trodAll_cons_mk (Below.trod laidOut (by kernel_rfl) (of_decide_eq_true (by kernel_rfl)) k2 bel lt2) trodAll_mk0))), rfl, bel.frame _, fun h => by cases h⟩
theorem over : Rows.modelChecksRow.holds Try.pinned (OpenSpec.ofChange Rows.modelChecksSpec) :=
  OpenClaim.holds_of_wide 8 Try.f8 rfl rfl rfl rfl rfl rfl rfl ⟨rfl, rfl, rfl, rfl, rfl⟩ rfl rfl rfl rfl rfl (by kernel_rfl) Try.func8 (by kernel_rfl)
    (of_decide_eq_true (by kernel_rfl)) (by unfold Func.isWrapper; first | (rw [if_pos (by decide +kernel)]; kernel_rfl) | (rw [if_neg (by decide +kernel)]; exact ⟨rfl, rfl⟩))
    (fun os started H enc _ => lifted os started H enc)
theorem proved : Rows.ModelChecksSaid := over
#print axioms proved
end Go.Proofs.Ytdlhodbokkaghaa.modelChecks
namespace Go.Proofs.Ytdlhodbokkaghaa
/-- The row, under a short name, for the claim. -/
theorem modelChecks_holds : Rows.ModelChecksSaid := modelChecks.proved
end Go.Proofs.Ytdlhodbokkaghaa
