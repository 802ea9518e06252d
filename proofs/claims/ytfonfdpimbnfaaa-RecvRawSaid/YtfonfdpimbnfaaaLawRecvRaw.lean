/- The law RecvRaw holds of the given program at every input that its row speaks of: it returns true and leaves its arguments as they were. Conditions: none of ours beyond the row's own. Written by this session's program gprint.py. -/
import Derived.Test.YtfonfdpimbnfaaaRows
import Derived.Test.YtfonfdpimbnfaaaGQx18
import Derived.Test.YtfonfdpimbnfaaaPureRecvRaw
import Derived.Test.YtfonfdpimbnfaaaWRow
import Derived.WalkKit
import Derived.ProofKit
import Derived.OpenShut
import Derived.ShutString
import Derived.ChangeOld
import Derived.Below
import Derived.SizedLaws
namespace Go.Proofs.Ytfonfdpimbnfaaa.recvRaw
open Go.ChangeShapes Go.WideShapes Go.ChangeAt Go.Joins
open Go.RowKit Go.Proofs.YtfonfdpimbnfaaaW.PrintWords Go.Proofs.YtfonfdpimbnfaaaW.PrintLast Go.Proofs.YtfonfdpimbnfaaaW.PrintMore Go.Proofs.Ytfonfdpimbnfaaa.GQ Go.Proofs.Ytfonfdpimbnfaaa.GJoin Go.Proofs.Ytfonfdpimbnfaaa.GGot
open Go.ChangeMaps (open_string shut_string)
set_option linter.unusedVariables false
theorem own : ownKnob Try.prog.godebug = none := by kernel_rfl
theorem laidOut : laidOutB Try.prog = true := by kernel_rfl
theorem opens_23 : Opens Try.prog 23 (Kd.slice 9 Kd.string) (fun xs => (xs.length * 16 ≤ 140737488351232 ∧ xs.length ≤ maxLen ∧ ∀ x0 ∈ xs, x0.size ≤ 140737488351232)) := opens_slice Try.underlying23 (by kernel_rfl) (by kernel_rfl) (opens_string (t := 9) Try.underlying9)
theorem opens_30 : Opens Try.prog 30 (Kd.slice 4 Kd.bool) (fun xs => (xs.length * 1 ≤ 140737488351232 ∧ xs.length ≤ maxLen ∧ ∀ x0 ∈ xs, True)) := opens_slice Try.underlying30 (by kernel_rfl) (by kernel_rfl) (opens_bool (t := 4) Try.underlying4)
theorem opens_50 : Opens Try.prog 50 k50 (fun x => ((Lit.int .i64 x.f0).wf = true ∧ (x.f1.length * 16 ≤ 140737488351232 ∧ x.f1.length ≤ maxLen ∧ ∀ x0 ∈ x.f1, x0.size ≤ 140737488351232) ∧ (x.f2.length * 1 ≤ 140737488351232 ∧ x.f2.length ≤ maxLen ∧ ∀ x0 ∈ x.f2, True))) := opens_iso (fun x : S50 => (x.f0, x.f1, x.f2)) (fun y => ⟨y.1, y.2.1, y.2.2⟩) (fun _ => rfl) (opens_struct (tot := 3) Try.underlying50 rfl (by kernel_rfl) (seq_cons rfl (by kernel_rfl) (opens_int (t := 3) Try.underlying3) (seq_cons rfl (by kernel_rfl) opens_23 (seq_one rfl (by kernel_rfl) opens_30))))
theorem opens_46 : Opens Try.prog 46 k46 (fun x => ((Lit.int .i64 x.f0).wf = true ∧ (Lit.int .i64 x.f1).wf = true ∧ (Lit.int .i64 x.f2).wf = true ∧ x.f3.size ≤ 140737488351232)) := opens_iso (fun x : S46 => (x.f0, x.f1, x.f2, x.f3)) (fun y => ⟨y.1, y.2.1, y.2.2.1, y.2.2.2⟩) (fun _ => rfl) (opens_struct (tot := 4) Try.underlying46 rfl (by kernel_rfl) (seq_cons rfl (by kernel_rfl) (opens_int (t := 3) Try.underlying3) (seq_cons rfl (by kernel_rfl) (opens_int (t := 3) Try.underlying3) (seq_cons rfl (by kernel_rfl) (opens_int (t := 3) Try.underlying3) (seq_one rfl (by kernel_rfl) (opens_string (t := 9) Try.underlying9))))))
set_option maxRecDepth 100000 in
theorem lifted (os : Os) (started : os.Started) (H : Type) (enc : TypeId × Value → H) :
    ReturnsInHanded {} Try.checked os 8 .any (Rows.recvRawSpec.pre6 enc Try.prog Try.f8 Rows.recvRawRow.domain false) (Rows.recvRawSpec.post enc Try.prog Try.f8 false true false false) := by
  refine returnsInHanded_of_change_sized (C := Try.checked) own started (by kernel_rfl) Try.func8
    (ChangeSpec.witness6 (enc := enc) (C := Try.checked) false ⟨#[], #[(.agg #[(.int .i64 0), (.slice none 0 0), (.slice none 0 0)]), (.agg #[(.int .i64 0), (.int .i64 0), (.int .i64 0), (.string ⟨#[]⟩)])], []⟩ 8 (by kernel_rfl) (by kernel_rfl) (by kernel_rfl) (by kernel_rfl)) ?_
  intro W base args ds gs before hval0 hW hcnd hsz0 _
  have hsz : (DataW.weightsEach Try.prog (Try.f8.params.toList ++ Rows.recvRawSpec.plain.varTypes Try.prog) (ds ++ gs)).all (· ≤ reachBytes) = true := hsz0
  have hval : ∀ (j : Nat) t v, Try.f8.params[j]? = some t → args[j]? = some v → Value.okWide Try.prog W .any base t v := hval0
  have hW' := hW
  obtain ⟨p, q, hA0, hV, rfl, hfz, hnd⟩ := hW
  have hA : DataW.TrodAll enc Try.prog W 0 (fun _ => true) true Try.f8.params.toList args.toList ds p := hA0
  rw [Try.params8] at hA hval hsz
  obtain ⟨v0, vs0, d0, ds0, p0, q0, hargs, rfl, rfl, h0, r0⟩ := trodAll_cons hA
  obtain ⟨v1, vs1, d1, ds1, p1, q1, rfl, rfl, rfl, h1, r1⟩ := trodAll_cons r0
  obtain ⟨rfl, rfl, rfl⟩ := trodAll_nil r1
  obtain rfl : args = #[v0, v1] := by cases args; simp_all
  obtain ⟨rfl, rfl⟩ := trodVars_none hV
  have k0 := h0
  have lt0 : ∀ x ∈ p0, x.block < W.heap.size := by obtain ⟨m, hm⟩ := k0; exact DataW.trod_lt m _ _ _ hm
  obtain ⟨x0, hK0, ok0⟩ := open_arg opens_50 hsz (j := 0) (t := 50) rfl rfl h0
  obtain ⟨cs0, rfl, _⟩ := okWide_struct Try.underlying50 (hval 0 50 v0 rfl rfl)
  obtain ⟨A0_1, c0_1, A0_2, c0_2, hc0, hl0_1, hr0_1, hl0_2, hr0_2⟩ := k50_open hK0
  obtain rfl : cs0 = #[.int .i64 x0.f0, .slice A0_1 x0.f1.length c0_1, .slice A0_2 x0.f2.length c0_2] := Array.toList_inj.mp (by simpa [Value.cells] using hc0)
  have k1 := h1
  have lt1 : ∀ x ∈ p1, x.block < W.heap.size := by obtain ⟨m, hm⟩ := k1; exact DataW.trod_lt m _ _ _ hm
  obtain ⟨x1, hK1, ok1⟩ := open_arg opens_46 hsz (j := 1) (t := 46) rfl rfl h1
  obtain ⟨cs1, rfl, _⟩ := okWide_struct Try.underlying46 (hval 1 46 v1 rfl rfl)
  have hc1 := k46_open hK1
  obtain rfl : cs1 = #[.int .i64 x1.f0, .int .i64 x1.f1, .int .i64 x1.f2, .string x1.f3] := Array.toList_inj.mp (by simpa [Value.cells] using hc1)
  clear hA0 hval0 hsz0 hsz
  obtain ⟨k, hp⟩ := Pure.RecvRaw x0.f0 x0.f1 x0.f2 x1.f0 x1.f1 x1.f2 x1.f3 ok0.1 ok0.2.1 ok0.2.2 ok1.1 ok1.2.1 ok1.2.2.1 ok1.2.2.2
  refine (tillerlaw21_RecvRaw.calls k x0.f0 _ _ x0.f1 _ _ x0.f2 x1.f0 x1.f1 x1.f2 x1.f3 true W hr0_1 hl0_1 hr0_2 hl0_2 ⟨rfl⟩ hp).mono fun e W' ⟨he, bel0⟩ => ?_
  have bel : Below W.heap.size W W' := bel0
  subst he
  exact ⟨_, rfl, _, _, _, [], _, [], hW', trodAll_mk1 (shut_bool Try.underlying4 _), (trodAll_cons_mk (Below.trod laidOut (by kernel_rfl) (of_decide_eq_true (by kernel_rfl)) k0 bel lt0) (trodAll_cons_mk (Below.trod laidOut (by kernel_rfl) (of_decide_eq_true (by kernel_rfl)) k1 bel lt1) trodAll_mk0)), rfl, bel.frame _, fun h => by cases h⟩
theorem over : Rows.recvRawRow.holds Try.pinned (OpenSpec.ofChange Rows.recvRawSpec) :=
  OpenClaim.holds_of_wide 8 Try.f8 rfl rfl rfl rfl rfl rfl rfl ⟨rfl, rfl, rfl, rfl, rfl⟩ rfl rfl rfl rfl rfl (by kernel_rfl) Try.func8 (by kernel_rfl)
    (of_decide_eq_true (by kernel_rfl)) (by unfold Func.isWrapper; first | (rw [if_pos (by decide +kernel)]; kernel_rfl) | (rw [if_neg (by decide +kernel)]; exact ⟨rfl, rfl⟩))
    (fun os started H enc _ => lifted os started H enc)
theorem proved : Rows.RecvRawSaid := over
#print axioms proved
end Go.Proofs.Ytfonfdpimbnfaaa.recvRaw
namespace Go.Proofs.Ytfonfdpimbnfaaa
/-- The row, under a short name, for the claim. -/
theorem recvRaw_holds : Rows.RecvRawSaid := recvRaw.proved
end Go.Proofs.Ytfonfdpimbnfaaa
