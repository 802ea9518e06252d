/- The law RecvPlays holds of the given program at every input that its row speaks of: it returns true and leaves its arguments as they were. Conditions: none of ours beyond the row's own. Written by this session's program gprint.py. -/
import Derived.Test.YtfonfdpimbnfaaaRows
import Derived.Test.YtfonfdpimbnfaaaORecvPlays
import Derived.Test.YtfonfdpimbnfaaaPureRecvPlays
import Derived.Test.YtfonfdpimbnfaaaWRow
import Derived.WalkKit
import Derived.ProofKit
import Derived.OpenShut
import Derived.ShutString
import Derived.ChangeOld
import Derived.Below
import Derived.SizedLaws
namespace Go.Proofs.Ytfonfdpimbnfaaa.recvPlays
open Go.ChangeShapes Go.WideShapes Go.ChangeAt Go.Joins
open Go.RowKit Go.Proofs.YtfonfdpimbnfaaaW.PrintWords Go.Proofs.YtfonfdpimbnfaaaW.PrintLast Go.Proofs.YtfonfdpimbnfaaaW.PrintMore Go.Proofs.Ytfonfdpimbnfaaa.GQ Go.Proofs.Ytfonfdpimbnfaaa.GJoin Go.Proofs.Ytfonfdpimbnfaaa.GGot Go.Proofs.Ytfonfdpimbnfaaa.ORecvPlays
open Go.ChangeMaps (open_string shut_string)
set_option linter.unusedVariables false
theorem own : ownKnob Try.prog.godebug = none := by kernel_rfl
theorem laidOut : laidOutB Try.prog = true := by kernel_rfl
theorem opens_46 : Opens Try.prog 46 k46 (fun x => ((Lit.int .i64 x.f0).wf = true ∧ (Lit.int .i64 x.f1).wf = true ∧ (Lit.int .i64 x.f2).wf = true ∧ x.f3.size ≤ 140737488351232)) := opens_iso (fun x : S46 => (x.f0, x.f1, x.f2, x.f3)) (fun y => ⟨y.1, y.2.1, y.2.2.1, y.2.2.2⟩) (fun _ => rfl) (opens_struct (tot := 4) Try.underlying46 rfl (by kernel_rfl) (seq_cons rfl (by kernel_rfl) (opens_int (t := 3) Try.underlying3) (seq_cons rfl (by kernel_rfl) (opens_int (t := 3) Try.underlying3) (seq_cons rfl (by kernel_rfl) (opens_int (t := 3) Try.underlying3) (seq_one rfl (by kernel_rfl) (opens_string (t := 9) Try.underlying9))))))
theorem opens_43 : Opens Try.prog 43 (Kd.slice 46 k46) (fun xs => (xs.length * 40 ≤ 140737488351232 ∧ xs.length ≤ maxLen ∧ ∀ x0 ∈ xs, ((Lit.int .i64 x0.f0).wf = true ∧ (Lit.int .i64 x0.f1).wf = true ∧ (Lit.int .i64 x0.f2).wf = true ∧ x0.f3.size ≤ 140737488351232))) := opens_slice Try.underlying43 (by kernel_rfl) (by kernel_rfl) opens_46
set_option maxRecDepth 100000 in
theorem lifted (os : Os) (started : os.Started) (H : Type) (enc : TypeId × Value → H) :
    ReturnsInHanded {} Try.checked os 7 .any (Rows.recvPlaysSpec.pre6 enc Try.prog Try.f7 Rows.recvPlaysRow.domain false) (Rows.recvPlaysSpec.post enc Try.prog Try.f7 false true false false) := by
  refine returnsInHanded_of_change_sized (C := Try.checked) own started (by kernel_rfl) Try.func7
    (ChangeSpec.witness6 (enc := enc) (C := Try.checked) false ⟨#[], #[(.int .i64 0), (.int .i64 0), (.slice none 0 0)], []⟩ 8 (by kernel_rfl) (by kernel_rfl) (by kernel_rfl) (by kernel_rfl)) ?_
  intro W base args ds gs before hval0 hW hcnd hsz0 _
  have hsz : (DataW.weightsEach Try.prog (Try.f7.params.toList ++ Rows.recvPlaysSpec.plain.varTypes Try.prog) (ds ++ gs)).all (· ≤ reachBytes) = true := hsz0
  have hval : ∀ (j : Nat) t v, Try.f7.params[j]? = some t → args[j]? = some v → Value.okWide Try.prog W .any base t v := hval0
  have hW' := hW
  obtain ⟨p, q, hA0, hV, rfl, hfz, hnd⟩ := hW
  have hA : DataW.TrodAll enc Try.prog W 0 (fun _ => true) true Try.f7.params.toList args.toList ds p := hA0
  rw [Try.params7] at hA hval hsz
  obtain ⟨v0, vs0, d0, ds0, p0, q0, hargs, rfl, rfl, h0, r0⟩ := trodAll_cons hA
  obtain ⟨v1, vs1, d1, ds1, p1, q1, rfl, rfl, rfl, h1, r1⟩ := trodAll_cons r0
  obtain ⟨v2, vs2, d2, ds2, p2, q2, rfl, rfl, rfl, h2, r2⟩ := trodAll_cons r1
  obtain ⟨rfl, rfl, rfl⟩ := trodAll_nil r2
  obtain rfl : args = #[v0, v1, v2] := by cases args; simp_all
  obtain ⟨rfl, rfl⟩ := trodVars_none hV
  have k0 := h0
  have lt0 : ∀ x ∈ p0, x.block < W.heap.size := by obtain ⟨m, hm⟩ := k0; exact DataW.trod_lt m _ _ _ hm
  obtain ⟨x0, hK0, ok0⟩ := open_arg (opens_int (t := 3) Try.underlying3) hsz (j := 0) (t := 3) rfl rfl h0
  obtain ⟨a0, rfl, _, _, _⟩ := open_int Try.underlying3 (hval 0 3 v0 rfl rfl) h0
  obtain rfl : a0 = x0 := by simpa [Value.cells, Kd.int, Kd.scalar] using hK0
  have k1 := h1
  have lt1 : ∀ x ∈ p1, x.block < W.heap.size := by obtain ⟨m, hm⟩ := k1; exact DataW.trod_lt m _ _ _ hm
  obtain ⟨x1, hK1, ok1⟩ := open_arg (opens_int (t := 3) Try.underlying3) hsz (j := 1) (t := 3) rfl rfl h1
  obtain ⟨a1, rfl, _, _, _⟩ := open_int Try.underlying3 (hval 1 3 v1 rfl rfl) h1
  obtain rfl : a1 = x1 := by simpa [Value.cells, Kd.int, Kd.scalar] using hK1
  have k2 := h2
  have lt2 : ∀ x ∈ p2, x.block < W.heap.size := by obtain ⟨m, hm⟩ := k2; exact DataW.trod_lt m _ _ _ hm
  obtain ⟨x2, hK2, ok2⟩ := open_arg opens_43 hsz (j := 2) (t := 43) rfl rfl h2
  obtain ⟨b2, len2, cap2, rfl⟩ := okWide_slice Try.underlying43 (hval 2 43 v2 rfl rfl)
  obtain ⟨A2, c2, hc2, hl2, hr2⟩ := hK2
  simp only [Value.cells, List.cons.injEq, Value.slice.injEq, and_true] at hc2
  obtain ⟨rfl, rfl, rfl⟩ := hc2
  clear hA0 hval0 hsz0 hsz
  obtain ⟨k, hp⟩ := Pure.RecvPlays a0 a1 x2 ok0 ok1 ok2
  refine (tillerlaw21_RecvPlays.calls a0 a1 _ _ x2 true W hr2 hl2 ⟨rfl⟩ hp).mono fun e W' ⟨he, bel0⟩ => ?_
  have bel : Below W.heap.size W W' := bel0
  subst he
  exact ⟨_, rfl, _, _, _, [], _, [], hW', trodAll_mk1 (shut_bool Try.underlying4 _), (trodAll_cons_mk (Below.trod laidOut (by kernel_rfl) (of_decide_eq_true (by kernel_rfl)) k0 bel lt0) (trodAll_cons_mk (Below.trod laidOut (by kernel_rfl) (of_decide_eq_true (by kernel_rfl)) k1 bel lt1) (trodAll_cons_mk (Below.trod laidOut (by kernel_rfl) (of_decide_eq_true (by kernel_rfl)) k2 bel lt2) trodAll_mk0))), rfl, bel.frame _, fun h => by cases h⟩
theorem over : Rows.recvPlaysRow.holds Try.pinned (OpenSpec.ofChange Rows.recvPlaysSpec) :=
  OpenClaim.holds_of_wide 7 Try.f7 rfl rfl rfl rfl rfl rfl rfl ⟨rfl, rfl, rfl, rfl, rfl⟩ rfl rfl rfl rfl rfl (by kernel_rfl) Try.func7 (by kernel_rfl)
    (of_decide_eq_true (by kernel_rfl)) (by unfold Func.isWrapper; first | (rw [if_pos (by decide +kernel)]; kernel_rfl) | (rw [if_neg (by decide +kernel)]; exact ⟨rfl, rfl⟩))
    (fun os started H enc _ => lifted os started H enc)
theorem proved : Rows.RecvPlaysSaid := over
#print axioms proved
end Go.Proofs.Ytfonfdpimbnfaaa.recvPlays
namespace Go.Proofs.Ytfonfdpimbnfaaa
/-- The row, under a short name, for the claim. -/
theorem recvPlays_holds : Rows.RecvPlaysSaid := recvPlays.proved
end Go.Proofs.Ytfonfdpimbnfaaa
