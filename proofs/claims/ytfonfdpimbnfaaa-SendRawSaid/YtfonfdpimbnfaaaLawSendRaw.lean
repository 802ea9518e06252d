/- The law SendRaw holds of the given program at every input that its row speaks of: it returns true and leaves its arguments as they were. Conditions: none of ours beyond the row's own. Written by this session's program gprint.py. -/
import Derived.Test.YtfonfdpimbnfaaaRows
import Derived.Test.YtfonfdpimbnfaaaOSendRaw
import Derived.Test.YtfonfdpimbnfaaaPureSendRaw
import Derived.Test.YtfonfdpimbnfaaaWRow
import Derived.WalkKit
import Derived.ProofKit
import Derived.OpenShut
import Derived.ShutString
import Derived.ChangeOld
import Derived.Below
import Derived.SizedLaws
namespace Go.Proofs.Ytfonfdpimbnfaaa.sendRaw
open Go.ChangeShapes Go.WideShapes Go.ChangeAt Go.Joins
open Go.RowKit Go.Proofs.YtfonfdpimbnfaaaW.PrintWords Go.Proofs.YtfonfdpimbnfaaaW.PrintLast Go.Proofs.YtfonfdpimbnfaaaW.PrintMore Go.Proofs.Ytfonfdpimbnfaaa.GQ Go.Proofs.Ytfonfdpimbnfaaa.GJoin Go.Proofs.Ytfonfdpimbnfaaa.GGot Go.Proofs.Ytfonfdpimbnfaaa.OSendRaw
open Go.ChangeMaps (open_string shut_string)
set_option linter.unusedVariables false
theorem own : ownKnob Try.prog.godebug = none := by kernel_rfl
theorem laidOut : laidOutB Try.prog = true := by kernel_rfl
theorem opens_23 : Opens Try.prog 23 (Kd.slice 9 Kd.string) (fun xs => (xs.length * 16 ≤ 140737488351232 ∧ xs.length ≤ maxLen ∧ ∀ x0 ∈ xs, x0.size ≤ 140737488351232)) := opens_slice Try.underlying23 (by kernel_rfl) (by kernel_rfl) (opens_string (t := 9) Try.underlying9)
theorem opens_30 : Opens Try.prog 30 (Kd.slice 4 Kd.bool) (fun xs => (xs.length * 1 ≤ 140737488351232 ∧ xs.length ≤ maxLen ∧ ∀ x0 ∈ xs, True)) := opens_slice Try.underlying30 (by kernel_rfl) (by kernel_rfl) (opens_bool (t := 4) Try.underlying4)
theorem opens_32 : Opens Try.prog 32 k32 (fun x => ((Lit.int .i64 x.f0).wf = true ∧ (x.f1.length * 16 ≤ 140737488351232 ∧ x.f1.length ≤ maxLen ∧ ∀ x0 ∈ x.f1, x0.size ≤ 140737488351232) ∧ (x.f2.length * 1 ≤ 140737488351232 ∧ x.f2.length ≤ maxLen ∧ ∀ x0 ∈ x.f2, True))) := opens_iso (fun x : S32 => (x.f0, x.f1, x.f2)) (fun y => ⟨y.1, y.2.1, y.2.2⟩) (fun _ => rfl) (opens_struct (tot := 3) Try.underlying32 rfl (by kernel_rfl) (seq_cons rfl (by kernel_rfl) (opens_int (t := 3) Try.underlying3) (seq_cons rfl (by kernel_rfl) opens_23 (seq_one rfl (by kernel_rfl) opens_30))))
set_option maxRecDepth 100000 in
theorem lifted (os : Os) (started : os.Started) (H : Type) (enc : TypeId × Value → H) :
    ReturnsInHanded {} Try.checked os 5 .any (Rows.sendRawSpec.pre6 enc Try.prog Try.f5 Rows.sendRawRow.domain false) (Rows.sendRawSpec.post enc Try.prog Try.f5 false true false false) := by
  refine returnsInHanded_of_change_sized (C := Try.checked) own started (by kernel_rfl) Try.func5
    (ChangeSpec.witness6 (enc := enc) (C := Try.checked) false ⟨#[], #[(.agg #[(.int .i64 0), (.slice none 0 0), (.slice none 0 0)]), (.int .i64 0), (.int .i64 0)], []⟩ 8 (by kernel_rfl) (by kernel_rfl) (by kernel_rfl) (by kernel_rfl)) ?_
  intro W base args ds gs before hval0 hW hcnd hsz0 _
  have hsz : (DataW.weightsEach Try.prog (Try.f5.params.toList ++ Rows.sendRawSpec.plain.varTypes Try.prog) (ds ++ gs)).all (· ≤ reachBytes) = true := hsz0
  have hval : ∀ (j : Nat) t v, Try.f5.params[j]? = some t → args[j]? = some v → Value.okWide Try.prog W .any base t v := hval0
  have hW' := hW
  obtain ⟨p, q, hA0, hV, rfl, hfz, hnd⟩ := hW
  have hA : DataW.TrodAll enc Try.prog W 0 (fun _ => true) true Try.f5.params.toList args.toList ds p := hA0
  rw [Try.params5] at hA hval hsz
  obtain ⟨v0, vs0, d0, ds0, p0, q0, hargs, rfl, rfl, h0, r0⟩ := trodAll_cons hA
  obtain ⟨v1, vs1, d1, ds1, p1, q1, rfl, rfl, rfl, h1, r1⟩ := trodAll_cons r0
  obtain ⟨v2, vs2, d2, ds2, p2, q2, rfl, rfl, rfl, h2, r2⟩ := trodAll_cons r1
  obtain ⟨rfl, rfl, rfl⟩ := trodAll_nil r2
  obtain rfl : args = #[v0, v1, v2] := by cases args; simp_all
  obtain ⟨rfl, rfl⟩ := trodVars_none hV
  have k0 := h0
  have lt0 : ∀ x ∈ p0, x.block < W.heap.size := by obtain ⟨m, hm⟩ := k0; exact DataW.trod_lt m _ _ _ hm
  obtain ⟨x0, hK0, ok0⟩ := open_arg opens_32 hsz (j := 0) (t := 32) rfl rfl h0
  obtain ⟨cs0, rfl, _⟩ := okWide_struct Try.underlying32 (hval 0 32 v0 rfl rfl)
  obtain ⟨A0_1, c0_1, A0_2, c0_2, hc0, hl0_1, hr0_1, hl0_2, hr0_2⟩ := k32_open hK0
  obtain rfl : cs0 = #[.int .i64 x0.f0, .slice A0_1 x0.f1.length c0_1, .slice A0_2 x0.f2.length c0_2] := Array.toList_inj.mp (by simpa [Value.cells] using hc0)
  have k1 := h1
  have lt1 : ∀ x ∈ p1, x.block < W.heap.size := by obtain ⟨m, hm⟩ := k1; exact DataW.trod_lt m _ _ _ hm
  obtain ⟨x1, hK1, ok1⟩ := open_arg (opens_int (t := 3) Try.underlying3) hsz (j := 1) (t := 3) rfl rfl h1
  obtain ⟨a1, rfl, _, _, _⟩ := open_int Try.underlying3 (hval 1 3 v1 rfl rfl) h1
  obtain rfl : a1 = x1 := by simpa [Value.cells, Kd.int, Kd.scalar] using hK1
  have k2 := h2
  have lt2 : ∀ x ∈ p2, x.block < W.heap.size := by obtain ⟨m, hm⟩ := k2; exact DataW.trod_lt m _ _ _ hm
  obtain ⟨x2, hK2, ok2⟩ := open_arg (opens_int (t := 3) Try.underlying3) hsz (j := 2) (t := 3) rfl rfl h2
  obtain ⟨a2, rfl, _, _, _⟩ := open_int Try.underlying3 (hval 2 3 v2 rfl rfl) h2
  obtain rfl : a2 = x2 := by simpa [Value.cells, Kd.int, Kd.scalar] using hK2
  clear hA0 hval0 hsz0 hsz
  obtain ⟨k, hp⟩ := Pure.SendRaw x0.f0 x0.f1 x0.f2 a1 a2 ok0.1 ok0.2.1 ok0.2.2 ok1 ok2
  refine (tillerlaw20_SendRaw.calls x0.f0 _ _ x0.f1 _ _ x0.f2 a1 a2 true W hr0_1 hl0_1 hr0_2 hl0_2 ⟨rfl⟩ hp).mono fun e W' ⟨he, bel0⟩ => ?_
  have bel : Below W.heap.size W W' := bel0
  subst he
  exact ⟨_, rfl, _, _, _, [], _, [], hW', trodAll_mk1 (shut_bool Try.underlying4 _), (trodAll_cons_mk (Below.trod laidOut (by kernel_rfl) (of_decide_eq_true (by kernel_rfl)) k0 bel lt0) (trodAll_cons_mk (Below.trod laidOut (by kernel_rfl) (of_decide_eq_true (by kernel_rfl)) k1 bel lt1) (trodAll_cons_mk (Below.trod laidOut (by kernel_rfl) (of_decide_eq_true (by kernel_rfl)) k2 bel lt2) trodAll_mk0))), rfl, bel.frame _, fun h => by cases h⟩
theorem over : Rows.sendRawRow.holds Try.pinned (OpenSpec.ofChange Rows.sendRawSpec) :=
  OpenClaim.holds_of_wide 5 Try.f5 rfl rfl rfl rfl rfl rfl rfl ⟨rfl, rfl, rfl, rfl, rfl⟩ rfl rfl rfl rfl rfl (by kernel_rfl) Try.func5 (by kernel_rfl)
    (of_decide_eq_true (by kernel_rfl)) (by unfold Func.isWrapper; first | (rw [if_pos (by decide +kernel)]; kernel_rfl) | (rw [if_neg (by decide +kernel)]; exact ⟨rfl, rfl⟩))
    (fun os started H enc _ => lifted os started H enc)
theorem proved : Rows.SendRawSaid := over
#print axioms proved
end Go.Proofs.Ytfonfdpimbnfaaa.sendRaw
namespace Go.Proofs.Ytfonfdpimbnfaaa
/-- The row, under a short name, for the claim. -/
theorem sendRaw_holds : Rows.SendRawSaid := sendRaw.proved
end Go.Proofs.Ytfonfdpimbnfaaa
