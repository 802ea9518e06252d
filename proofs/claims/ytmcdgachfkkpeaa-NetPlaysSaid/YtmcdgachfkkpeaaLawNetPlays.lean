/- The law NetPlays holds of the given program at every input that its row speaks of: it returns true and leaves its arguments as they were. Conditions: none of ours beyond the row's own. Written by this session's program gprint.py. -/
import Derived.Test.YtmcdgachfkkpeaaRows
import Derived.Test.YtmcdgachfkkpeaaOPlays
import Derived.Test.YtmcdgachfkkpeaaPureNetPlays
import Derived.Test.YtmcdgachfkkpeaaWRow
import Derived.WalkKit
import Derived.ProofKit
import Derived.OpenShut
import Derived.ShutString
import Derived.ChangeOld
import Derived.Below
import Derived.SizedLaws
namespace Go.Proofs.Ytmcdgachfkkpeaa.netPlays
open Go.ChangeShapes Go.WideShapes Go.ChangeAt Go.Joins
open Go.RowKit Go.Proofs.YtmcdgachfkkpeaaW.PrintWords Go.Proofs.YtmcdgachfkkpeaaW.PrintLast Go.Proofs.YtmcdgachfkkpeaaW.PrintMore Go.Proofs.Ytmcdgachfkkpeaa.GQ Go.Proofs.Ytmcdgachfkkpeaa.OPlays
open Go.ChangeMaps (open_string shut_string)
set_option linter.unusedVariables false
theorem own : ownKnob Try.prog.godebug = none := by kernel_rfl
theorem laidOut : laidOutB Try.prog = true := by kernel_rfl
theorem opens_52 : Opens Try.prog 52 k52 (fun x => ((Lit.int .i64 x.f0).wf = true ∧ (Lit.int .i64 x.f1).wf = true ∧ (Lit.int .i64 x.f2).wf = true ∧ x.f3.size ≤ 140737488351232 ∧ (Lit.int .u32 x.f4).wf = true)) := opens_iso (fun x : S52 => (x.f0, x.f1, x.f2, x.f3, x.f4)) (fun y => ⟨y.1, y.2.1, y.2.2.1, y.2.2.2.1, y.2.2.2.2⟩) (fun _ => rfl) (opens_struct (tot := 5) Try.underlying52 rfl (by kernel_rfl) (seq_cons rfl (by kernel_rfl) (opens_int (t := 3) Try.underlying3) (seq_cons rfl (by kernel_rfl) (opens_int (t := 3) Try.underlying3) (seq_cons rfl (by kernel_rfl) (opens_int (t := 3) Try.underlying3) (seq_cons rfl (by kernel_rfl) (opens_string (t := 9) Try.underlying9) (seq_one rfl (by kernel_rfl) (opens_int (t := 39) Try.underlying39)))))))
theorem opens_44 : Opens Try.prog 44 (Kd.slice 52 k52) (fun xs => (xs.length * 48 ≤ 140737488351232 ∧ xs.length ≤ maxLen ∧ ∀ x0 ∈ xs, ((Lit.int .i64 x0.f0).wf = true ∧ (Lit.int .i64 x0.f1).wf = true ∧ (Lit.int .i64 x0.f2).wf = true ∧ x0.f3.size ≤ 140737488351232 ∧ (Lit.int .u32 x0.f4).wf = true))) := opens_slice Try.underlying44 (by kernel_rfl) (by kernel_rfl) opens_52
set_option maxRecDepth 100000 in
theorem lifted (os : Os) (started : os.Started) (H : Type) (enc : TypeId × Value → H) :
    ReturnsInHanded {} Try.checked os 7 .any (Rows.netPlaysSpec.pre6 enc Try.prog Try.f7 Rows.netPlaysRow.domain false) (Rows.netPlaysSpec.post enc Try.prog Try.f7 false true false false) := by
  refine returnsInHanded_of_change_sized (C := Try.checked) own started (by kernel_rfl) Try.func7
    (ChangeSpec.witness6 (enc := enc) (C := Try.checked) false ⟨#[], #[(.slice none 0 0)], []⟩ 8 (by kernel_rfl) (by kernel_rfl) (by kernel_rfl) (by kernel_rfl)) ?_
  intro W base args ds gs before hval0 hW hcnd hsz0 _
  have hsz : (DataW.weightsEach Try.prog (Try.f7.params.toList ++ Rows.netPlaysSpec.plain.varTypes Try.prog) (ds ++ gs)).all (· ≤ reachBytes) = true := hsz0
  have hval : ∀ (j : Nat) t v, Try.f7.params[j]? = some t → args[j]? = some v → Value.okWide Try.prog W .any base t v := hval0
  have hW' := hW
  obtain ⟨p, q, hA0, hV, rfl, hfz, hnd⟩ := hW
  have hA : DataW.TrodAll enc Try.prog W 0 (fun _ => true) true Try.f7.params.toList args.toList ds p := hA0
  rw [Try.params7] at hA hval hsz
  obtain ⟨v0, vs0, d0, ds0, p0, q0, hargs, rfl, rfl, h0, r0⟩ := trodAll_cons hA
  obtain ⟨rfl, rfl, rfl⟩ := trodAll_nil r0
  obtain rfl : args = #[v0] := by cases args; simp_all
  obtain ⟨rfl, rfl⟩ := trodVars_none hV
  have k0 := h0
  have lt0 : ∀ x ∈ p0, x.block < W.heap.size := by obtain ⟨m, hm⟩ := k0; exact DataW.trod_lt m _ _ _ hm
  obtain ⟨x0, hK0, ok0⟩ := open_arg opens_44 hsz (j := 0) (t := 44) rfl rfl h0
  obtain ⟨b0, len0, cap0, rfl⟩ := okWide_slice Try.underlying44 (hval 0 44 v0 rfl rfl)
  obtain ⟨A0, c0, hc0, hl0, hr0⟩ := hK0
  simp only [Value.cells, List.cons.injEq, Value.slice.injEq, and_true] at hc0
  obtain ⟨rfl, rfl, rfl⟩ := hc0
  clear hA0 hval0 hsz0 hsz
  obtain ⟨k, hp⟩ := Pure.NetPlays x0 ok0
  refine (tillerlaw16_NetPlays.calls _ _ x0 true W hr0 hl0 ⟨rfl⟩ hp).mono fun e W' ⟨he, bel0⟩ => ?_
  have bel : Below W.heap.size W W' := bel0
  subst he
  exact ⟨_, rfl, _, _, _, [], _, [], hW', trodAll_mk1 (shut_bool Try.underlying4 _), (trodAll_cons_mk (Below.trod laidOut (by kernel_rfl) (of_decide_eq_true (by kernel_rfl)) k0 bel lt0) trodAll_mk0), rfl, bel.frame _, fun h => by cases h⟩
theorem over : Rows.netPlaysRow.holds Try.pinned (OpenSpec.ofChange Rows.netPlaysSpec) :=
  OpenClaim.holds_of_wide 7 Try.f7 rfl rfl rfl rfl rfl rfl rfl ⟨rfl, rfl, rfl, rfl, rfl⟩ rfl rfl rfl rfl rfl (by kernel_rfl) Try.func7 (by kernel_rfl)
    (of_decide_eq_true (by kernel_rfl)) (by unfold Func.isWrapper; first | (rw [if_pos (by decide +kernel)]; kernel_rfl) | (rw [if_neg (by decide +kernel)]; exact ⟨rfl, rfl⟩))
    (fun os started H enc _ => lifted os started H enc)
theorem proved : Rows.NetPlaysSaid := over
#print axioms proved
end Go.Proofs.Ytmcdgachfkkpeaa.netPlays
namespace Go.Proofs.Ytmcdgachfkkpeaa
/-- The row, under a short name, for the claim. -/
theorem netPlays_holds : Rows.NetPlaysSaid := netPlays.proved
end Go.Proofs.Ytmcdgachfkkpeaa
