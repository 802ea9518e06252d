/- A map of bools. -/
import Derived.Test.YtfnogcppbhggpaaOMap
import Derived.Maps.StringElems
set_option linter.unusedVariables false
set_option linter.unusedSimpArgs false
namespace Go.Proofs.Ytfnogcppbhggpaa.OMap
open Go.RowKit Go.Proofs.YtfnogcppbhggpaaW.PrintWords Go.Maps
theorem plain_bool_inv {v : Value} {b : Bool} {ps : List MemPlace} (h : plainElem (H := Unit) Try.prog 4 v = some (.lit (.bool b), ps)) : v = .bool b := by
  unfold plainElem at h
  rw [Try.underlying4] at h
  cases v <;> simp at h
  rw [h.1]
/-- Block m is a map of at most N entries that reads as f. -/
def BoolAt (W : World) (m N : Nat) (f : Int → Bool) : Prop :=
  ∃ D : DT, W.ownsMap Try.prog 3 (plainElem Try.prog 4) m N D ∧ ∀ x, i64 x → D.atKey (ik x) (.lit (.bool false)) = .lit (.bool (f x))
theorem BoolAt.lt {W : World} {m N : Nat} {f : Int → Bool} (h : BoolAt W m N f) : m < W.heap.size := by
  obtain ⟨D, h1, _⟩ := h
  exact h1.lt
theorem BoolAt.block {W W' : World} {m N : Nat} {f : Int → Bool} (h : BoolAt W m N f) (he : W'.heap[m]? = W.heap[m]?) : BoolAt W' m N f := by
  obtain ⟨D, ⟨es, clock, hb, r⟩, h2⟩ := h
  exact ⟨D, ⟨es, clock, he.trans hb, r⟩, h2⟩
theorem BoolAt.below {W W' : World} {m N : Nat} {f : Int → Bool} (h : BoolAt W m N f) (hb : Below W.heap.size W W') : BoolAt W' m N f := h.block (hb.block m h.lt)
theorem BoolAt.made (W : World) : BoolAt (W.alloc (.map #[] 0)) W.heap.size 0 (fun _ => false) :=
  ⟨.map [], World.ownsMap_made _ _ _ _, fun x _ => rfl⟩
theorem zero_bool (W : World) : (zeroValue 4).run Try.prog W = .ok (.bool false) W := by kernel_rfl
theorem BoolAt.look {W : World} {m N : Nat} {f : Int → Bool} (h : BoolAt W m N f) {x : Int} (hx : i64 x) :
    (Instr.lookup 51 (.map (some m)) (.int .i64 x) false).run Try.prog W = .ok (.bool (f x)) W := by
  obtain ⟨D, h1, h2⟩ := h
  obtain ⟨v, ps, hrun, hv⟩ := h1.lookup K3 Try.underlying51 (zero_bool W) (plainElem_bool Try.underlying4 false) (key3 hx)
  rw [h2 x hx] at hv
  rw [hrun, plain_bool_inv hv]
theorem BoolAt.put {W W' : World} {m N : Nat} {f : Int → Bool} {D : DT} (h1 : W.ownsMap Try.prog 3 (plainElem Try.prog 4) m N D) (h2 : ∀ x, i64 x → D.atKey (ik x) (.lit (.bool false)) = .lit (.bool (f x))) {x : Int} {b : Bool}
    (h4 : W'.ownsMap Try.prog 3 (plainElem Try.prog 4) m (N + 1) (D.put (ik x) (.lit (.bool b)))) : BoolAt W' m (N + 1) (fun y => if y = x then b else f y) := by
  refine ⟨_, h4, fun y hy => ?_⟩
  show _ = DataW.lit (Lit.bool (if y = x then b else f y))
  by_cases e : y = x
  · subst e
    rw [if_pos rfl]
    exact atKey_put_same h1.isMap (show WideAt.IsKeyLit (ik y) from trivial) _ _
  · rw [if_neg e, atKey_put_other (ik_ne e)]
    exact h2 y hy
end Go.Proofs.Ytfnogcppbhggpaa.OMap
