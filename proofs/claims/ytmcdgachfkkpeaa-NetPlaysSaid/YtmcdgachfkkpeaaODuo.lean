/- A net and the document's net side by side. -/
import Derived.Test.YtmcdgachfkkpeaaONRMove
import Derived.Test.YtmcdgachfkkpeaaONLose
import Derived.Test.YtmcdgachfkkpeaaURefTurn
set_option linter.unusedVariables false
set_option linter.unusedSimpArgs false
namespace Go.Proofs.Ytmcdgachfkkpeaa.ONet
open Go.RowKit Go.Proofs.YtmcdgachfkkpeaaW.PrintWords Go.Proofs.YtmcdgachfkkpeaaW.PrintLast Go.Proofs.YtmcdgachfkkpeaaW.PrintMore Go.Proofs.Ytmcdgachfkkpeaa.GQ
/-- The net's blocks: from base on, and none of S. -/
def ap (base : Nat) (S : Nat → Prop) : Nat → Prop := fun k => base ≤ k ∧ ¬ S k
/-- The document's row: read, within S. -/
def Ref (S : Nat → Prop) (W : World) (A : Option Addr) (c : Nat) (l : List PC) : Prop := Kd.V kR 53 W W.heap.size S (.slice A l.length c) (l.map cv) ∧ ∀ k, S k → k < W.heap.size
/-- S, and what was laid between. -/
def grew (S : Nat → Prop) (W W' : World) : Nat → Prop := fun k => S k ∨ (W.heap.size ≤ k ∧ k < W'.heap.size)
theorem Ref.kept {S : Nat → Prop} {base : Nat} {W W' : World} {A : Option Addr} {c : Nat} {l : List PC} (h : Ref S W A c l) (hk : Kept W W' (ap base S)) : Ref S W' A c l :=
  ⟨Kd.V_kept h.1 hk (fun k hS ha => ha.2 hS), fun k hS => Nat.lt_of_lt_of_le (h.2 k hS) hk.1⟩
theorem Ref.below {S : Nat → Prop} {W W' : World} {A : Option Addr} {c : Nat} {l : List PC} (h : Ref S W A c l) (hb : Below W.heap.size W W') : Ref S W' A c l :=
  ⟨Kd.V_below h.1 hb, fun k hS => Nat.lt_of_lt_of_le (h.2 k hS) hb.size⟩
theorem Ref.fresh {S : Nat → Prop} {base : Nat} {W : World} {A : Option Addr} {c : Nat} {l : List PC} (h : Ref S W A c l) (hb : base ≤ W.heap.size) : ∀ k, W.heap.size ≤ k → ap base S k := fun k hk => ⟨Nat.le_trans hb hk, fun hS => by have := h.2 k hS; omega⟩
theorem NetAt.beside_new {base : Nat} {S : Nat → Prop} {W W' : World} {g : Nat} {X : NX} (h : NetAt base (ap base S) W g X) (hb : Below W.heap.size W W') : NetAt base (ap base (grew S W W')) W' g X := by
  obtain ⟨A, c, h1, h2, h3, h4, h5⟩ := h
  have hlt := blk_lt h1
  have h6 : NetAt base (ap base (grew S W W')) W g X := ⟨A, c, h1, h2, ⟨h2, fun e => e.elim h3.2 (fun e => by omega)⟩, Kd.R_mono (Kd.R_bound h4) (fun k hk => ⟨hk.1.1, fun e => e.elim hk.1.2 (fun e => by have := hk.2.2; omega)⟩), h5⟩
  exact h6.step hb
theorem Ref.new {S : Nat → Prop} {W W' : World} {v : Value} {l : List PC} (hW : ∀ k, S k → k < W.heap.size) (hb : Below W.heap.size W W') (h : Kd.V kR 53 W' W.heap.size (fun k => S k ∨ W.heap.size ≤ k) v (l.map cv)) : ∃ A c, v = .slice A l.length c ∧ Ref (grew S W W') W' A c l := by
  obtain ⟨A, c, rfl⟩ := Kd.V_slice h
  rw [List.length_map] at h ⊢
  refine ⟨A, c, rfl, Kd.V_mono (Kd.V_bound h) (fun k hk => ?_), fun k hk => hk.elim (fun h => Nat.lt_of_lt_of_le (hW k h) hb.size) (fun h => h.2)⟩
  rcases hk.1 with h1 | h1
  · exact .inl h1
  · exact .inr ⟨h1, hk.2⟩
theorem Ref.grow {S : Nat → Prop} {W W' : World} {A : Option Addr} {c : Nat} {l : List PC} (h : Ref S W A c l) (hb : Below W.heap.size W W') : Ref (grew S W W') W' A c l :=
  ⟨Kd.V_mono (Kd.V_below h.1 hb) (fun k hk => .inl hk), fun k hk => hk.elim (fun h1 => Nat.lt_of_lt_of_le (h.2 k h1) hb.size) (fun h1 => h1.2)⟩
theorem Ref.reads {S : Nat → Prop} {W : World} {A : Option Addr} {c : Nat} {l : List PC} (h : Ref S W A c l) : l.length ≤ c ∧ kR.C W A l.length (l.map cv) := by
  obtain ⟨h1, h2, h3⟩ := Kd.V_reads' h.1
  rw [List.length_map] at h3
  exact ⟨h2, h3⟩
theorem grew_fresh {T : Nat → Prop} {base : Nat} {w W : World} (hT : ∀ k, T k → k < w.heap.size) (hb : Below w.heap.size w W) (hl : base ≤ W.heap.size) : ∀ k, W.heap.size ≤ k → ap base (grew T w W) k :=
  fun k hk => ⟨Nat.le_trans hl hk, fun h => h.elim (fun h => by have := hT k h; have := hb.size; omega) (fun h => by have := h.2; omega)⟩
/-- What a call of both leaves: the new net, told by both; the document's row lies within S', apart from the net's blocks; what lies in T is as it was. -/
def DPost (base : Nat) (S T : Nat → Prop) (w : World) (g : Nat) (X' : NX) (e : Ending) (w' : World) : Prop :=
  ∃ S' T' A' c', e = .returned (.tuple #[.agg #[.slice A' X'.way.length c', .int .i64 X'.lost], .bool true]) ∧ NetAt base (ap base T') w' g X' ∧ Ref S' w' A' c' X'.way ∧ (∀ k, S' k → S k ∨ w.heap.size ≤ k) ∧ (∀ k, S' k ∨ T k → T' k) ∧ (∀ k, T' k → k < w'.heap.size) ∧ Below base w w' ∧ Kept w w' (ap base T)
theorem dpost {base : Nat} {S T : Nat → Prop} {w W w1 w2 w' : World} {g : Nat} {X' : NX} {A' : Option Addr} {c' : Nat} (hST : ∀ k, S k → T k) (NF : NetAt base (ap base (grew (grew T w W) w1 w2)) w' g X') (RF : Ref (grew S w1 w2) w' A' c' X'.way) (h1 : w.heap.size ≤ w1.heap.size) (hB : Below base w w') (hK : Kept w w' (ap base T)) (hT : ∀ k, grew (grew T w W) w1 w2 k → k < w'.heap.size) :
    DPost base S T w g X' (.returned (.tuple #[.agg #[.slice A' X'.way.length c', .int .i64 X'.lost], .bool true])) w' :=
  ⟨grew S w1 w2, _, A', c', rfl, NF, RF, fun k hk => hk.elim .inl (fun h => .inr (Nat.le_trans h1 h.1)), fun k hk => hk.elim (fun h => h.elim (fun h => .inl (.inl (hST k h))) .inr) (fun h => .inl (.inl h)), hT, hB, hK⟩
theorem kept_first {base : Nat} {T : Nat → Prop} {w W w1 : World} (hb : Below w.heap.size w W) (hk : Kept W w1 (ap base (grew T w W))) : Kept w w1 (ap base T) :=
  (Kept.of_below hb _).then_ hk (fun k h => .inl ⟨h.1, fun h2 => h.2 (.inl h2)⟩)
end Go.Proofs.Ytmcdgachfkkpeaa.ONet
