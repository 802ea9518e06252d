/- strings.Builder beside other rows of bytes: what a write leaves as it was. -/
import Derived.Test.YtnhapgenebcjmaaGBuilder
import Derived.Test.YtnhapgenebcjmaaLShelf
import Derived.Test.YtnhapgenebcjmaaWExtra
set_option linter.unusedVariables false
set_option linter.unusedSimpArgs false
namespace Go.Proofs.Ytnhapgenebcjmaa.GBuilder
open Go.Proofs Go.Shelf Go.RowKit Go.Proofs.YtnhapgenebcjmaaW.PrintWords Go.Proofs.YtnhapgenebcjmaaW.PrintLast Go.Proofs.YtnhapgenebcjmaaW.PrintMore
/-- A builder in block b, its buffer v, its bytes bs. -/
def BAt (B b : Nat) (v : Value) (bs : List Value) (w : World) : Prop :=
  B ≤ b ∧ (∃ p, (p = .pointer none ∨ p = .pointer (some ⟨b, 0, none⟩)) ∧ w.heap[b]? = some (.cells #[p, v] 50 (0, 0))) ∧ w.ownsRow B 5 1 v bs.length bs
theorem BAt.lt {B b : Nat} {v : Value} {bs : List Value} {w : World} (h : BAt B b v bs w) : b < w.heap.size := by
  obtain ⟨_, ⟨p, _, hb⟩, _⟩ := h
  exact (Array.getElem?_eq_some_iff.1 hb).1
theorem BAt.ne {B b : Nat} {v : Value} {bs : List Value} {w : World} (h : BAt B b v bs w) : v.ownBlock ≠ some b := by
  obtain ⟨_, ⟨p, _, hb⟩, ho⟩ := h
  exact Lib.ownBlock_ne ho hb (by decide)
theorem BAt.isBuilder {B b : Nat} {v : Value} {bs : List Value} {w : World} (h : BAt B b v bs w) : Lib.IsBuilder 50 5 B b bs w := by
  have hne := h.ne
  obtain ⟨hB, ⟨p, hp, hb⟩, ho⟩ := h
  rcases hp with rfl | rfl
  · exact .inl ⟨hB, v, hb, ho, hne⟩
  · exact .inr ⟨hB, v, hb, ho, hne⟩
/-- A step that keeps the builder's blocks keeps the builder. -/
theorem BAt.kept {B b : Nat} {v : Value} {bs : List Value} {w w' : World} (h : BAt B b v bs w) (hb : w'.heap[b]? = w.heap[b]?) (hv : ∀ k, v.ownBlock = some k → w'.heap[k]? = w.heap[k]?) : BAt B b v bs w' := by
  obtain ⟨hB, ⟨p, hp, hh⟩, ho⟩ := h
  exact ⟨hB, ⟨p, hp, hb.trans hh⟩, own_move ho hv⟩
theorem copyCheck2 (B b : Nat) (v : Value) (bs : List Value) (w : World) (h : BAt B b v bs w) :
    Calls Try.prog 38 #[.pointer (some ⟨b, 0, none⟩)] w fun e w' => e = .returned (.tuple #[]) ∧ w'.heap[b]? = some (.cells #[.pointer (some ⟨b, 0, none⟩), v] 50 (0, 0)) ∧ w'.ownsRow B 5 1 v bs.length bs ∧ KeepBut w w' b none ∧ w.heap.size = w'.heap.size ∧ Below B w w' := by
  have hne := h.ne
  have hlt := h.lt
  obtain ⟨hB, ⟨p, hp, hb⟩, ho⟩ := h
  rcases hp with rfl | rfl
  · have hi : Lib.BuilderAt 50 5 B b (.pointer none) bs w := ⟨hB, v, hb, ho, hne⟩
    refine (copyCheck_fresh b w hi.cell0 hi.shape hi.frozen0).mono ?_
    rintro e w' ⟨rfl, rfl⟩
    refine ⟨rfl, ?_, ?_, KeepBut.set_ (KeepBut.refl w b none) 0 _, by simp [World.setCell], (Below.refl B w).setCell (p := ⟨b, 0, none⟩) hB _⟩
    · simp [World.setCell, Array.getElem?_modify, hb]
    · exact own_setCell ho (p := ⟨b, 0, none⟩) (fun e => hne e.symm) _
  · have hi : Lib.BuilderAt 50 5 B b (.pointer (some ⟨b, 0, none⟩)) bs w := ⟨hB, v, hb, ho, hne⟩
    refine (copyCheck_used b w hi.cell0).mono ?_
    rintro e w' ⟨rfl, rfl⟩
    exact ⟨rfl, hb, ho, KeepBut.refl _ _ _, rfl, Below.refl B _⟩
set_option maxHeartbeats 2000000 in
set_option maxRecDepth 100000 in
theorem WriteByte2 (B b : Nat) (v : Value) (bs : List Value) (c : Int) (w : World) (h : BAt B b v bs w) (hlen : bs.length + 1 ≤ 140737488355328) (hBw : B ≤ w.heap.size) :
    Calls Try.prog 30 #[.pointer (some ⟨b, 0, none⟩), .int .u8 c] w fun e w' => e = .returned .nilIface ∧ ∃ v', BAt B b v' (bs ++ [.int .u8 c]) w' ∧ Below B w w' ∧ KeepBut w w' b v.ownBlock ∧ (v'.ownBlock = v.ownBlock ∨ ∃ g, v'.ownBlock = some g ∧ w.heap.size ≤ g) := by
  have hne := h.ne
  have hlt := h.lt
  have hB := h.1
  go_enter Try.func30, Try.ntmps30
  go_wp2_with (go_at_call 38; refine (copyCheck2 B b v bs _ h).mono ?_)
  rintro e w1 ⟨rfl, hbk, hown, hk1, hsz, hb1⟩
  have c0 : w1.cell? ⟨b, 0, none⟩ = some (.pointer (some ⟨b, 0, none⟩)) := by rw [Lib.cell_of_heap hbk]; rfl
  have c1 : w1.cell? ⟨b, 1, none⟩ = some v := by rw [Lib.cell_of_heap hbk]; rfl
  go_wp2_with (at_builtin; refine print_append (w0 := w) B rfl _ _ 48 5 (.int .u8 0) 1 rfl Try.underlying48 infoByte rfl (by decide) v bs (.int .u8 c) rfl rfl rfl hown hb1 (by omega) (by omega) ?_)
  intro v' w2 hown' hb2 hgrow hat
  have hbk2 : w2.heap[b]? = some (.cells #[.pointer (some ⟨b, 0, none⟩), v] 50 (0, 0)) := by
    rw [hgrow.block b (by omega) (fun e => hne e.symm)]; exact hbk
  have d0 : w2.cell? ⟨b, 0, none⟩ = some (.pointer (some ⟨b, 0, none⟩)) := by rw [Lib.cell_of_heap hbk2]; rfl
  have d1 : w2.cell? ⟨b, 1, none⟩ = some v := by rw [Lib.cell_of_heap hbk2]; rfl
  have f1 : w2.frozen? ⟨b, 1, none⟩ = false := Lib.frozen_of_heap hbk2 1
  have hne' : v'.ownBlock ≠ some b := Lib.ownBlock_ne hown' hbk2 (by decide)
  obtain ⟨g, cap, rfl⟩ : ∃ g cap, v' = .slice (some ⟨g, 0, none⟩) (bs.length + 1) cap := by
    rcases hown'.2 with ⟨_, h0⟩ | ⟨g, cap, cur, hv, _⟩
    · simp at h0
    · exact ⟨g, cap, hv⟩
  go_wp2
  go_ret
  refine ⟨rfl, .slice (some ⟨g, 0, none⟩) (bs.length + 1) cap, ⟨hB, ⟨_, .inr rfl, ?_⟩, ?_⟩, hb2.setCell (p := ⟨b, 1, none⟩) hB _, ?_, ?_⟩
  · simp [World.setCell, Array.getElem?_modify, hbk2]
  · have := own_setCell hown' (p := ⟨b, 1, none⟩) (fun e => hne' e.symm) (.slice (some ⟨g, 0, none⟩) (bs.length + 1) cap)
    simpa using this
  · refine KeepBut.set_ ⟨by have := hgrow.size; omega, fun i hi hg hn => ?_⟩ 1 _
    exact (hgrow.block i (by omega) hn).trans (hk1.2 i hi hg (by simp))
  · rcases hat with hat | ⟨g', hg, hgs⟩
    · exact .inl hat
    · exact .inr ⟨g', hg, by omega⟩
end Go.Proofs.Ytnhapgenebcjmaa.GBuilder
