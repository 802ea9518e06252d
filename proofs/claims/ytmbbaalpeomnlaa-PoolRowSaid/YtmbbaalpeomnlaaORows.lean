/- A row of whole numbers beside a pool. -/
import Derived.Test.YtmbbaalpeomnlaaOAct
import Derived.Test.YtmbbaalpeomnlaaOTaken
set_option linter.unusedVariables false
set_option linter.unusedSimpArgs false
namespace Go.Proofs.Ytmbbaalpeomnlaa.OPool
open Go.RowKit Go.Proofs.YtmbbaalpeomnlaaW.PrintWords Go.Proofs.YtmbbaalpeomnlaaW.PrintLast Go.Proofs.YtmbbaalpeomnlaaW.PrintMore Go.Proofs.Ytmbbaalpeomnlaa.GQ
/-- The pool's blocks lie from base on, and none is the row's. -/
def off (base : Nat) (v : Value) : Nat → Prop := fun k => base ≤ k ∧ some k ≠ v.ownBlock
def Row (base : Nat) (w : World) (v : Value) (xs : List Int) : Prop := (Kd.int .i64).R 3 w base (fun k => base ≤ k) v xs
theorem Row.below {base : Nat} {w w1 : World} {v : Value} {xs : List Int} (h : Row base w v xs) (hb : Below w.heap.size w w1) : Row base w1 v xs := Kd.R_below h hb
theorem Row.kept {base : Nat} {w w1 : World} {v : Value} {xs : List Int} (h : Row base w v xs) (hk : Kept w w1 (off base v)) : Row base w1 v xs :=
  Kd.R_mono (Kd.R_kept (Kd.R_mono (Kd.R_bound (Kd.R_tight rfl h)) (ok' := fun k => base ≤ k ∧ some k = v.ownBlock) (fun k hk => ⟨hk.2.1, hk.1⟩)) hk (fun k h1 h2 => h2.2 h1.2)) (fun k h1 => h1.1)
theorem Row.lt {base : Nat} {w : World} {v : Value} {xs : List Int} (h : Row base w v xs) : ∀ k, v.ownBlock = some k → k < w.heap.size := Kd.R_lt h
theorem Row.fresh {base : Nat} {w : World} {v : Value} {xs : List Int} (h : Row base w v xs) (hb : base ≤ w.heap.size) : ∀ k, w.heap.size ≤ k → off base v k :=
  fun k hk => ⟨Nat.le_trans hb hk, fun e => by have := h.lt k e.symm; omega⟩
/-- A row of no number, laid anew. -/
theorem Row.empty (base : Nat) (w : World) (hb : base ≤ w.heap.size) : Row base (w.alloc (.cells #[] 3 (0, 0))) (.slice (some ⟨w.heap.size, 0, none⟩) 0 0) [] := by
  refine ⟨fun k hk => ?_, [], ⟨rfl, .inr ⟨w.heap.size, 0, #[], rfl, hb, heap_alloc_new w _, Nat.le_refl _, by unfold maxLen; omega, rfl, rfl⟩⟩, Reps.none _ _⟩
  have : w.heap.size = k := by simpa [Value.ownBlock] using hk
  omega
theorem PoolAt.clear {base : Nat} {W : World} {g : Nat} {X : PX} (h : PoolAt base (fun k => base ≤ k) W g X) (v : Value) (hv : ∀ k, v.ownBlock = some k → W.heap.size ≤ k) (o : Obj) : PoolAt base (off base v) (W.alloc o) g X := by
  obtain ⟨b, A, c, h1, h2, h3, h4, h5, h6, h7⟩ := h
  have l1 := blk_lt h1.1
  have l2 := blk_lt h1.2
  have ne : ∀ k, k < W.heap.size → some k ≠ v.ownBlock := fun k hk e => by have := hv k e.symm; omega
  exact ⟨b, A, c, h1.step (below_alloc (Below.refl _ _) o), h2, ⟨h3, ne g l1⟩, h4, ⟨h5, ne b l2⟩, Kd.Q_alloc (Kd.Q_mono (Kd.Q_bound h6) (fun k hk => ⟨hk.1, ne k hk.2.2.1⟩)) o, h7⟩
/-- The row has grown: the pool is as it was, beside it. -/
theorem PoolAt.grown {base : Nat} {W w1 : World} {g : Nat} {X : PX} {v v1 : Value} (h : PoolAt base (off base v) W g X) (hg : W.grownBy w1 v.ownBlock) (hat : v1.ownBlock = v.ownBlock ∨ ∃ b, v1.ownBlock = some b ∧ W.heap.size ≤ b) : PoolAt base (off base v1) w1 g X := by
  obtain ⟨b, A, c, h1, h2, h3, h4, h5, h6, h7⟩ := h
  have l1 := blk_lt h1.1
  have l2 := blk_lt h1.2
  have ne : ∀ k, k < W.heap.size → some k ≠ v.ownBlock → some k ≠ v1.ownBlock := by
    intro k hk hn e
    rcases hat with hat | ⟨c, hc, hle⟩
    · exact hn (e.trans hat)
    · rw [hc] at e; injection e with e; omega
  refine ⟨b, A, c, ⟨blk_grown h1.1 hg h3.2, blk_grown h1.2 hg h5.2⟩, h2, ⟨h2, ne g l1 h3.2⟩, h4, ⟨h4, ne b l2 h5.2⟩, ?_, h7⟩
  exact Kd.Q_grown (Kd.Q_mono (Kd.Q_bound h6) (ok' := fun k => off base v1 k ∧ some k ≠ v.ownBlock) (fun k hk => ⟨⟨hk.2.1, ne k hk.2.2.1 hk.1.2⟩, hk.1.2⟩)) hg (fun k hk => hk.2) |> fun q => Kd.Q_mono q (fun k hk => hk.1)
theorem PoolAt.forget {base : Nat} {W : World} {g : Nat} {X : PX} {v : Value} (h : PoolAt base (off base v) W g X) : PoolAt base (fun k => base ≤ k) W g X := h.mono (fun k hk => hk.1)
theorem own_one {g n c k : Nat} (h : (Value.slice (some ⟨g, 0, none⟩) n c).ownBlock = some k) : g = k := by simpa [Value.ownBlock] using h
theorem empty_own (q : Nat) : ∀ k, (Value.slice (some ⟨q, 0, none⟩) 0 0).ownBlock = some k → q ≤ k := fun k h => Nat.le_of_eq (own_one h)
theorem Row.apart_new {base : Nat} {w : World} {v : Value} {xs : List Int} (h : Row base w v xs) : ∀ k, v.ownBlock = some k → (Value.slice (some ⟨w.heap.size, 0, none⟩) 0 0).ownBlock ≠ some k := by
  intro k h1 h2
  have h3 := h.lt k h1
  have h4 := own_one h2
  omega
theorem Row.apart_grown {base : Nat} {W : World} {v u v1 : Value} {xs : List Int} (h : Row base W v xs) (hn : ∀ k, v.ownBlock = some k → u.ownBlock ≠ some k) (hat : v1.ownBlock = u.ownBlock ∨ ∃ b, v1.ownBlock = some b ∧ W.heap.size ≤ b) : ∀ k, v.ownBlock = some k → v1.ownBlock ≠ some k := by
  intro k h1 h2
  rcases hat with hat | ⟨q, hq, hle⟩
  · exact hn k h1 (hat ▸ h2)
  · have h3 := h.lt k h1
    rw [hq] at h2
    injection h2 with h2
    omega
theorem Row.grown_other {base : Nat} {W w1 : World} {v u : Value} {xs : List Int} (h : Row base W v xs) (hg : W.grownBy w1 u.ownBlock) (hn : ∀ k, v.ownBlock = some k → u.ownBlock ≠ some k) : Row base w1 v xs :=
  Kd.R_grown2 h rfl hg (fun k h1 h2 => hn k h2.symm h1)
end Go.Proofs.Ytmbbaalpeomnlaa.OPool
