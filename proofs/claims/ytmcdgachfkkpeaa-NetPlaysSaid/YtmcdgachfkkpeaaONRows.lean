/- A row of parcels beside a net. -/
import Derived.Test.YtmcdgachfkkpeaaONAwake
set_option linter.unusedVariables false
set_option linter.unusedSimpArgs false
namespace Go.Proofs.Ytmcdgachfkkpeaa.ONet
open Go.RowKit Go.Proofs.YtmcdgachfkkpeaaW.PrintWords Go.Proofs.YtmcdgachfkkpeaaW.PrintLast Go.Proofs.YtmcdgachfkkpeaaW.PrintMore Go.Proofs.Ytmcdgachfkkpeaa.GQ
/-- The net's blocks lie from base on, and none is the row's. -/
def off (base : Nat) (v : Value) : Nat → Prop := fun k => base ≤ k ∧ some k ≠ v.ownBlock
def Row (base : Nat) (w : World) (v : Value) (xs : List PC) : Prop := kP.R 35 w base (fun k => base ≤ k) v xs
theorem Row.below {base : Nat} {w w1 : World} {v : Value} {xs : List PC} (h : Row base w v xs) (hb : Below w.heap.size w w1) : Row base w1 v xs := Kd.R_below h hb
theorem Row.kept {base : Nat} {w w1 : World} {v : Value} {xs : List PC} (h : Row base w v xs) (hk : Kept w w1 (off base v)) : Row base w1 v xs :=
  Kd.R_mono (Kd.R_kept (Kd.R_mono (Kd.R_bound (Kd.R_tight rfl h)) (ok' := fun k => base ≤ k ∧ some k = v.ownBlock) (fun k hk => ⟨hk.2.1, hk.1⟩)) hk (fun k h1 h2 => h2.2 h1.2)) (fun k h1 => h1.1)
theorem Row.lt {base : Nat} {w : World} {v : Value} {xs : List PC} (h : Row base w v xs) : ∀ k, v.ownBlock = some k → k < w.heap.size := Kd.R_lt h
theorem Row.fresh {base : Nat} {w : World} {v : Value} {xs : List PC} (h : Row base w v xs) (hb : base ≤ w.heap.size) : ∀ k, w.heap.size ≤ k → off base v k :=
  fun k hk => ⟨Nat.le_trans hb hk, fun e => by have := h.lt k e.symm; omega⟩
/-- A row of no parcel, laid anew. -/
theorem Row.empty (base : Nat) (w : World) (hb : base ≤ w.heap.size) : Row base (w.alloc (.cells #[] 35 (0, 0))) (.slice (some ⟨w.heap.size, 0, none⟩) 0 0) [] := by
  refine ⟨fun k hk => ?_, [], ⟨rfl, .inr ⟨w.heap.size, 0, #[], rfl, hb, heap_alloc_new w _, Nat.le_refl _, by unfold maxLen; omega, rfl, rfl⟩⟩, Reps.none _ _⟩
  have : w.heap.size = k := by simpa [Value.ownBlock] using hk
  omega
theorem NetAt.clear {base : Nat} {W : World} {g : Nat} {X : NX} (h : NetAt base (from_ base) W g X) (v : Value) (hv : ∀ k, v.ownBlock = some k → W.heap.size ≤ k) (o : Obj) : NetAt base (off base v) (W.alloc o) g X := by
  obtain ⟨A, c, h1, h2, h3, h4, h5⟩ := h
  have l1 := blk_lt h1
  have ne : ∀ k, k < W.heap.size → some k ≠ v.ownBlock := fun k hk e => by have := hv k e.symm; omega
  exact ⟨A, c, blk_alloc h1 o, h2, ⟨h3, ne g l1⟩, Kd.R_alloc (Kd.R_mono (Kd.R_bound h4) (fun k hk => ⟨hk.1, ne k hk.2.2.1⟩)) o, h5⟩
/-- The row has grown: the net is as it was, beside it. -/
theorem NetAt.grown {base : Nat} {W w1 : World} {g : Nat} {X : NX} {v v1 : Value} (h : NetAt base (off base v) W g X) (hg : W.grownBy w1 v.ownBlock) (hat : v1.ownBlock = v.ownBlock ∨ ∃ b, v1.ownBlock = some b ∧ W.heap.size ≤ b) : NetAt base (off base v1) w1 g X := by
  obtain ⟨A, c, h1, h2, h3, h4, h5⟩ := h
  have l1 := blk_lt h1
  have ne : ∀ k, k < W.heap.size → some k ≠ v.ownBlock → some k ≠ v1.ownBlock := by
    intro k hk hn e
    rcases hat with hat | ⟨c, hc, hle⟩
    · exact hn (e.trans hat)
    · rw [hc] at e; injection e with e; omega
  refine ⟨A, c, blk_grown h1 hg h3.2, h2, ⟨h2, ne g l1 h3.2⟩, ?_, h5⟩
  exact Kd.R_mono (Kd.R_grown (Kd.R_mono (Kd.R_bound h4) (ok' := fun k => off base v1 k ∧ some k ≠ v.ownBlock) (fun k hk => ⟨⟨hk.2.1, ne k hk.2.2.1 hk.1.2⟩, hk.1.2⟩)) hg (fun k hk => hk.2)) (fun k hk => hk.1)
theorem NetAt.forget {base : Nat} {W : World} {g : Nat} {X : NX} {v : Value} (h : NetAt base (off base v) W g X) : NetAt base (from_ base) W g X := h.mono (fun k hk => hk.1)
theorem own_one {g n c k : Nat} (h : (Value.slice (some ⟨g, 0, none⟩) n c).ownBlock = some k) : g = k := by simpa [Value.ownBlock] using h
theorem empty_own (q : Nat) : ∀ k, (Value.slice (some ⟨q, 0, none⟩) 0 0).ownBlock = some k → q ≤ k := fun k h => Nat.le_of_eq (own_one h)
/-- A parcel of the row, read. -/
theorem Row.get {base : Nat} {w : World} {A : Option Addr} {n c : Nat} {xs : List PC} (h : Row base w (.slice A n c) xs) (i : Nat) (hi : i < xs.length) : n = xs.length ∧ n ≤ c ∧ ∃ ad , A = some ad ∧ w.cell? (ad.add (i * 3)) = some (.int .i64 (pcl xs i).f0) ∧ w.cell? ⟨(ad.add (i * 3)).block, (ad.add (i * 3)).off + 1, none⟩ = some (.string (pcl xs i).f1) ∧ w.cell? ⟨(ad.add (i * 3)).block, (ad.add (i * 3)).off + 2, none⟩ = some (.bool (pcl xs i).f2) := by
  obtain ⟨e, hc, hC⟩ := Kd.R_reads' h
  refine ⟨e, hc, ?_⟩
  obtain ⟨ad, cs, e, _, hK, hc0⟩ := Kd.C_get hC z35 (i : Int) (by omega) (by omega)
  have hc : ∀ j u, cs[j]? = some u → w.cell? (ad.add (i * 3 + j)) = some u := fun j u hj => by have h1 := hc0 j u hj; rw [Int.toNat_natCast] at h1; exact h1
  obtain rfl := k35_open hK
  exact ⟨ad, e, hc 0 _ rfl, by rw [← add_field _ _ 1 (by omega)]; exact hc 1 _ rfl, by rw [← add_field _ _ 2 (by omega)]; exact hc 2 _ rfl⟩
end Go.Proofs.Ytmcdgachfkkpeaa.ONet
