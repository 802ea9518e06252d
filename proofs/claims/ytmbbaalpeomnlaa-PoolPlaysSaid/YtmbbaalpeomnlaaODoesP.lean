/- The document's calls, told alike; the program's pool and the document's rows side by side. -/
import Derived.Test.YtmbbaalpeomnlaaORefDrop
import Derived.Test.YtmbbaalpeomnlaaOAct
set_option linter.unusedVariables false
set_option linter.unusedSimpArgs false
namespace Go.Proofs.Ytmbbaalpeomnlaa.OTwo
open Go.RowKit Go.Proofs.YtmbbaalpeomnlaaW.PrintWords Go.Proofs.YtmbbaalpeomnlaaW.PrintLast Go.Proofs.YtmbbaalpeomnlaaW.PrintMore Go.Proofs.Ytmbbaalpeomnlaa.GQ Go.Proofs.Ytmbbaalpeomnlaa.OPool Go.Proofs.Ytmbbaalpeomnlaa.OInv Go.Proofs.Ytmbbaalpeomnlaa.UPoolR
section
variable {S : Nat → Prop} {A0 A1 : Option Addr} {c0 c1 : Nat} {X : PX} {w : World}
theorem ref_two {w' : World} {v0 v1 : Value} {Y : PX} (h0 : Kd.V kP 70 w' w.heap.size (fun k_ => ((S k_ ∨ S k_) ∨ w.heap.size ≤ k_)) v0 (rows Y.pages)) (h1 : Kd.V kI 3 w' w.heap.size (fun k_ => ((S k_ ∨ S k_) ∨ w.heap.size ≤ k_)) v1 Y.idle) : Ref (fun k => S k ∨ w.heap.size ≤ k) w' v0 v1 Y :=
  ⟨Kd.V_mono h0 (fun k hk => hk.elim (fun q => .inl (q.elim id id)) .inr), Kd.V_mono h1 (fun k hk => hk.elim (fun q => .inl (q.elim id id)) .inr)⟩
theorem ref_hold (hI : Inv X) (i : Int) (h : Ref S w (.slice A0 (rows X.pages).length c0) (.slice A1 X.idle.length c1) X) :
    Calls Try.prog 27 #[.agg #[.slice A0 (rows X.pages).length c0, .slice A1 X.idle.length c1], .int .i64 i] w (RefEnd S w (pHold X i).1 (pHold X i).2) := by
  refine (tillerref12_Hold.calls 200 S A0 c0 (rows X.pages) S A1 c1 X.idle i (rows (pHold X i).1.pages) (pHold X i).1.idle (pHold X i).2 w h.1 h.2 (hold_eq hI i 200 (by omega))).mono ?_
  rintro e w' ⟨v0, v1, rfl, h0, h1, hb⟩
  exact ⟨v0, v1, rfl, ref_two h0 h1, hb⟩
theorem ref_seal (hI : Inv X) (i key : Int) (h : Ref S w (.slice A0 (rows X.pages).length c0) (.slice A1 X.idle.length c1) X) :
    Calls Try.prog 28 #[.agg #[.slice A0 (rows X.pages).length c0, .slice A1 X.idle.length c1], .int .i64 i, .int .i64 key] w (RefEnd S w (pSeal X i key).1 (pSeal X i key).2) := by
  refine (tillerref12_Seal.calls 200 S A0 c0 (rows X.pages) S A1 c1 X.idle i key (rows (pSeal X i key).1.pages) (pSeal X i key).1.idle (pSeal X i key).2 w h.1 h.2 (seal_eq hI i key 200 (by omega))).mono ?_
  rintro e w' ⟨v0, v1, rfl, h0, h1, hb⟩
  exact ⟨v0, v1, rfl, ref_two h0 h1, hb⟩
theorem ref_forget (hI : Inv X) (i : Int) (h : Ref S w (.slice A0 (rows X.pages).length c0) (.slice A1 X.idle.length c1) X) :
    Calls Try.prog 30 #[.agg #[.slice A0 (rows X.pages).length c0, .slice A1 X.idle.length c1], .int .i64 i] w (RefEnd S w (pForget X i).1 (pForget X i).2) := by
  refine (tillerref12_Forget.calls 400 S A0 c0 (rows X.pages) S A1 c1 X.idle i (rows (pForget X i).1.pages) (pForget X i).1.idle (pForget X i).2 w h.1 h.2 (forget_eq hI i 400 (by omega))).mono ?_
  rintro e w' ⟨v0, v1, rfl, h0, h1, hb⟩
  exact ⟨v0, v1, rfl, ref_two h0 h1, hb⟩
def RefTake (S : Nat → Prop) (w : World) (r : PX × (Int × Int × Bool × Int)) (e : Ending) (w' : World) : Prop := ∃ v0 v1 : Value, e = .returned (.tuple #[.agg #[v0, v1], .int .i64 r.2.1, .int .i64 r.2.2.1, .bool r.2.2.2.1, .int .i64 r.2.2.2.2]) ∧ Ref (fun k => S k ∨ w.heap.size ≤ k) w' v0 v1 r.1 ∧ Below w.heap.size w w'
theorem ref_take (hI : Inv X) (h : Ref S w (.slice A0 (rows X.pages).length c0) (.slice A1 X.idle.length c1) X) :
    Calls Try.prog 26 #[.agg #[.slice A0 (rows X.pages).length c0, .slice A1 X.idle.length c1]] w (RefTake S w (pTake X)) := by
  refine (tillerref12_Take.calls 200 S A0 c0 (rows X.pages) S A1 c1 X.idle (rows (pTake X).1.pages) (pTake X).1.idle (pTake X).2.1 (pTake X).2.2.1 (pTake X).2.2.2.1 (pTake X).2.2.2.2 w h.1 h.2 (take_eq hI 200 (by omega))).mono ?_
  rintro e w' ⟨v0, v1, rfl, h0, h1, hb⟩
  exact ⟨v0, v1, rfl, ref_two h0 h1, hb⟩
end
theorem PoolAt.bound {base : Nat} {ok : Nat → Prop} {W : World} {g : Nat} {X : PX} (h : PoolAt base ok W g X) : PoolAt base (fun k => ok k ∧ k < W.heap.size) W g X := by
  obtain ⟨b, A, c, h1, h2, h3, h4, h5, h6, h7⟩ := h
  exact ⟨b, A, c, h1, h2, ⟨h3, blk_lt h1.1⟩, h4, ⟨h5, blk_lt h1.2⟩, Kd.Q_mono (Kd.Q_bound h6) (fun k hk => ⟨hk.1, hk.2.2.1⟩), h7⟩
theorem PoolAt.move {base : Nat} {ok : Nat → Prop} {W W' : World} {g : Nat} {X : PX} (h : PoolAt base ok W g X) (hm : ∀ k, ok k → W'.heap[k]? = W.heap[k]?) : PoolAt base ok W' g X := by
  obtain ⟨b, A, c, h1, h2, h3, h4, h5, h6, h7⟩ := h
  exact ⟨b, A, c, ⟨(hm g h3).trans h1.1, (hm b h5).trans h1.2⟩, h2, h3, h4, h5, Kd.Q_step h6 (fun k hk _ => hm k hk), h7⟩
/-- The program's pool; the document's rows, in blocks of R; S: what is not the pool's. -/
structure Two (lo : Nat) (S R : Nat → Prop) (w W : World) (g : Nat) (X Y : PX) (v0 v1 : Value) : Prop where
  pool : PoolAt lo (fun k => lo ≤ k ∧ ¬ S k) W g X
  ref : Ref R W v0 v1 Y
  sub : ∀ k, R k → S k
  lt : ∀ k, S k → k < W.heap.size
  bel : Below lo w W
  le : lo ≤ W.heap.size
section
variable {lo g E j : Nat} {S R : Nat → Prop} {w W W' : World} {X X' Y Y' : PX} {v0 v1 v0' v1' : Value}
/-- What is new is none of the pool's. -/
theorem Two.more (h : Two lo S R w W g X Y v0 v1) (hb : Below W.heap.size W W') : Two lo (fun k => S k ∨ (W.heap.size ≤ k ∧ k < W'.heap.size)) R w W' g X Y v0 v1 :=
  ⟨((PoolAt.bound h.pool).step hb).mono (fun k hk => ⟨hk.1.1, fun q => q.elim hk.1.2 (fun r => by have := hk.2; omega)⟩), h.ref.below hb, fun k hk => .inl (h.sub k hk), fun k hk => hk.elim (fun q => Nat.lt_of_lt_of_le (h.lt k q) hb.size) (fun q => q.2), h.bel.trans (hb.mono h.le), Nat.le_trans h.le hb.size⟩
/-- Behind a call of the pool's. -/
theorem Two.call (h : Two lo S R w W g X Y v0 v1) (hp : Post lo (fun k => lo ≤ k ∧ ¬ S k) W W' g X') : Two lo S R w W' g X' Y v0 v1 :=
  ⟨hp.2.2, ⟨Kd.V_kept h.ref.1 hp.2.1 (fun k hk hn => hn.2 (h.sub k hk)), Kd.V_kept h.ref.2 hp.2.1 (fun k hk hn => hn.2 (h.sub k hk))⟩, h.sub, fun k hk => Nat.lt_of_lt_of_le (h.lt k hk) hp.2.1.1, h.bel.trans hp.1, Nat.le_trans h.le hp.2.1.1⟩
/-- Behind a call of the document's. -/
theorem Two.other (h : Two lo S R w W g X Y v0 v1) (hb : Below W.heap.size W W') (hr : Ref (fun k => R k ∨ W.heap.size ≤ k) W' v0' v1' Y') : Two lo (fun k => S k ∨ (W.heap.size ≤ k ∧ k < W'.heap.size)) (fun k => R k ∨ (W.heap.size ≤ k ∧ k < W'.heap.size)) w W' g X Y' v0' v1' :=
  ⟨(h.more hb).pool, ⟨Kd.V_mono (Kd.V_bound hr.1) (fun k hk => hk.1.elim .inl (fun q => .inr ⟨q, hk.2⟩)), Kd.V_mono (Kd.V_bound hr.2) (fun k hk => hk.1.elim .inl (fun q => .inr ⟨q, hk.2⟩))⟩, fun k hk => hk.elim (fun q => .inl (h.sub k q)) .inr, (h.more hb).lt, (h.more hb).bel, (h.more hb).le⟩
/-- A store into a box. -/
theorem Two.set (h : Two lo S R w W g X Y v0 v1) (hS : S E) (hR : ¬ R E) (hl : lo ≤ E) (u : Value) : Two lo S R w (W.setCell ⟨E, j, none⟩ u) g X Y v0 v1 :=
  ⟨PoolAt.move h.pool (fun k hk => Below.heap_setCell _ ⟨E, j, none⟩ _ k (fun q : k = E => hk.2 (q ▸ hS))), Ref.far (p := ⟨E, j, none⟩) h.ref (fun k hk q => hR ((show k = E from q) ▸ hk)) u, h.sub, fun k hk => by simpa [World.setCell] using h.lt k hk, h.bel.setCell (p := ⟨E, j, none⟩) hl u, by simpa [World.setCell] using h.le⟩
theorem Two.fresh (h : Two lo S R w W g X Y v0 v1) : ∀ k, W.heap.size ≤ k → lo ≤ k ∧ ¬ S k := fun k hk => ⟨Nat.le_trans h.le hk, fun q => by have := h.lt k q; omega⟩
/-- A box stays behind a call of the pool's. -/
theorem Two.box (h : Two lo S R w W g X Y v0 v1) (hp : Post lo (fun k => lo ≤ k ∧ ¬ S k) W W' g X') {o : Obj} (hb : W.heap[E]? = some o) (hS : S E) : W'.heap[E]? = some o := blk_kept hb hp.2.1 (fun q => q.2 hS)
end
end Go.Proofs.Ytmbbaalpeomnlaa.OTwo
