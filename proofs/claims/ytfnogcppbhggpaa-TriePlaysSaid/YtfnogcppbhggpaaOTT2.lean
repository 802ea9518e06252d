/- Two tries side by side; rows of numbers that are written over. -/
import Derived.Test.YtfnogcppbhggpaaOTTwo
set_option linter.unusedVariables false
set_option linter.unusedSimpArgs false
namespace Go.Proofs.Ytfnogcppbhggpaa.OTrie
open Go.RowKit Go.Proofs.YtfnogcppbhggpaaW.PrintWords Go.Proofs.YtfnogcppbhggpaaW.PrintLast Go.Proofs.YtfnogcppbhggpaaW.PrintMore Go.Proofs.Ytfnogcppbhggpaa.GQ Go.Proofs.Ytfnogcppbhggpaa.OMap Go.Proofs.Ytfnogcppbhggpaa.UTrie Go.Proofs.Ytfnogcppbhggpaa.UTold Go.Maps
theorem Tr.more {W : World} {g N N' : Nat} {cnt : Int} {val : Row → Option Int} {lo : Nat} {X : TX} (h : Tr W g N cnt val lo X) (hn : N ≤ N') : Tr W g N' cnt val lo X := ⟨h.tr.mono hn, h.ct, h.vl, h.lo⟩
theorem Tr.move {W W' : World} {g N : Nat} {cnt : Int} {val : Row → Option Int} {lo : Nat} {X : TX} (t : Tr W g N cnt val lo X) (hk : ∀ k, foot X k → W'.heap[k]? = W.heap[k]?) : Tr W' g N cnt val lo X :=
  ⟨t.tr.move hk, by
    obtain ⟨cs, ty, h1, h2⟩ := t.ct
    exact ⟨cs, ty, (hk g (foot_root t.tr)).trans h1, h2⟩, t.vl, t.lo⟩
/-- Two tries. -/
structure T2 (w W : World) (g1 g2 lo N : Nat) (cnt1 cnt2 : Int) (val1 val2 : Row → Option Int) (X1 X2 : TX) : Prop where
  a : Tr W g1 N cnt1 val1 lo X1
  b : Tr W g2 N cnt2 val2 lo X2
  ap : apart X1 X2
  bel : Below lo w W
  le : lo ≤ W.heap.size
section
variable {w W W' : World} {g1 g2 lo N n : Nat} {cnt1 cnt2 cnt' : Int} {val1 val2 val' : Row → Option Int} {X1 X2 : TX}
theorem T2.below (h : T2 w W g1 g2 lo N cnt1 cnt2 val1 val2 X1 X2) (hb : Below W.heap.size W W') : T2 w W' g1 g2 lo N cnt1 cnt2 val1 val2 X1 X2 :=
  ⟨h.a.below hb, h.b.below hb, h.ap, h.bel.trans (hb.mono h.le), Nat.le_trans h.le hb.size⟩
theorem T2.more (h : T2 w W g1 g2 lo N cnt1 cnt2 val1 val2 X1 X2) {N' : Nat} (hn : N ≤ N') : T2 w W g1 g2 lo N' cnt1 cnt2 val1 val2 X1 X2 :=
  ⟨h.a.more hn, h.b.more hn, h.ap, h.bel, h.le⟩
theorem T2.first (h : T2 w W g1 g2 lo N cnt1 cnt2 val1 val2 X1 X2) {N' : Nat} (hN : N ≤ N') (d : Done n W W' g1 0 N' X1 val' cnt') :
    ∃ X1', T2 w W' g1 g2 lo N' cnt' cnt2 val' val2 X1' X2 ∧ Post n W W' g1 0 X1 X1' := by
  obtain ⟨X1', t, p, b⟩ := h.a.then_ h.le d
  exact ⟨X1', ⟨t, Tr.more (h.b.beside p h.ap) hN, apart_then h.ap p h.b.tr, h.bel.trans b, Nat.le_trans h.le p.kept.1⟩, p⟩
theorem T2.second (h : T2 w W g1 g2 lo N cnt1 cnt2 val1 val2 X1 X2) {N' : Nat} (hN : N ≤ N') (d : Done n W W' g2 0 N' X2 val' cnt') :
    ∃ X2', T2 w W' g1 g2 lo N' cnt1 cnt' val1 val' X1 X2' ∧ Post n W W' g2 0 X2 X2' := by
  obtain ⟨X2', t, p, b⟩ := h.b.then_ h.le d
  exact ⟨X2', ⟨Tr.more (h.a.beside p (apart_symm h.ap)) hN, t, apart_symm (apart_then (apart_symm h.ap) p h.a.tr), h.bel.trans b, Nat.le_trans h.le p.kept.1⟩, p⟩
/-- A store elsewhere. -/
theorem T2.set (h : T2 w W g1 g2 lo N cnt1 cnt2 val1 val2 X1 X2) {k j : Nat} (u : Value) (n1 : ¬ foot X1 k) (n2 : ¬ foot X2 k) (hk : lo ≤ k) : T2 w (W.setCell ⟨k, j, none⟩ u) g1 g2 lo N cnt1 cnt2 val1 val2 X1 X2 :=
  ⟨h.a.move (fun q hq => Below.heap_setCell _ _ _ _ (fun e : q = k => n1 (e ▸ hq))), h.b.move (fun q hq => Below.heap_setCell _ _ _ _ (fun e : q = k => n2 (e ▸ hq))), h.ap, h.bel.setCell (p := ⟨k, j, none⟩) hk u, by simpa [World.setCell] using h.le⟩
theorem T2.zero (w : World) : T2 w ((w.alloc (.cells zcells 27 (0, 0))).alloc (.cells zcells 27 (0, 0))) w.heap.size (w.heap.size + 1) w.heap.size 0 0 0 (fun _ => none) (fun _ => none) (zX w.heap.size 0) (zX (w.heap.size + 1) 0) := by
  have b0 := below_alloc (Below.refl w.heap.size w) (.cells zcells 27 (0, 0))
  have b1 := below_alloc b0 (.cells zcells 27 (0, 0))
  have hg1 := blk_alloc (blk_new w (.cells zcells 27 (0, 0))) (.cells zcells 27 (0, 0))
  have hg2 := blk_new (w.alloc (.cells zcells 27 (0, 0))) (.cells zcells 27 (0, 0))
  rw [World.size_alloc] at hg2
  exact ⟨Tr.zero hg1, ⟨(Tr.zero hg2).tr, (Tr.zero hg2).ct, rfl, fun k hk => by have := foot_zero hk; omega⟩, fun k hk hf => by have := foot_zero hk; have := foot_zero hf; omega, b1, b1.size⟩
end
/-- A row of numbers behind a store of a number into any block of numbers. -/
theorem R_any {W : World} {base : Nat} {ok : Nat → Prop} {v : Value} {l : List Int} {k0 j : Nat} {cs : Array Value} (x : Int) (h : kI.R 3 W base ok v l) (hk : W.heap[k0]? = some (.cells cs 3 (0, 0))) :
    ∃ l', l'.length = l.length ∧ kI.R 3 (W.setCell ⟨k0, j, none⟩ (.int .i64 x)) base ok v l' := by
  have ho := Kd.own_of_R h
  obtain ⟨h1, h2⟩ := ho
  rcases h2 with ⟨rfl, hz⟩ | ⟨g, cap, cur, rfl, hg, hh, r1, r2, r3, r4⟩
  · exact ⟨l, rfl, Kd.R_of_own (enc := Value.int .i64) (h1 := fun _ => rfl) ⟨h1, .inl ⟨rfl, hz⟩⟩ h.1⟩
  · by_cases e : g = k0
    · subst e
      refine ⟨l.set j x, List.length_set, Kd.R_of_own (enc := Value.int .i64) (h1 := fun _ => rfl) (xs := l.set j x) ?_ h.1⟩
      rw [List.length_set]
      refine ⟨by simp [encs], .inr ⟨g, cap, _, rfl, hg, blk_set hh j _, r1, r2, by simpa using r3, ?_⟩⟩
      rw [Array.toList_setIfInBounds, List.take_set, r4]
      unfold encs
      rw [List.map_set]
    · exact ⟨l, rfl, Kd.R_of_own (enc := Value.int .i64) (h1 := fun _ => rfl) ⟨h1, .inr ⟨g, cap, cur, rfl, hg, (Below.heap_setCell _ _ _ _ e).trans hh, r1, r2, r3, r4⟩⟩ h.1⟩
/-- A row with numbers in it: where it lies, and its cells. -/
theorem R_cell {W : World} {base : Nat} {ok : Nat → Prop} {A : Option Addr} {n c : Nat} {l : List Int} (h : kI.R 3 W base ok (.slice A n c) l) (i : Nat) (hi : i < n) : ∃ g cs, A = some ⟨g, 0, none⟩ ∧ ok g ∧ base ≤ g ∧ W.heap[g]? = some (.cells cs 3 (0, 0)) ∧ ∃ x : Int, W.cell? ⟨g, i, none⟩ = some (.int .i64 x) ∧ W.frozen? ⟨g, i, none⟩ = false := by
  obtain ⟨hn, _, hC⟩ := Kd.R_reads' h
  have ho := Kd.own_of_R h
  obtain ⟨h1, h2⟩ := ho
  rcases h2 with ⟨e, hz⟩ | ⟨g, cap, cur, e, hg, hh, r1, r2, r3, r4⟩
  · injection e with _ e2 _
    omega
  · injection e with e1 _ _
    subst e1
    obtain ⟨ad, e0, hx⟩ := at_int hC i (by omega)
    cases e0
    rw [add_plain] at hx
    exact ⟨g, cur, rfl, h.1 g rfl, hg, hh, _, hx, blk_frozen hh i⟩
end Go.Proofs.Ytfnogcppbhggpaa.OTrie
