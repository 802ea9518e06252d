/- does, walked by hand: a call on the program's pool and on the document's. Printed by wip/tool/odoesr.py. -/
import Derived.Test.YtmbbaalpeomnlaaODoesP
set_option linter.unusedVariables false
set_option linter.unusedSimpArgs false
namespace Go.Proofs.Ytmbbaalpeomnlaa.OTwo
open Go.RowKit Go.Proofs.YtmbbaalpeomnlaaW.PrintWords Go.Proofs.YtmbbaalpeomnlaaW.PrintLast Go.Proofs.YtmbbaalpeomnlaaW.PrintMore Go.Proofs.Ytmbbaalpeomnlaa.GQ Go.Proofs.Ytmbbaalpeomnlaa.OPool Go.Proofs.Ytmbbaalpeomnlaa.OInv Go.Proofs.Ytmbbaalpeomnlaa.UPoolR
/-- What a call makes of a pool. -/
def pDo (X : PX) (k i key : Int) : PX := if k = 1 then (pTake X).1 else if k = 2 then (pHold X i).1 else if k = 3 then (pSeal X i key).1 else if k = 4 then (pDrop X i).1 else if k = 5 then (pForget X i).1 else X
/-- What lies beside stays: blocks of Sb, and the document's rows lie in Rb's or in new ones. -/
structure Kin (Sb Rb : Nat → Prop) (wb : World) (S R : Nat → Prop) (W : World) : Prop where
  kp : ∀ k, Sb k → W.heap[k]? = wb.heap[k]?
  sup : ∀ k, Sb k → S k
  rup : ∀ k, R k → Rb k ∨ wb.heap.size ≤ k
  sz : wb.heap.size ≤ W.heap.size
  sb : ∀ k, Sb k → k < wb.heap.size
/-- What does answers. -/
def DoesEnd (lo : Nat) (Sb Rb : Nat → Prop) (w0 w : World) (g : Nat) (X' : PX) (e : Ending) (w' : World) : Prop := ∃ (S R : Nat → Prop) (A0 A1 : Option Addr) (c0 c1 : Nat), e = .returned (.tuple #[.agg #[.slice A0 (rows X'.pages).length c0, .slice A1 X'.idle.length c1], .bool true]) ∧ Two lo S R w0 w' g X' X' (.slice A0 (rows X'.pages).length c0) (.slice A1 X'.idle.length c1) ∧ Kin Sb Rb w S R w'
/-- Within does: its two parameters' boxes, its answer's. -/
structure Box (lo : Nat) (Sb Rb : Nat → Prop) (wb : World) (S R : Nat → Prop) (w0 W : World) (g : Nat) (X Y : PX) (v0 v1 : Value) (E F G : Nat) (p0 p1 u0 u1 : Value) (a b c : Int) : Prop extends Two lo S R w0 W g X Y v0 v1 where
  p : W.heap[E]? = some (.cells #[p0, p1] 43 (0, 0))
  q : W.heap[F]? = some (.cells #[.int .i64 a, .int .i64 b, .int .i64 c] 47 (0, 0))
  r : W.heap[G]? = some (.cells #[u0, u1] 43 (0, 0))
  ne : E ≠ F ∧ E ≠ G ∧ F ≠ G
  ins : S E ∧ S F ∧ S G
  nr : ¬ R E ∧ ¬ R F ∧ ¬ R G
  ge : lo ≤ E ∧ lo ≤ F ∧ lo ≤ G
  kin : Kin Sb Rb wb S R W
  hi : wb.heap.size ≤ E ∧ wb.heap.size ≤ G
theorem Kin.set {Sb Rb S R : Nat → Prop} {wb W : World} {E : Nat} (h : Kin Sb Rb wb S R W) (hE : wb.heap.size ≤ E) (t0 t1 : Value) : Kin Sb Rb wb S R ((W.setCell ⟨E, 0, none⟩ t0).setCell ⟨E, 1, none⟩ t1) :=
  ⟨fun k hk => ((Below.heap_setCell _ ⟨E, 1, none⟩ _ k (show k ≠ E by have := h.sb k hk; omega)).trans (Below.heap_setCell _ ⟨E, 0, none⟩ _ k (show k ≠ E by have := h.sb k hk; omega))).trans (h.kp k hk), h.sup, h.rup, by simpa [World.setCell] using h.sz, h.sb⟩
section
variable {lo g E F G : Nat} {Sb Rb S R : Nat → Prop} {w0 wb W W' : World} {X X' Y Y' : PX} {v0 v1 v0' v1' p0 p1 u0 u1 : Value} {a b c : Int}
theorem box_new (h : Two lo S R w0 W g X Y v0 v1) (a b c : Int) : Box lo S R W (fun k => S k ∨ (W.heap.size ≤ k ∧ k < W.heap.size + 3)) R w0 (((W.alloc (.cells #[v0, v1] 43 (0, 0))).alloc (.cells #[.int .i64 a, .int .i64 b, .int .i64 c] 47 (0, 0))).alloc (.cells #[.slice none 0 0, .slice none 0 0] 43 (0, 0))) g X Y v0 v1 W.heap.size (W.heap.size + 1) (W.heap.size + 2) v0 v1 (.slice none 0 0) (.slice none 0 0) a b c := by
  have b3 := below_alloc (below_alloc (below_alloc (Below.refl W.heap.size W) (.cells #[v0, v1] 43 (0, 0))) (.cells #[.int .i64 a, .int .i64 b, .int .i64 c] 47 (0, 0))) (.cells #[.slice none 0 0, .slice none 0 0] 43 (0, 0))
  have hs : (((W.alloc (.cells #[v0, v1] 43 (0, 0))).alloc (.cells #[.int .i64 a, .int .i64 b, .int .i64 c] 47 (0, 0))).alloc (.cells #[.slice none 0 0, .slice none 0 0] 43 (0, 0))).heap.size = W.heap.size + 3 := by rw [World.size_alloc, World.size_alloc, World.size_alloc]
  have t := h.more b3
  rw [hs] at t
  have e1 := blk_new (W.alloc (.cells #[v0, v1] 43 (0, 0))) (.cells #[.int .i64 a, .int .i64 b, .int .i64 c] 47 (0, 0))
  have e2 := blk_new ((W.alloc (.cells #[v0, v1] 43 (0, 0))).alloc (.cells #[.int .i64 a, .int .i64 b, .int .i64 c] 47 (0, 0))) (.cells #[.slice none 0 0, .slice none 0 0] 43 (0, 0))
  rw [World.size_alloc] at e1
  rw [World.size_alloc, World.size_alloc] at e2
  have nr : ∀ k, W.heap.size ≤ k → ¬ R k := fun k hk hr => by have := h.lt k (h.sub k hr); omega
  have hl := h.le
  exact ⟨t, blk_alloc (blk_alloc (blk_new W _) _) _, blk_alloc e1 _, e2, ⟨by omega, by omega, by omega⟩, ⟨.inr ⟨by omega, by omega⟩, .inr ⟨by omega, by omega⟩, .inr ⟨by omega, by omega⟩⟩, ⟨nr _ (by omega), nr _ (by omega), nr _ (by omega)⟩, ⟨by omega, by omega, by omega⟩, ⟨fun k hk => b3.block k (h.lt k hk), fun k hk => .inl hk, fun k hk => .inl hk, b3.size, h.lt⟩, ⟨by omega, by omega⟩⟩
theorem Box.call (h : Box lo Sb Rb wb S R w0 W g X Y v0 v1 E F G p0 p1 u0 u1 a b c) (hp : OPool.Post lo (fun k => lo ≤ k ∧ ¬ S k) W W' g X') : Box lo Sb Rb wb S R w0 W' g X' Y v0 v1 E F G p0 p1 u0 u1 a b c :=
  ⟨h.toTwo.call hp, h.toTwo.box hp h.p h.ins.1, h.toTwo.box hp h.q h.ins.2.1, h.toTwo.box hp h.r h.ins.2.2, h.ne, h.ins, h.nr, h.ge, ⟨fun k hk => (hp.2.1.2 k (h.toTwo.lt k (h.kin.sup k hk)) (fun q => q.2 (h.kin.sup k hk))).trans (h.kin.kp k hk), h.kin.sup, h.kin.rup, Nat.le_trans h.kin.sz hp.2.1.1, h.kin.sb⟩, h.hi⟩
theorem Box.other (h : Box lo Sb Rb wb S R w0 W g X Y v0 v1 E F G p0 p1 u0 u1 a b c) (hb : Below W.heap.size W W') (hr : Ref (fun k => R k ∨ W.heap.size ≤ k) W' v0' v1' Y') : Box lo Sb Rb wb (fun k => S k ∨ (W.heap.size ≤ k ∧ k < W'.heap.size)) (fun k => R k ∨ (W.heap.size ≤ k ∧ k < W'.heap.size)) w0 W' g X Y' v0' v1' E F G p0 p1 u0 u1 a b c := by
  have l1 := blk_lt h.p
  have l2 := blk_lt h.q
  have l3 := blk_lt h.r
  exact ⟨h.toTwo.other hb hr, blk_below h.p hb, blk_below h.q hb, blk_below h.r hb, h.ne, ⟨.inl h.ins.1, .inl h.ins.2.1, .inl h.ins.2.2⟩, ⟨fun q => q.elim h.nr.1 (fun q => by omega), fun q => q.elim h.nr.2.1 (fun q => by omega), fun q => q.elim h.nr.2.2 (fun q => by omega)⟩, h.ge, ⟨fun k hk => (hb.block k (h.toTwo.lt k (h.kin.sup k hk))).trans (h.kin.kp k hk), fun k hk => .inl (h.kin.sup k hk), fun k hk => hk.elim (h.kin.rup k) (fun q => .inr (Nat.le_trans h.kin.sz q.1)), Nat.le_trans h.kin.sz hb.size, h.kin.sb⟩, h.hi⟩
/-- What is new beside. -/
theorem Box.more (h : Box lo Sb Rb wb S R w0 W g X Y v0 v1 E F G p0 p1 u0 u1 a b c) (hb : Below W.heap.size W W') : Box lo Sb Rb wb (fun k => S k ∨ (W.heap.size ≤ k ∧ k < W'.heap.size)) R w0 W' g X Y v0 v1 E F G p0 p1 u0 u1 a b c :=
  ⟨h.toTwo.more hb, blk_below h.p hb, blk_below h.q hb, blk_below h.r hb, h.ne, ⟨.inl h.ins.1, .inl h.ins.2.1, .inl h.ins.2.2⟩, h.nr, h.ge, ⟨fun k hk => (hb.block k (h.toTwo.lt k (h.kin.sup k hk))).trans (h.kin.kp k hk), fun k hk => .inl (h.kin.sup k hk), h.kin.rup, Nat.le_trans h.kin.sz hb.size, h.kin.sb⟩, h.hi⟩
/-- The document's pool is laid into its box, into the answer's. -/
theorem Box.param (h : Box lo Sb Rb wb S R w0 W g X Y v0 v1 E F G p0 p1 u0 u1 a b c) (t0 t1 : Value) : Box lo Sb Rb wb S R w0 ((W.setCell ⟨E, 0, none⟩ t0).setCell ⟨E, 1, none⟩ t1) g X Y v0 v1 E F G t0 t1 u0 u1 a b c := by
  refine ⟨(h.toTwo.set (j := 0) h.ins.1 h.nr.1 h.ge.1 t0).set (j := 1) h.ins.1 h.nr.1 h.ge.1 t1, ?_, blk_far (p := ⟨E, 1, none⟩) (blk_far (p := ⟨E, 0, none⟩) h.q (fun q => h.ne.1 q.symm) t0) (fun q => h.ne.1 q.symm) t1, blk_far (p := ⟨E, 1, none⟩) (blk_far (p := ⟨E, 0, none⟩) h.r (fun q => h.ne.2.1 q.symm) t0) (fun q => h.ne.2.1 q.symm) t1, h.ne, h.ins, h.nr, h.ge, h.kin.set h.hi.1 t0 t1, h.hi⟩
  have := blk_set (blk_set h.p 0 t0) 1 t1
  simpa using this
theorem Box.answer (h : Box lo Sb Rb wb S R w0 W g X Y v0 v1 E F G p0 p1 u0 u1 a b c) (t0 t1 : Value) : Box lo Sb Rb wb S R w0 ((W.setCell ⟨G, 0, none⟩ t0).setCell ⟨G, 1, none⟩ t1) g X Y v0 v1 E F G p0 p1 t0 t1 a b c := by
  refine ⟨(h.toTwo.set (j := 0) h.ins.2.2 h.nr.2.2 h.ge.2.2 t0).set (j := 1) h.ins.2.2 h.nr.2.2 h.ge.2.2 t1, blk_far (p := ⟨G, 1, none⟩) (blk_far (p := ⟨G, 0, none⟩) h.p h.ne.2.1 t0) h.ne.2.1 t1, blk_far (p := ⟨G, 1, none⟩) (blk_far (p := ⟨G, 0, none⟩) h.q h.ne.2.2 t0) h.ne.2.2 t1, ?_, h.ne, h.ins, h.nr, h.ge, h.kin.set h.hi.2 t0 t1, h.hi⟩
  have := blk_set (blk_set h.r 0 t0) 1 t1
  simpa using this
end
set_option maxHeartbeats 16000000 in
set_option maxRecDepth 100000 in
theorem does_hold (lo g : Nat) (S R : Nat → Prop) (A0 A1 : Option Addr) (c0 c1 : Nat) (X : PX) (hI : Inv X) (i key : Int) (w0 w : World) (h : Two lo S R w0 w g X X (.slice A0 (rows X.pages).length c0) (.slice A1 X.idle.length c1)) :
    Calls Try.prog 19 #[.pointer (some ⟨g, 0, none⟩), .agg #[.slice A0 (rows X.pages).length c0, .slice A1 X.idle.length c1], .agg #[.int .i64 2, .int .i64 i, .int .i64 key]] w (DoesEnd lo S R w0 w g (pHold X i).1) := by
  have HI := Aside0.mk hI
  have BB := Aside0.mk (box_new h 2 i key)
  obtain ⟨n0, hn0⟩ : ∃ n, (rows X.pages).length = n := ⟨_, rfl⟩
  obtain ⟨n1, hn1⟩ : ∃ n, X.idle.length = n := ⟨_, rfl⟩
  have HN0 := Aside0.mk hn0
  have HN1 := Aside0.mk hn1
  rw [hn0, hn1] at BB ⊢
  clear h hI hn0 hn1
  go_enter Try.func19, Try.ntmps19
  go_upto_region 2 with (fail)
  generalize (((w.alloc (.cells #[.slice A0 n0 c0, .slice A1 n1 c1] 43 (0, 0))).alloc (.cells #[.int .i64 2, .int .i64 i, .int .i64 key] 47 (0, 0))).alloc (.cells #[.slice none 0 0, .slice none 0 0] 43 (0, 0))) = w1 at BB ⊢
  generalize (fun k => S k ∨ (w.heap.size ≤ k ∧ k < w.heap.size + 3)) = S1 at BB
  obtain ⟨G, hG⟩ : ∃ G, w.heap.size + 2 = G := ⟨_, rfl⟩
  obtain ⟨F, hF⟩ : ∃ F, w.heap.size + 1 = F := ⟨_, rfl⟩
  obtain ⟨E, hE⟩ : ∃ E, w.heap.size = E := ⟨_, rfl⟩
  rw [hG, hF, hE] at BB ⊢
  clear hG hF hE
  have x0 := blk_cell BB.out.p 0
  have x1 := blk_cell BB.out.p 1
  have y0 := blk_cell BB.out.q 0
  have y1 := blk_cell BB.out.q 1
  have y2 := blk_cell BB.out.q 2
  simp at x0 x1 y0 y1 y2
  obtain ⟨t, ht⟩ : ∃ t, (pHold X i).2 = t := ⟨_, rfl⟩
  have HT := Aside0.mk ht
  clear ht
  go_upto_region 19 with (first
    | (go_at_call 11; go_loud ((refine (hold_calls lo _ g X i _ BB.out.pool BB.out.toTwo.fresh (HI.out.ask_hold _).1 (HI.out.ask_hold _).2).mono ?_); rintro e w3 ⟨rfl, hp⟩; rw [HT.out]; have B3 := Aside0.mk (BB.out.call hp); clear hp x0 x1 y0 y1 y2; have x0 := blk_cell B3.out.p 0; have x1 := blk_cell B3.out.p 1; have y1 := blk_cell B3.out.q 1; have y2 := blk_cell B3.out.q 2; have f0 := blk_frozen B3.out.p 0; have f1 := blk_frozen B3.out.p 1; simp at x0 x1 y1 y2))
    | (go_at_call 27; have RC := Aside0.mk (ref_hold HI.out i (by rw [HN0.out, HN1.out]; exact B3.out.ref)); rw [HN0.out, HN1.out] at RC; go_loud ((refine RC.out.mono ?_); rintro e w4 ⟨v0, v1, rfl, hr, hb⟩; rw [HT.out]; obtain ⟨A5, c5, rfl⟩ := Kd.V_slice hr.1; obtain ⟨A6, c6, rfl⟩ := Kd.V_slice hr.2; have B4 := Aside0.mk (B3.out.other hb hr); clear hb hr x0 x1 y1 y2 f0 f1 RC; have x0 := blk_cell B4.out.p 0; have x1 := blk_cell B4.out.p 1; have y1 := blk_cell B4.out.q 1; have y2 := blk_cell B4.out.q 2; have f0 := blk_frozen B4.out.p 0; have f1 := blk_frozen B4.out.p 1; simp at x0 x1 y1 y2)))
  have B5 := Aside0.mk (B4.out.param (.slice A5 (rows (pHold X i).1.pages).length c5) (.slice A6 (pHold X i).1.idle.length c6))
  clear x0 x1 y1 y2 f0 f1
  generalize (w4.setCell ⟨E, 0, none⟩ (.slice A5 (rows (pHold X i).1.pages).length c5)).setCell ⟨E, 1, none⟩ (.slice A6 (pHold X i).1.idle.length c6) = w5 at B5 ⊢
  obtain ⟨Y, hY⟩ : ∃ Y, (pHold X i).1 = Y := ⟨_, rfl⟩
  have HY := Aside0.mk hY
  rw [hY] at B5 ⊢
  clear hY
  obtain ⟨m0, hm0⟩ : ∃ n, (rows Y.pages).length = n := ⟨_, rfl⟩
  obtain ⟨m1, hm1⟩ : ∃ n, Y.idle.length = n := ⟨_, rfl⟩
  have HM0 := Aside0.mk hm0
  have HM1 := Aside0.mk hm1
  rw [hm0, hm1] at B5 ⊢
  clear hm0 hm1
  have x0 := blk_cell B5.out.p 0
  have x1 := blk_cell B5.out.p 1
  have f0 := blk_frozen B5.out.r 0
  have f1 := blk_frozen B5.out.r 1
  have u0 := blk_cell B5.out.r 0
  have u1 := blk_cell B5.out.r 1
  simp at x0 x1 u0 u1
  go_wp2
  refine bodyPost_ret (results_ct rfl _ _ G 43 #[.slice A5 m0 c5, .slice A6 m1 c6] (0, 0) _ rfl (B5.out.answer (.slice A5 m0 c5) (.slice A6 m1 c6)).r Try.underlying43 rfl (by kernel_rfl)) rfl ?_
  exact ⟨_, _, A5, A6, c5, c6, (by rw [HY.out, HM0.out, HM1.out]; rfl), (by rw [HY.out, HM0.out, HM1.out]; exact (B5.out.answer (.slice A5 m0 c5) (.slice A6 m1 c6)).toTwo), (B5.out.answer (.slice A5 m0 c5) (.slice A6 m1 c6)).kin⟩
set_option maxHeartbeats 16000000 in
set_option maxRecDepth 100000 in
theorem does_seal (lo g : Nat) (S R : Nat → Prop) (A0 A1 : Option Addr) (c0 c1 : Nat) (X : PX) (hI : Inv X) (i key : Int) (w0 w : World) (h : Two lo S R w0 w g X X (.slice A0 (rows X.pages).length c0) (.slice A1 X.idle.length c1)) :
    Calls Try.prog 19 #[.pointer (some ⟨g, 0, none⟩), .agg #[.slice A0 (rows X.pages).length c0, .slice A1 X.idle.length c1], .agg #[.int .i64 3, .int .i64 i, .int .i64 key]] w (DoesEnd lo S R w0 w g (pSeal X i key).1) := by
  have HI := Aside0.mk hI
  have BB := Aside0.mk (box_new h 3 i key)
  obtain ⟨n0, hn0⟩ : ∃ n, (rows X.pages).length = n := ⟨_, rfl⟩
  obtain ⟨n1, hn1⟩ : ∃ n, X.idle.length = n := ⟨_, rfl⟩
  have HN0 := Aside0.mk hn0
  have HN1 := Aside0.mk hn1
  rw [hn0, hn1] at BB ⊢
  clear h hI hn0 hn1
  go_enter Try.func19, Try.ntmps19
  go_upto_region 2 with (fail)
  generalize (((w.alloc (.cells #[.slice A0 n0 c0, .slice A1 n1 c1] 43 (0, 0))).alloc (.cells #[.int .i64 3, .int .i64 i, .int .i64 key] 47 (0, 0))).alloc (.cells #[.slice none 0 0, .slice none 0 0] 43 (0, 0))) = w1 at BB ⊢
  generalize (fun k => S k ∨ (w.heap.size ≤ k ∧ k < w.heap.size + 3)) = S1 at BB
  obtain ⟨G, hG⟩ : ∃ G, w.heap.size + 2 = G := ⟨_, rfl⟩
  obtain ⟨F, hF⟩ : ∃ F, w.heap.size + 1 = F := ⟨_, rfl⟩
  obtain ⟨E, hE⟩ : ∃ E, w.heap.size = E := ⟨_, rfl⟩
  rw [hG, hF, hE] at BB ⊢
  clear hG hF hE
  have x0 := blk_cell BB.out.p 0
  have x1 := blk_cell BB.out.p 1
  have y0 := blk_cell BB.out.q 0
  have y1 := blk_cell BB.out.q 1
  have y2 := blk_cell BB.out.q 2
  simp at x0 x1 y0 y1 y2
  obtain ⟨t, ht⟩ : ∃ t, (pSeal X i key).2 = t := ⟨_, rfl⟩
  have HT := Aside0.mk ht
  clear ht
  go_upto_region 19 with (first
    | (go_at_call 15; go_loud ((refine (seal_calls lo _ g X i key _ BB.out.pool).mono ?_); rintro e w3 ⟨rfl, hp⟩; rw [HT.out]; have B3 := Aside0.mk (BB.out.call hp); clear hp x0 x1 y0 y1 y2; have x0 := blk_cell B3.out.p 0; have x1 := blk_cell B3.out.p 1; have y1 := blk_cell B3.out.q 1; have y2 := blk_cell B3.out.q 2; have f0 := blk_frozen B3.out.p 0; have f1 := blk_frozen B3.out.p 1; simp at x0 x1 y1 y2))
    | (go_at_call 28; have RC := Aside0.mk (ref_seal HI.out i key (by rw [HN0.out, HN1.out]; exact B3.out.ref)); rw [HN0.out, HN1.out] at RC; go_loud ((refine RC.out.mono ?_); rintro e w4 ⟨v0, v1, rfl, hr, hb⟩; rw [HT.out]; obtain ⟨A5, c5, rfl⟩ := Kd.V_slice hr.1; obtain ⟨A6, c6, rfl⟩ := Kd.V_slice hr.2; have B4 := Aside0.mk (B3.out.other hb hr); clear hb hr x0 x1 y1 y2 f0 f1 RC; have x0 := blk_cell B4.out.p 0; have x1 := blk_cell B4.out.p 1; have y1 := blk_cell B4.out.q 1; have y2 := blk_cell B4.out.q 2; have f0 := blk_frozen B4.out.p 0; have f1 := blk_frozen B4.out.p 1; simp at x0 x1 y1 y2)))
  have B5 := Aside0.mk (B4.out.param (.slice A5 (rows (pSeal X i key).1.pages).length c5) (.slice A6 (pSeal X i key).1.idle.length c6))
  clear x0 x1 y1 y2 f0 f1
  generalize (w4.setCell ⟨E, 0, none⟩ (.slice A5 (rows (pSeal X i key).1.pages).length c5)).setCell ⟨E, 1, none⟩ (.slice A6 (pSeal X i key).1.idle.length c6) = w5 at B5 ⊢
  obtain ⟨Y, hY⟩ : ∃ Y, (pSeal X i key).1 = Y := ⟨_, rfl⟩
  have HY := Aside0.mk hY
  rw [hY] at B5 ⊢
  clear hY
  obtain ⟨m0, hm0⟩ : ∃ n, (rows Y.pages).length = n := ⟨_, rfl⟩
  obtain ⟨m1, hm1⟩ : ∃ n, Y.idle.length = n := ⟨_, rfl⟩
  have HM0 := Aside0.mk hm0
  have HM1 := Aside0.mk hm1
  rw [hm0, hm1] at B5 ⊢
  clear hm0 hm1
  have x0 := blk_cell B5.out.p 0
  have x1 := blk_cell B5.out.p 1
  have f0 := blk_frozen B5.out.r 0
  have f1 := blk_frozen B5.out.r 1
  have u0 := blk_cell B5.out.r 0
  have u1 := blk_cell B5.out.r 1
  simp at x0 x1 u0 u1
  go_wp2
  refine bodyPost_ret (results_ct rfl _ _ G 43 #[.slice A5 m0 c5, .slice A6 m1 c6] (0, 0) _ rfl (B5.out.answer (.slice A5 m0 c5) (.slice A6 m1 c6)).r Try.underlying43 rfl (by kernel_rfl)) rfl ?_
  exact ⟨_, _, A5, A6, c5, c6, (by rw [HY.out, HM0.out, HM1.out]; rfl), (by rw [HY.out, HM0.out, HM1.out]; exact (B5.out.answer (.slice A5 m0 c5) (.slice A6 m1 c6)).toTwo), (B5.out.answer (.slice A5 m0 c5) (.slice A6 m1 c6)).kin⟩
set_option maxHeartbeats 16000000 in
set_option maxRecDepth 100000 in
theorem does_drop (lo g : Nat) (S R : Nat → Prop) (A0 A1 : Option Addr) (c0 c1 : Nat) (X : PX) (hI : Inv X) (i key : Int) (w0 w : World) (h : Two lo S R w0 w g X X (.slice A0 (rows X.pages).length c0) (.slice A1 X.idle.length c1)) :
    Calls Try.prog 19 #[.pointer (some ⟨g, 0, none⟩), .agg #[.slice A0 (rows X.pages).length c0, .slice A1 X.idle.length c1], .agg #[.int .i64 4, .int .i64 i, .int .i64 key]] w (DoesEnd lo S R w0 w g (pDrop X i).1) := by
  have HI := Aside0.mk hI
  have BB := Aside0.mk (box_new h 4 i key)
  obtain ⟨n0, hn0⟩ : ∃ n, (rows X.pages).length = n := ⟨_, rfl⟩
  obtain ⟨n1, hn1⟩ : ∃ n, X.idle.length = n := ⟨_, rfl⟩
  have HN0 := Aside0.mk hn0
  have HN1 := Aside0.mk hn1
  rw [hn0, hn1] at BB ⊢
  clear h hI hn0 hn1
  go_enter Try.func19, Try.ntmps19
  go_upto_region 2 with (fail)
  generalize (((w.alloc (.cells #[.slice A0 n0 c0, .slice A1 n1 c1] 43 (0, 0))).alloc (.cells #[.int .i64 4, .int .i64 i, .int .i64 key] 47 (0, 0))).alloc (.cells #[.slice none 0 0, .slice none 0 0] 43 (0, 0))) = w1 at BB ⊢
  generalize (fun k => S k ∨ (w.heap.size ≤ k ∧ k < w.heap.size + 3)) = S1 at BB
  obtain ⟨G, hG⟩ : ∃ G, w.heap.size + 2 = G := ⟨_, rfl⟩
  obtain ⟨F, hF⟩ : ∃ F, w.heap.size + 1 = F := ⟨_, rfl⟩
  obtain ⟨E, hE⟩ : ∃ E, w.heap.size = E := ⟨_, rfl⟩
  rw [hG, hF, hE] at BB ⊢
  clear hG hF hE
  have x0 := blk_cell BB.out.p 0
  have x1 := blk_cell BB.out.p 1
  have y0 := blk_cell BB.out.q 0
  have y1 := blk_cell BB.out.q 1
  have y2 := blk_cell BB.out.q 2
  simp at x0 x1 y0 y1 y2
  obtain ⟨t, ht⟩ : ∃ t, (pDrop X i).2 = t := ⟨_, rfl⟩
  have HT := Aside0.mk ht
  clear ht
  go_upto_region 19 with (first
    | (go_at_call 13; go_loud ((refine (drop_calls lo _ g X i _ BB.out.pool BB.out.toTwo.fresh (HI.out.ask_drop _).1 (HI.out.ask_drop _).2).mono ?_); rintro e w3 ⟨rfl, hp⟩; rw [HT.out]; have B3 := Aside0.mk (BB.out.call hp); clear hp x0 x1 y0 y1 y2; have x0 := blk_cell B3.out.p 0; have x1 := blk_cell B3.out.p 1; have y1 := blk_cell B3.out.q 1; have y2 := blk_cell B3.out.q 2; have f0 := blk_frozen B3.out.p 0; have f1 := blk_frozen B3.out.p 1; simp at x0 x1 y1 y2))
    | (go_at_call 29; have RC := Aside0.mk (ref_drop _ _ _ _ _ _ HI.out i w3 (by rw [HN0.out, HN1.out]; exact B3.out.ref)); rw [HN0.out, HN1.out] at RC; go_loud ((refine RC.out.mono ?_); rintro e w4 ⟨v0, v1, rfl, hr, hb⟩; rw [HT.out]; obtain ⟨A5, c5, rfl⟩ := Kd.V_slice hr.1; obtain ⟨A6, c6, rfl⟩ := Kd.V_slice hr.2; have B4 := Aside0.mk (B3.out.other hb hr); clear hb hr x0 x1 y1 y2 f0 f1 RC; have x0 := blk_cell B4.out.p 0; have x1 := blk_cell B4.out.p 1; have y1 := blk_cell B4.out.q 1; have y2 := blk_cell B4.out.q 2; have f0 := blk_frozen B4.out.p 0; have f1 := blk_frozen B4.out.p 1; simp at x0 x1 y1 y2)))
  have B5 := Aside0.mk (B4.out.param (.slice A5 (rows (pDrop X i).1.pages).length c5) (.slice A6 (pDrop X i).1.idle.length c6))
  clear x0 x1 y1 y2 f0 f1
  generalize (w4.setCell ⟨E, 0, none⟩ (.slice A5 (rows (pDrop X i).1.pages).length c5)).setCell ⟨E, 1, none⟩ (.slice A6 (pDrop X i).1.idle.length c6) = w5 at B5 ⊢
  obtain ⟨Y, hY⟩ : ∃ Y, (pDrop X i).1 = Y := ⟨_, rfl⟩
  have HY := Aside0.mk hY
  rw [hY] at B5 ⊢
  clear hY
  obtain ⟨m0, hm0⟩ : ∃ n, (rows Y.pages).length = n := ⟨_, rfl⟩
  obtain ⟨m1, hm1⟩ : ∃ n, Y.idle.length = n := ⟨_, rfl⟩
  have HM0 := Aside0.mk hm0
  have HM1 := Aside0.mk hm1
  rw [hm0, hm1] at B5 ⊢
  clear hm0 hm1
  have x0 := blk_cell B5.out.p 0
  have x1 := blk_cell B5.out.p 1
  have f0 := blk_frozen B5.out.r 0
  have f1 := blk_frozen B5.out.r 1
  have u0 := blk_cell B5.out.r 0
  have u1 := blk_cell B5.out.r 1
  simp at x0 x1 u0 u1
  go_wp2
  refine bodyPost_ret (results_ct rfl _ _ G 43 #[.slice A5 m0 c5, .slice A6 m1 c6] (0, 0) _ rfl (B5.out.answer (.slice A5 m0 c5) (.slice A6 m1 c6)).r Try.underlying43 rfl (by kernel_rfl)) rfl ?_
  exact ⟨_, _, A5, A6, c5, c6, (by rw [HY.out, HM0.out, HM1.out]; rfl), (by rw [HY.out, HM0.out, HM1.out]; exact (B5.out.answer (.slice A5 m0 c5) (.slice A6 m1 c6)).toTwo), (B5.out.answer (.slice A5 m0 c5) (.slice A6 m1 c6)).kin⟩
set_option maxHeartbeats 16000000 in
set_option maxRecDepth 100000 in
theorem does_forget (lo g : Nat) (S R : Nat → Prop) (A0 A1 : Option Addr) (c0 c1 : Nat) (X : PX) (hI : Inv X) (i key : Int) (w0 w : World) (h : Two lo S R w0 w g X X (.slice A0 (rows X.pages).length c0) (.slice A1 X.idle.length c1)) :
    Calls Try.prog 19 #[.pointer (some ⟨g, 0, none⟩), .agg #[.slice A0 (rows X.pages).length c0, .slice A1 X.idle.length c1], .agg #[.int .i64 5, .int .i64 i, .int .i64 key]] w (DoesEnd lo S R w0 w g (pForget X i).1) := by
  have HI := Aside0.mk hI
  have BB := Aside0.mk (box_new h 5 i key)
  obtain ⟨n0, hn0⟩ : ∃ n, (rows X.pages).length = n := ⟨_, rfl⟩
  obtain ⟨n1, hn1⟩ : ∃ n, X.idle.length = n := ⟨_, rfl⟩
  have HN0 := Aside0.mk hn0
  have HN1 := Aside0.mk hn1
  rw [hn0, hn1] at BB ⊢
  clear h hI hn0 hn1
  go_enter Try.func19, Try.ntmps19
  go_upto_region 2 with (fail)
  generalize (((w.alloc (.cells #[.slice A0 n0 c0, .slice A1 n1 c1] 43 (0, 0))).alloc (.cells #[.int .i64 5, .int .i64 i, .int .i64 key] 47 (0, 0))).alloc (.cells #[.slice none 0 0, .slice none 0 0] 43 (0, 0))) = w1 at BB ⊢
  generalize (fun k => S k ∨ (w.heap.size ≤ k ∧ k < w.heap.size + 3)) = S1 at BB
  obtain ⟨G, hG⟩ : ∃ G, w.heap.size + 2 = G := ⟨_, rfl⟩
  obtain ⟨F, hF⟩ : ∃ F, w.heap.size + 1 = F := ⟨_, rfl⟩
  obtain ⟨E, hE⟩ : ∃ E, w.heap.size = E := ⟨_, rfl⟩
  rw [hG, hF, hE] at BB ⊢
  clear hG hF hE
  have x0 := blk_cell BB.out.p 0
  have x1 := blk_cell BB.out.p 1
  have y0 := blk_cell BB.out.q 0
  have y1 := blk_cell BB.out.q 1
  have y2 := blk_cell BB.out.q 2
  simp at x0 x1 y0 y1 y2
  obtain ⟨t, ht⟩ : ∃ t, (pForget X i).2 = t := ⟨_, rfl⟩
  have HT := Aside0.mk ht
  clear ht
  go_upto_region 19 with (first
    | (go_at_call 16; go_loud ((refine (forget_calls lo _ g X i _ BB.out.pool BB.out.toTwo.fresh (HI.out.ask_forget _)).mono ?_); rintro e w3 ⟨rfl, hp⟩; rw [HT.out]; have B3 := Aside0.mk (BB.out.call hp); clear hp x0 x1 y0 y1 y2; have x0 := blk_cell B3.out.p 0; have x1 := blk_cell B3.out.p 1; have y1 := blk_cell B3.out.q 1; have y2 := blk_cell B3.out.q 2; have f0 := blk_frozen B3.out.p 0; have f1 := blk_frozen B3.out.p 1; simp at x0 x1 y1 y2))
    | (go_at_call 30; have RC := Aside0.mk (ref_forget HI.out i (by rw [HN0.out, HN1.out]; exact B3.out.ref)); rw [HN0.out, HN1.out] at RC; go_loud ((refine RC.out.mono ?_); rintro e w4 ⟨v0, v1, rfl, hr, hb⟩; rw [HT.out]; obtain ⟨A5, c5, rfl⟩ := Kd.V_slice hr.1; obtain ⟨A6, c6, rfl⟩ := Kd.V_slice hr.2; have B4 := Aside0.mk (B3.out.other hb hr); clear hb hr x0 x1 y1 y2 f0 f1 RC; have x0 := blk_cell B4.out.p 0; have x1 := blk_cell B4.out.p 1; have y1 := blk_cell B4.out.q 1; have y2 := blk_cell B4.out.q 2; have f0 := blk_frozen B4.out.p 0; have f1 := blk_frozen B4.out.p 1; simp at x0 x1 y1 y2)))
  have B5 := Aside0.mk (B4.out.param (.slice A5 (rows (pForget X i).1.pages).length c5) (.slice A6 (pForget X i).1.idle.length c6))
  clear x0 x1 y1 y2 f0 f1
  generalize (w4.setCell ⟨E, 0, none⟩ (.slice A5 (rows (pForget X i).1.pages).length c5)).setCell ⟨E, 1, none⟩ (.slice A6 (pForget X i).1.idle.length c6) = w5 at B5 ⊢
  obtain ⟨Y, hY⟩ : ∃ Y, (pForget X i).1 = Y := ⟨_, rfl⟩
  have HY := Aside0.mk hY
  rw [hY] at B5 ⊢
  clear hY
  obtain ⟨m0, hm0⟩ : ∃ n, (rows Y.pages).length = n := ⟨_, rfl⟩
  obtain ⟨m1, hm1⟩ : ∃ n, Y.idle.length = n := ⟨_, rfl⟩
  have HM0 := Aside0.mk hm0
  have HM1 := Aside0.mk hm1
  rw [hm0, hm1] at B5 ⊢
  clear hm0 hm1
  have x0 := blk_cell B5.out.p 0
  have x1 := blk_cell B5.out.p 1
  have f0 := blk_frozen B5.out.r 0
  have f1 := blk_frozen B5.out.r 1
  have u0 := blk_cell B5.out.r 0
  have u1 := blk_cell B5.out.r 1
  simp at x0 x1 u0 u1
  go_wp2
  refine bodyPost_ret (results_ct rfl _ _ G 43 #[.slice A5 m0 c5, .slice A6 m1 c6] (0, 0) _ rfl (B5.out.answer (.slice A5 m0 c5) (.slice A6 m1 c6)).r Try.underlying43 rfl (by kernel_rfl)) rfl ?_
  exact ⟨_, _, A5, A6, c5, c6, (by rw [HY.out, HM0.out, HM1.out]; rfl), (by rw [HY.out, HM0.out, HM1.out]; exact (B5.out.answer (.slice A5 m0 c5) (.slice A6 m1 c6)).toTwo), (B5.out.answer (.slice A5 m0 c5) (.slice A6 m1 c6)).kin⟩
set_option maxHeartbeats 16000000 in
set_option maxRecDepth 100000 in
theorem does_take (lo g : Nat) (S R : Nat → Prop) (A0 A1 : Option Addr) (c0 c1 : Nat) (X : PX) (hI : Inv X) (i key : Int) (w0 w : World) (h : Two lo S R w0 w g X X (.slice A0 (rows X.pages).length c0) (.slice A1 X.idle.length c1)) :
    Calls Try.prog 19 #[.pointer (some ⟨g, 0, none⟩), .agg #[.slice A0 (rows X.pages).length c0, .slice A1 X.idle.length c1], .agg #[.int .i64 1, .int .i64 i, .int .i64 key]] w (DoesEnd lo S R w0 w g (pTake X).1) := by
  have HI := Aside0.mk hI
  have BB := Aside0.mk (box_new h 1 i key)
  obtain ⟨n0, hn0⟩ : ∃ n, (rows X.pages).length = n := ⟨_, rfl⟩
  obtain ⟨n1, hn1⟩ : ∃ n, X.idle.length = n := ⟨_, rfl⟩
  have HN0 := Aside0.mk hn0
  have HN1 := Aside0.mk hn1
  rw [hn0, hn1] at BB ⊢
  clear h hI hn0 hn1
  go_enter Try.func19, Try.ntmps19
  go_upto_region 2 with (fail)
  generalize (((w.alloc (.cells #[.slice A0 n0 c0, .slice A1 n1 c1] 43 (0, 0))).alloc (.cells #[.int .i64 1, .int .i64 i, .int .i64 key] 47 (0, 0))).alloc (.cells #[.slice none 0 0, .slice none 0 0] 43 (0, 0))) = w1 at BB ⊢
  generalize (fun k => S k ∨ (w.heap.size ≤ k ∧ k < w.heap.size + 3)) = S1 at BB
  obtain ⟨G, hG⟩ : ∃ G, w.heap.size + 2 = G := ⟨_, rfl⟩
  obtain ⟨F, hF⟩ : ∃ F, w.heap.size + 1 = F := ⟨_, rfl⟩
  obtain ⟨E, hE⟩ : ∃ E, w.heap.size = E := ⟨_, rfl⟩
  rw [hG, hF, hE] at BB ⊢
  clear hG hF hE
  have x0 := blk_cell BB.out.p 0
  have x1 := blk_cell BB.out.p 1
  have y0 := blk_cell BB.out.q 0
  have y1 := blk_cell BB.out.q 1
  have y2 := blk_cell BB.out.q 2
  simp at x0 x1 y0 y1 y2
  obtain ⟨t1, ht1⟩ : ∃ t, (pTake X).2.1 = t := ⟨_, rfl⟩
  obtain ⟨t2, ht2⟩ : ∃ t, (pTake X).2.2.1 = t := ⟨_, rfl⟩
  obtain ⟨t3, ht3⟩ : ∃ t, (pTake X).2.2.2.1 = t := ⟨_, rfl⟩
  obtain ⟨t4, ht4⟩ : ∃ t, (pTake X).2.2.2.2 = t := ⟨_, rfl⟩
  have HT := Aside0.mk (And.intro ht1 (And.intro ht2 (And.intro ht3 ht4)))
  clear ht1 ht2 ht3 ht4
  go_upto_region 5 with (fail)
  refine (take_calls lo _ g X _ BB.out.pool HI.out.ask_take).mono ?_
  rintro e w3 ⟨rfl, hp⟩
  rw [HT.out.1, HT.out.2.1, HT.out.2.2.1, HT.out.2.2.2]
  have B3 := Aside0.mk (BB.out.call hp)
  clear hp x0 x1 y0 y1 y2
  have x0 := blk_cell B3.out.p 0; have x1 := blk_cell B3.out.p 1
  simp at x0 x1
  go_wp2_with fail
  have RC := Aside0.mk (ref_take (A0 := A0) (A1 := A1) (c0 := c0) (c1 := c1) (X := X) HI.out (by rw [HN0.out, HN1.out]; exact B3.out.ref))
  rw [HN0.out, HN1.out] at RC
  refine RC.out.mono ?_
  rintro e w4 ⟨v0, v1, rfl, hr, hb⟩
  rw [HT.out.1, HT.out.2.1, HT.out.2.2.1, HT.out.2.2.2]
  obtain ⟨A5, c5, rfl⟩ := Kd.V_slice hr.1
  obtain ⟨A6, c6, rfl⟩ := Kd.V_slice hr.2
  have B4 := Aside0.mk (B3.out.other hb hr)
  clear hb hr x0 x1 RC
  obtain ⟨Y, hY⟩ : ∃ Y, (pTake X).1 = Y := ⟨_, rfl⟩
  have HY := Aside0.mk hY
  rw [hY] at B4 ⊢
  clear hY
  obtain ⟨m0, hm0⟩ : ∃ n, (rows Y.pages).length = n := ⟨_, rfl⟩
  obtain ⟨m1, hm1⟩ : ∃ n, Y.idle.length = n := ⟨_, rfl⟩
  have HM0 := Aside0.mk hm0
  have HM1 := Aside0.mk hm1
  rw [hm0, hm1] at B4 ⊢
  clear hm0 hm1
  go_upto_region 6 with (fail)
  have hb5 := below_alloc (Below.refl w4.heap.size w4) (.cells #[.slice A5 m0 c5, .slice A6 m1 c6] 43 (0, 0))
  have B5 := Aside0.mk (B4.out.more hb5)
  have z := blk_new w4 (.cells #[.slice A5 m0 c5, .slice A6 m1 c6] 43 (0, 0))
  generalize w4.alloc (.cells #[.slice A5 m0 c5, .slice A6 m1 c6] 43 (0, 0)) = w5 at B5 z ⊢
  have z0 := blk_cell z 0
  have z1 := blk_cell z 1
  simp at z0 z1
  have f0 := blk_frozen B5.out.r 0
  have f1 := blk_frozen B5.out.r 1
  have u0 := blk_cell B5.out.r 0
  have u1 := blk_cell B5.out.r 1
  simp at u0 u1
  clear z hb5
  go_wp2
  refine bodyPost_ret (results_ct rfl _ _ G 43 #[.slice A5 m0 c5, .slice A6 m1 c6] (0, 0) _ rfl (B5.out.answer (.slice A5 m0 c5) (.slice A6 m1 c6)).r Try.underlying43 rfl (by kernel_rfl)) rfl ?_
  exact ⟨_, _, A5, A6, c5, c6, (by rw [HY.out, HM0.out, HM1.out]; rfl), (by rw [HY.out, HM0.out, HM1.out]; exact (B5.out.answer (.slice A5 m0 c5) (.slice A6 m1 c6)).toTwo), (B5.out.answer (.slice A5 m0 c5) (.slice A6 m1 c6)).kin⟩
set_option maxHeartbeats 16000000 in
set_option maxRecDepth 100000 in
theorem does_none (lo g : Nat) (S R : Nat → Prop) (A0 A1 : Option Addr) (c0 c1 : Nat) (X : PX) (hI : Inv X) (k i key : Int) (w0 w : World) (h : Two lo S R w0 w g X X (.slice A0 (rows X.pages).length c0) (.slice A1 X.idle.length c1)) (h1 : ¬ k = 1) (h2 : ¬ k = 2) (h3 : ¬ k = 3) (h4 : ¬ k = 4) (h5 : ¬ k = 5) :
    Calls Try.prog 19 #[.pointer (some ⟨g, 0, none⟩), .agg #[.slice A0 (rows X.pages).length c0, .slice A1 X.idle.length c1], .agg #[.int .i64 k, .int .i64 i, .int .i64 key]] w (DoesEnd lo S R w0 w g X) := by
  have HI := Aside0.mk hI
  have BB := Aside0.mk (box_new h k i key)
  obtain ⟨n0, hn0⟩ : ∃ n, (rows X.pages).length = n := ⟨_, rfl⟩
  obtain ⟨n1, hn1⟩ : ∃ n, X.idle.length = n := ⟨_, rfl⟩
  have HN0 := Aside0.mk hn0
  have HN1 := Aside0.mk hn1
  rw [hn0, hn1] at BB ⊢
  clear h hI hn0 hn1
  go_enter Try.func19, Try.ntmps19
  go_upto_region 2 with (fail)
  generalize (((w.alloc (.cells #[.slice A0 n0 c0, .slice A1 n1 c1] 43 (0, 0))).alloc (.cells #[.int .i64 k, .int .i64 i, .int .i64 key] 47 (0, 0))).alloc (.cells #[.slice none 0 0, .slice none 0 0] 43 (0, 0))) = w1 at BB ⊢
  generalize (fun k => S k ∨ (w.heap.size ≤ k ∧ k < w.heap.size + 3)) = S1 at BB
  obtain ⟨G, hG⟩ : ∃ G, w.heap.size + 2 = G := ⟨_, rfl⟩
  obtain ⟨F, hF⟩ : ∃ F, w.heap.size + 1 = F := ⟨_, rfl⟩
  obtain ⟨E, hE⟩ : ∃ E, w.heap.size = E := ⟨_, rfl⟩
  rw [hG, hF, hE] at BB ⊢
  clear hG hF hE
  have x0 := blk_cell BB.out.p 0
  have x1 := blk_cell BB.out.p 1
  have y0 := blk_cell BB.out.q 0
  have y1 := blk_cell BB.out.q 1
  have y2 := blk_cell BB.out.q 2
  simp at x0 x1 y0 y1 y2
  have e1 : (k == 1) = false := by simpa using h1
  have e2 : (k == 2) = false := by simpa using h2
  have e3 : (k == 3) = false := by simpa using h3
  have e4 : (k == 4) = false := by simpa using h4
  have e5 : (k == 5) = false := by simpa using h5
  have f0 := blk_frozen BB.out.r 0
  have f1 := blk_frozen BB.out.r 1
  have u0 := blk_cell BB.out.r 0
  have u1 := blk_cell BB.out.r 1
  simp at u0 u1
  go_wp2
  refine bodyPost_ret (results_ct rfl _ _ G 43 #[.slice A0 n0 c0, .slice A1 n1 c1] (0, 0) _ rfl (BB.out.answer (.slice A0 n0 c0) (.slice A1 n1 c1)).r Try.underlying43 rfl (by kernel_rfl)) rfl ?_
  exact ⟨_, _, A0, A1, c0, c1, (by rw [HN0.out, HN1.out]; rfl), (by rw [HN0.out, HN1.out]; exact (BB.out.answer (.slice A0 n0 c0) (.slice A1 n1 c1)).toTwo), (BB.out.answer (.slice A0 n0 c0) (.slice A1 n1 c1)).kin⟩
/-- does, whatever the call. -/
theorem does_any (lo g : Nat) (S R : Nat → Prop) (A0 A1 : Option Addr) (c0 c1 : Nat) (X : PX) (hI : Inv X) (k i key : Int) (w0 w : World) (h : Two lo S R w0 w g X X (.slice A0 (rows X.pages).length c0) (.slice A1 X.idle.length c1)) :
    Calls Try.prog 19 #[.pointer (some ⟨g, 0, none⟩), .agg #[.slice A0 (rows X.pages).length c0, .slice A1 X.idle.length c1], .agg #[.int .i64 k, .int .i64 i, .int .i64 key]] w (DoesEnd lo S R w0 w g (pDo X k i key)) := by
  unfold pDo
  by_cases h1 : k = 1
  · subst h1; rw [if_pos rfl]; exact does_take lo g S R A0 A1 c0 c1 X hI i key w0 w h
  rw [if_neg h1]
  by_cases h2 : k = 2
  · subst h2; rw [if_pos rfl]; exact does_hold lo g S R A0 A1 c0 c1 X hI i key w0 w h
  rw [if_neg h2]
  by_cases h3 : k = 3
  · subst h3; rw [if_pos rfl]; exact does_seal lo g S R A0 A1 c0 c1 X hI i key w0 w h
  rw [if_neg h3]
  by_cases h4 : k = 4
  · subst h4; rw [if_pos rfl]; exact does_drop lo g S R A0 A1 c0 c1 X hI i key w0 w h
  rw [if_neg h4]
  by_cases h5 : k = 5
  · subst h5; rw [if_pos rfl]; exact does_forget lo g S R A0 A1 c0 c1 X hI i key w0 w h
  rw [if_neg h5]
  exact does_none lo g S R A0 A1 c0 c1 X hI k i key w0 w h h1 h2 h3 h4 h5
theorem inv_do {X : PX} (h : Inv X) (k i key : Int) : Inv (pDo X k i key) := by
  unfold pDo
  (repeat' split)
  · exact inv_take h
  · exact inv_hold h i
  · exact inv_seal h i key
  · exact inv_drop h i
  · exact inv_forget h i
  · exact h
end Go.Proofs.Ytmbbaalpeomnlaa.OTwo
