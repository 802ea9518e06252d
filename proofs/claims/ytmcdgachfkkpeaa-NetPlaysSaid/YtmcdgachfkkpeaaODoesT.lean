/- tillerlaw16.does at kind 2, walked by hand. -/
import Derived.Test.YtmcdgachfkkpeaaODoes3
set_option linter.unusedVariables false
set_option linter.unusedSimpArgs false
namespace Go.Proofs.Ytmcdgachfkkpeaa.ONet
open Go.RowKit Go.Proofs.YtmcdgachfkkpeaaW.PrintWords Go.Proofs.YtmcdgachfkkpeaaW.PrintLast Go.Proofs.YtmcdgachfkkpeaaW.PrintMore Go.Proofs.Ytmcdgachfkkpeaa.GQ
set_option maxHeartbeats 8000000 in
set_option maxRecDepth 100000 in
theorem does_take (base : Nat) (S T : Nat → Prop) (g : Nat) (X : NX) (A : Option Addr) (c : Nat) (I At : Int) (F : ByteArray) (B : Int) (w : World) (hN : NetAt base (ap base T) w g X) (hR : Ref S w A c X.way) (hST : ∀ k, S k → T k) (hT : ∀ k, T k → k < w.heap.size) (hb : base ≤ w.heap.size) :
    Calls Try.prog 17 #[.pointer (some ⟨g, 0, none⟩), .agg #[.slice A X.way.length c, .int .i64 X.lost], .agg #[.int .i64 2, .int .i64 I, .int .i64 At, .string F, .int .u32 B]] w fun e w' => DPost base S T w g (nTake X I).1 e w' := by
  have HN := Aside0.mk hN
  have HR := Aside0.mk hR
  have HST := Aside0.mk hST
  have HTT := Aside0.mk hT
  clear hST hT
  have HB := Aside0.mk hb
  have HL := Aside0.mk (show X.way.length ≤ 256 by obtain ⟨_, _, _, _, _, _, h5⟩ := hN; exact h5)
  have BW := Aside0.mk (W3_below w A X.way.length c X.lost 2 I At F B)
  have SW := Aside0.mk (W3_size w A X.way.length c X.lost 2 I At F B)
  have KW := Aside0.mk (W3_boxes w A X.way.length c X.lost 2 I At F B)
  have N3 := Aside0.mk (hN.beside_new BW.out)
  have L3 := Aside0.mk (show base ≤ (W3 w A X.way.length c X.lost 2 I At F B).heap.size by rw [SW.out]; omega)
  obtain ⟨Y, p, er, hY⟩ : ∃ Y p er, nTake X I = (Y, p, er) := ⟨_, _, _, rfl⟩
  have EY := Aside0.mk hY
  rw [hY]
  clear hN hR hb hY
  go_enter Try.func17, Try.ntmps17
  go_wp2_with (first
    | (go_at_call 13; go_loud (refine (take_calls base _ g X I _ N3.out (grew_fresh HTT.out BW.out L3.out)).mono ?_); rw [EY.out]; simp only [aggP]; rintro e w1 ⟨rfl, hb, hk, hN1⟩; have B1 := Aside0.mk (hb.alloc (Nat.le_trans L3.out hb.size) (.cells (cellsP p) 35 (0, 0))); have N1 := Aside0.mk (hN1.step (below_alloc (Below.refl _ _) (.cells (cellsP p) 35 (0, 0)))); have R1 := Aside0.mk (((HR.out.below BW.out).kept2 (fun k hk => .inl (HST.out k hk)) hk).below (below_alloc (Below.refl _ _) (.cells (cellsP p) 35 (0, 0)))); have K1 := Aside0.mk (kept_first BW.out hk); have Z1 := Aside0.mk (show w.heap.size + 3 ≤ w1.heap.size by have := hk.1; rw [SW.out] at this; exact this); have J4 := Aside0.mk (blk_alloc (blk_kept KW.out.1 hk (fun hh => hh.2 (.inr ⟨Nat.le_refl _, by rw [SW.out]; omega⟩))) (.cells (cellsP p) 35 (0, 0))); have J5 := Aside0.mk (blk_alloc (blk_kept KW.out.2.1 hk (fun hh => hh.2 (.inr ⟨by omega, by rw [SW.out]; omega⟩))) (.cells (cellsP p) 35 (0, 0))); have J6 := Aside0.mk (blk_alloc (blk_kept KW.out.2.2 hk (fun hh => hh.2 (.inr ⟨by omega, by rw [SW.out]; omega⟩))) (.cells (cellsP p) 35 (0, 0))); have JP := Aside0.mk (blk_new w1 (.cells (cellsP p) 35 (0, 0))); have z0 := blk_cell J4.out 0; have z1 := blk_cell J4.out 1; have z2 := blk_cell J5.out 1; simp [boxA, cellsP] at z0 z1 z2; clear hb hk hN1)
    | (go_at_call 24; go_loud (refine (rtake_any _ A c X I _ R1.out HL.out).mono ?_); rw [EY.out]; rintro e w2 ⟨A2, c2, rfl, hR2, hb2⟩; have K2 := Aside0.mk ((K1.out.alloc (.cells (cellsP p) 35 (0, 0))).below hb2); have W12 := Aside0.mk hb2.size; have B2 := Aside0.mk (below_then B1.out (Nat.le_trans L3.out B1.out.size) hb2); have N2 := Aside0.mk (N1.out.beside_new hb2); have R2 := Aside0.mk hR2; have M6 := Aside0.mk (blk_alloc (blk_alloc (blk_below J6.out hb2) (.cells #[.slice A2 Y.way.length c2, .int .i64 Y.lost] 47 (0, 0))) (.cells #[.int .i64 p.f0, .string p.f1, .bool p.f2] 53 (0, 0))); have MP := Aside0.mk (blk_alloc (blk_alloc (blk_below JP.out hb2) (.cells #[.slice A2 Y.way.length c2, .int .i64 Y.lost] 47 (0, 0))) (.cells #[.int .i64 p.f0, .string p.f1, .bool p.f2] 53 (0, 0))); have MY := Aside0.mk (blk_alloc (blk_new w2 (.cells #[.slice A2 Y.way.length c2, .int .i64 Y.lost] 47 (0, 0))) (.cells #[.int .i64 p.f0, .string p.f1, .bool p.f2] 53 (0, 0))); have MQ := Aside0.mk (blk_new (w2.alloc (.cells #[.slice A2 Y.way.length c2, .int .i64 Y.lost] 47 (0, 0))) (.cells #[.int .i64 p.f0, .string p.f1, .bool p.f2] 53 (0, 0))); have y0 := blk_cell MP.out 0; have y1 := blk_cell MP.out 1; have y2 := blk_cell MP.out 2; have y3 := blk_frozen M6.out 0; have y4 := blk_frozen M6.out 1; have y5 := blk_cell MY.out 0; have y6 := blk_cell MY.out 1; have y7 := blk_cell MQ.out 0; have y8 := blk_cell MQ.out 1; have y9 := blk_cell MQ.out 2; have x4 := blk_cell M6.out 0; have x5 := blk_cell M6.out 1; simp [cellsP] at y0 y1 y2 y5 y6 y7 y8 y9 x4 x5; clear hR2 hb2))
  go_region
  go_wp2
  have n2 : ¬ grew S (w1.alloc (.cells (cellsP p) 35 (0, 0))) w2 (w.heap.size + 2) := fun h => h.elim (fun h => by have := HR.out.2 _ h; omega) (fun h => by have := h.1; rw [World.size_alloc] at this; have := Z1.out; omega)
  have t2 : grew (grew T w (W3 w A X.way.length c X.lost 2 I At F B)) (w1.alloc (.cells (cellsP p) 35 (0, 0))) w2 (w.heap.size + 2) := .inl (.inr ⟨by omega, by rw [SW.out]; omega⟩)
  have m6 := blk_set (blk_set M6.out 0 (.slice A2 Y.way.length c2)) 1 (.int .i64 Y.lost)
  simp at m6
  have b2 : Below w2.heap.size w2 ((w2.alloc (.cells #[.slice A2 Y.way.length c2, .int .i64 Y.lost] 47 (0, 0))).alloc (.cells #[.int .i64 p.f0, .string p.f1, .bool p.f2] 53 (0, 0))) := (below_alloc (Below.refl _ _) _).alloc (by rw [World.size_alloc]; omega) _
  have NF := (((N2.out.step b2).put _ 0 (.slice A2 Y.way.length c2) t2).put _ 1 (.int .i64 Y.lost) t2).step (Below.refl _ _).drew
  have RF := (((R2.out.below b2).put _ 0 (.slice A2 Y.way.length c2) n2).put _ 1 (.int .i64 Y.lost) n2).below (Below.refl _ _).drew
  have b0 := HB.out
  have BF : Below base w _ := (BW.out.mono b0).trans (B2.out.trans (b2.mono (Nat.le_trans b0 (by have := Z1.out; have := W12.out; rw [World.size_alloc] at this; omega))))
  refine bodyPost_ret (results_ct rfl _ _ (w.heap.size + 2) 47 #[.slice A2 Y.way.length c2, .int .i64 Y.lost] (0, 0) _ rfl m6 Try.underlying47 rfl (by kernel_rfl)) rfl (dpost HST.out NF RF (by have := Z1.out; rw [World.size_alloc]; omega) (((BF.setCell (p := ⟨w.heap.size + 2, 0, none⟩) (show base ≤ w.heap.size + 2 by omega) _).setCell (p := ⟨w.heap.size + 2, 1, none⟩) (show base ≤ w.heap.size + 2 by omega) _).drew) ((((K2.out.below b2).setCell (p := ⟨w.heap.size + 2, 0, none⟩) (.inr (Nat.le_add_right _ _)) _).setCell (p := ⟨w.heap.size + 2, 1, none⟩) (.inr (Nat.le_add_right _ _)) _).drew) ?_)
  intro k hk
  have s1 : k < w2.heap.size := hk.elim (fun h => h.elim (fun h => by have := HTT.out _ h; have := Z1.out; have := W12.out; rw [World.size_alloc] at this; omega) (fun h => by have := h.2; rw [SW.out] at this; have := Z1.out; have := W12.out; rw [World.size_alloc] at this; omega)) (fun h => h.2)
  have s2 : k < w2.heap.size + 1 + 1 := by omega
  simpa [World.setCell, World.drew] using s2
end Go.Proofs.Ytmcdgachfkkpeaa.ONet
