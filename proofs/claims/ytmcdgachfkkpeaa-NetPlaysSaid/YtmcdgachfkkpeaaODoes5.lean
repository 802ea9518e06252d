/- tillerlaw16.does at kind 5, walked by hand. -/
import Derived.Test.YtmcdgachfkkpeaaODoes
import Derived.Test.YtmcdgachfkkpeaaONTurn
set_option linter.unusedVariables false
set_option linter.unusedSimpArgs false
namespace Go.Proofs.Ytmcdgachfkkpeaa.ONet
open Go.RowKit Go.Proofs.YtmcdgachfkkpeaaW.PrintWords Go.Proofs.YtmcdgachfkkpeaaW.PrintLast Go.Proofs.YtmcdgachfkkpeaaW.PrintMore Go.Proofs.Ytmcdgachfkkpeaa.GQ
theorem rturn_any (S : Nat → Prop) (A : Option Addr) (c : Nat) (X : NX) (i a b : Int) (w : World) (h : Ref S w A c X.way) (hl : X.way.length ≤ 256) (ha : -9223372036854775808 ≤ a ∧ a ≤ 9223372036854775807) (hb : 0 ≤ b ∧ b < 4294967296) (hf : ∀ p ∈ X.way, p.f1.size ≤ 40) :
    Calls Try.prog 27 #[.agg #[.slice A X.way.length c, .int .i64 X.lost], .int .i64 i, .int .i64 a, .int .u32 b] w fun e w' => ∃ A' c', e = .returned (.tuple #[.agg #[.slice A' (nTurn X i a b).1.way.length c', .int .i64 (nTurn X i a b).1.lost], .int .i64 (nTurn X i a b).2]) ∧ Ref (grew S w w') w' A' c' (nTurn X i a b).1.way ∧ Below w.heap.size w w' := by
  obtain ⟨hc, hC⟩ := h.reads
  have hw := tillerref16_Turn.calls 20000 S A c (X.way.map cv) X.lost i a b _ _ _ w (by rw [List.length_map]; exact h.1) (ref_turn X.way X.lost i a b ha hb.1 hb.2 hl (fun p hp => Nat.le_trans (hf p hp) (by decide)))
  rw [List.length_map] at hw
  refine hw.mono ?_
  rintro e w' ⟨v0, rfl, hR, hb⟩
  obtain ⟨A', c', rfl, h2⟩ := Ref.new (S := S) h.2 hb hR
  exact ⟨A', c', rfl, h2, hb⟩
theorem pcl_size (l : List PC) (i : Int) (hf : ∀ p ∈ l, p.f1.size ≤ 40) : (pcl l i).f1.size ≤ 65536 := by
  unfold pcl
  rw [List.getD_eq_getElem?_getD]
  rcases hx : l[i.toNat]? with _ | p
  · exact Nat.zero_le _
  · exact Nat.le_trans (hf p (List.mem_of_getElem? hx)) (by decide)
set_option maxHeartbeats 8000000 in
set_option maxRecDepth 100000 in
theorem does_turn (base : Nat) (S T : Nat → Prop) (g : Nat) (X : NX) (A : Option Addr) (c : Nat) (I At : Int) (F : ByteArray) (B : Int) (w : World) (hN : NetAt base (ap base T) w g X) (hR : Ref S w A c X.way) (hST : ∀ k, S k → T k) (hT : ∀ k, T k → k < w.heap.size) (hb : base ≤ w.heap.size) (ha : -9223372036854775808 ≤ At ∧ At ≤ 9223372036854775807) (hB : 0 ≤ B ∧ B < 4294967296) (hf : ∀ p ∈ X.way, p.f1.size ≤ 40) :
    Calls Try.prog 17 #[.pointer (some ⟨g, 0, none⟩), .agg #[.slice A X.way.length c, .int .i64 X.lost], .agg #[.int .i64 5, .int .i64 I, .int .i64 At, .string F, .int .u32 B]] w fun e w' => DPost base S T w g (nTurn X I At B).1 e w' := by
  have HN := Aside0.mk hN
  have HR := Aside0.mk hR
  have HST := Aside0.mk hST
  have HTT := Aside0.mk hT
  clear hST hT
  have HB := Aside0.mk hb
  have HT := Aside0.mk (And.intro ha (And.intro hB hf))
  have HP := Aside0.mk (pcl_size X.way I hf)
  clear ha hB hf
  have HL := Aside0.mk (show X.way.length ≤ 256 by obtain ⟨_, _, _, _, _, _, h5⟩ := hN; exact h5)
  have BW := Aside0.mk (W3_below w A X.way.length c X.lost 5 I At F B)
  have SW := Aside0.mk (W3_size w A X.way.length c X.lost 5 I At F B)
  have KW := Aside0.mk (W3_boxes w A X.way.length c X.lost 5 I At F B)
  have N3 := Aside0.mk (hN.beside_new BW.out)
  have L3 := Aside0.mk (show base ≤ (W3 w A X.way.length c X.lost 5 I At F B).heap.size by rw [SW.out]; omega)
  clear hN hR hb
  go_enter Try.func17, Try.ntmps17
  go_wp2_with (first
    | (go_at_call 14; go_loud (refine (turn_calls base _ g X I At B _ N3.out (grew_fresh HTT.out BW.out L3.out) HP.out HT.out.2.1).mono ?_); rintro e w1 ⟨rfl, hb, hk, hN1⟩; have B1 := Aside0.mk hb; have N1 := Aside0.mk hN1; have R1 := Aside0.mk ((HR.out.below BW.out).kept2 (fun k hk => .inl (HST.out k hk)) hk); have K1 := Aside0.mk (kept_first BW.out hk); have Z1 := Aside0.mk (show w.heap.size + 3 ≤ w1.heap.size by have := hk.1; rw [SW.out] at this; exact this); have J4 := Aside0.mk (blk_kept KW.out.1 hk (fun hh => hh.2 (.inr ⟨Nat.le_refl _, by rw [SW.out]; omega⟩))); have J5 := Aside0.mk (blk_kept KW.out.2.1 hk (fun hh => hh.2 (.inr ⟨by omega, by rw [SW.out]; omega⟩))); have J6 := Aside0.mk (blk_kept KW.out.2.2 hk (fun hh => hh.2 (.inr ⟨by omega, by rw [SW.out]; omega⟩))); have z0 := blk_cell J4.out 0; have z1 := blk_cell J4.out 1; have z2 := blk_cell J5.out 1; have z3 := blk_cell J5.out 2; have z4 := blk_cell J5.out 4; simp [boxA] at z0 z1 z2 z3 z4; clear hb hk hN1)
    | (go_at_call 27; go_loud (refine (rturn_any _ A c X I At B _ R1.out HL.out HT.out.1 HT.out.2.1 HT.out.2.2).mono ?_); rintro e w2 ⟨A2, c2, rfl, hR2, hb2⟩; have K2 := Aside0.mk (K1.out.below hb2); have W12 := Aside0.mk hb2.size; have B2 := Aside0.mk (below_then B1.out (Nat.le_trans L3.out B1.out.size) hb2); have N2 := Aside0.mk (N1.out.beside_new hb2); have R2 := Aside0.mk hR2; have M4 := Aside0.mk (blk_below J4.out hb2); have M6 := Aside0.mk (blk_below J6.out hb2); have y0 := blk_cell M4.out 0; have y1 := blk_cell M4.out 1; have y2 := blk_frozen M4.out 0; have y3 := blk_frozen M4.out 1; have y4 := blk_cell M6.out 0; have y5 := blk_cell M6.out 1; have y6 := blk_frozen M6.out 0; have y7 := blk_frozen M6.out 1; simp at y0 y1 y4 y5; clear hR2 hb2))
  have n0 : ¬ grew S w1 w2 w.heap.size := fun h => h.elim (fun h => by have := HR.out.2 _ h; omega) (fun h => by have := Z1.out; omega)
  have n2 : ¬ grew S w1 w2 (w.heap.size + 2) := fun h => h.elim (fun h => by have := HR.out.2 _ h; omega) (fun h => by have := Z1.out; omega)
  have t0 : grew (grew T w (W3 w A X.way.length c X.lost 5 I At F B)) w1 w2 w.heap.size := .inl (.inr ⟨Nat.le_refl _, by rw [SW.out]; omega⟩)
  have t2 : grew (grew T w (W3 w A X.way.length c X.lost 5 I At F B)) w1 w2 (w.heap.size + 2) := .inl (.inr ⟨by omega, by rw [SW.out]; omega⟩)
  have m4 := blk_far (p := ⟨w.heap.size, 1, none⟩) (blk_far (p := ⟨w.heap.size, 0, none⟩) M6.out (show w.heap.size + 2 ≠ w.heap.size by omega) (.slice A2 (nTurn X I At B).1.way.length c2)) (show w.heap.size + 2 ≠ w.heap.size by omega) (.int .i64 (nTurn X I At B).1.lost)
  have m6 := blk_set (blk_set m4 0 (.slice A2 (nTurn X I At B).1.way.length c2)) 1 (.int .i64 (nTurn X I At B).1.lost)
  simp at m6
  have NF := (((N2.out.put _ 0 (.slice A2 (nTurn X I At B).1.way.length c2) t0).put _ 1 (.int .i64 (nTurn X I At B).1.lost) t0).put _ 0 (.slice A2 (nTurn X I At B).1.way.length c2) t2).put _ 1 (.int .i64 (nTurn X I At B).1.lost) t2
  have RF := (((R2.out.put _ 0 (.slice A2 (nTurn X I At B).1.way.length c2) n0).put _ 1 (.int .i64 (nTurn X I At B).1.lost) n0).put _ 0 (.slice A2 (nTurn X I At B).1.way.length c2) n2).put _ 1 (.int .i64 (nTurn X I At B).1.lost) n2
  have b0 := HB.out
  have BF : Below base w w2 := (BW.out.mono b0).trans B2.out
  refine bodyPost_ret (results_ct rfl _ _ (w.heap.size + 2) 47 #[.slice A2 (nTurn X I At B).1.way.length c2, .int .i64 (nTurn X I At B).1.lost] (0, 0) _ rfl m6 Try.underlying47 rfl (by kernel_rfl)) rfl (dpost HST.out NF RF (show w.heap.size ≤ w1.heap.size by have := Z1.out; omega) ((((BF.setCell (p := ⟨w.heap.size, 0, none⟩) b0 _).setCell (p := ⟨w.heap.size, 1, none⟩) b0 _).setCell (p := ⟨w.heap.size + 2, 0, none⟩) (show base ≤ w.heap.size + 2 by omega) _).setCell (p := ⟨w.heap.size + 2, 1, none⟩) (show base ≤ w.heap.size + 2 by omega) _) ((((K2.out.setCell (p := ⟨w.heap.size, 0, none⟩) (.inr (Nat.le_refl _)) _).setCell (p := ⟨w.heap.size, 1, none⟩) (.inr (Nat.le_refl _)) _).setCell (p := ⟨w.heap.size + 2, 0, none⟩) (.inr (Nat.le_add_right _ _)) _).setCell (p := ⟨w.heap.size + 2, 1, none⟩) (.inr (Nat.le_add_right _ _)) _) ?_)
  intro k hk
  have s1 : k < w2.heap.size := hk.elim (fun h => h.elim (fun h => by have := HTT.out _ h; have := Z1.out; have := W12.out; omega) (fun h => by have := h.2; rw [SW.out] at this; have := Z1.out; have := W12.out; omega)) (fun h => h.2)
  simpa [World.setCell] using s1
end Go.Proofs.Ytmcdgachfkkpeaa.ONet
