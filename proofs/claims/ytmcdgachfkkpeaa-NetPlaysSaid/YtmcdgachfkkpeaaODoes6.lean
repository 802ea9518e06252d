/- tillerlaw16.does at kind 6, walked by hand. -/
import Derived.Test.YtmcdgachfkkpeaaODoes
import Derived.Test.YtmcdgachfkkpeaaONCut2
set_option linter.unusedVariables false
set_option linter.unusedSimpArgs false
namespace Go.Proofs.Ytmcdgachfkkpeaa.ONet
open Go.RowKit Go.Proofs.YtmcdgachfkkpeaaW.PrintWords Go.Proofs.YtmcdgachfkkpeaaW.PrintLast Go.Proofs.YtmcdgachfkkpeaaW.PrintMore Go.Proofs.Ytmcdgachfkkpeaa.GQ
theorem rcut_any (S : Nat → Prop) (A : Option Addr) (c : Nat) (X : NX) (i : Int) (w : World) (h : Ref S w A c X.way) (hl : X.way.length ≤ 256) (ho : 0 ≤ X.lost ∧ X.lost ≤ 1000000000) :
    Calls Try.prog 28 #[.agg #[.slice A X.way.length c, .int .i64 X.lost], .int .i64 i] w fun e w' => ∃ A' c', e = .returned (.tuple #[.agg #[.slice A' (nCut X i).1.way.length c', .int .i64 (nCut X i).1.lost], .int .i64 (nCut X i).2]) ∧ Ref (grew S w w') w' A' c' (nCut X i).1.way ∧ Below w.heap.size w w' := by
  obtain ⟨hc, hC⟩ := h.reads
  have hw := tillerref16_Cut.calls 1000 A c (X.way.map cv) X.lost i _ _ _ w (by rw [List.length_map]; exact hC) (by rw [List.length_map]; exact hc) (ref_cut 1000 X.way i X.lost hl ho (by omega))
  rw [List.length_map] at hw
  refine hw.mono ?_
  rintro e w' ⟨v0, rfl, hR, hb⟩
  obtain ⟨A', c', rfl, h2⟩ := Ref.new (S := S) h.2 hb (Kd.V_mono (Kd.R_V (Kd.R_bound hR)) (fun k hk => .inr hk.2.1))
  exact ⟨A', c', rfl, h2, hb⟩
set_option maxHeartbeats 8000000 in
set_option maxRecDepth 100000 in
theorem does_cut (base : Nat) (S T : Nat → Prop) (g : Nat) (X : NX) (A : Option Addr) (c : Nat) (I At : Int) (F : ByteArray) (B : Int) (w : World) (hN : NetAt base (ap base T) w g X) (hR : Ref S w A c X.way) (hST : ∀ k, S k → T k) (hT : ∀ k, T k → k < w.heap.size) (hb : base ≤ w.heap.size) (hl : 0 ≤ X.lost ∧ X.lost ≤ 1000000000) :
    Calls Try.prog 17 #[.pointer (some ⟨g, 0, none⟩), .agg #[.slice A X.way.length c, .int .i64 X.lost], .agg #[.int .i64 6, .int .i64 I, .int .i64 At, .string F, .int .u32 B]] w fun e w' => DPost base S T w g (nCut X I).1 e w' := by
  have HN := Aside0.mk hN
  have HLO := Aside0.mk hl
  clear hl
  have HR := Aside0.mk hR
  have HST := Aside0.mk hST
  have HTT := Aside0.mk hT
  clear hST hT
  have HB := Aside0.mk hb
  have HL := Aside0.mk (show X.way.length ≤ 256 by obtain ⟨_, _, _, _, _, _, h5⟩ := hN; exact h5)
  have BW := Aside0.mk (W3_below w A X.way.length c X.lost 6 I At F B)
  have SW := Aside0.mk (W3_size w A X.way.length c X.lost 6 I At F B)
  have KW := Aside0.mk (W3_boxes w A X.way.length c X.lost 6 I At F B)
  have N3 := Aside0.mk (hN.beside_new BW.out)
  have L3 := Aside0.mk (show base ≤ (W3 w A X.way.length c X.lost 6 I At F B).heap.size by rw [SW.out]; omega)
  clear hN hR hb
  go_enter Try.func17, Try.ntmps17
  go_wp2_with (first
    | (go_at_call 16; go_loud (refine (cut_calls base _ g X I _ N3.out (grew_fresh HTT.out BW.out L3.out) HLO.out).mono ?_); rintro e w1 ⟨rfl, hb, hk, hN1⟩; have B1 := Aside0.mk hb; have N1 := Aside0.mk hN1; have R1 := Aside0.mk ((HR.out.below BW.out).kept2 (fun k hk => .inl (HST.out k hk)) hk); have K1 := Aside0.mk (kept_first BW.out hk); have Z1 := Aside0.mk (show w.heap.size + 3 ≤ w1.heap.size by have := hk.1; rw [SW.out] at this; exact this); have J4 := Aside0.mk (blk_kept KW.out.1 hk (fun hh => hh.2 (.inr ⟨Nat.le_refl _, by rw [SW.out]; omega⟩))); have J5 := Aside0.mk (blk_kept KW.out.2.1 hk (fun hh => hh.2 (.inr ⟨by omega, by rw [SW.out]; omega⟩))); have J6 := Aside0.mk (blk_kept KW.out.2.2 hk (fun hh => hh.2 (.inr ⟨by omega, by rw [SW.out]; omega⟩))); have z0 := blk_cell J4.out 0; have z1 := blk_cell J4.out 1; have z2 := blk_cell J5.out 1; simp [boxA] at z0 z1 z2; clear hb hk hN1)
    | (go_at_call 28; go_loud (refine (rcut_any _ A c X I _ R1.out HL.out HLO.out).mono ?_); rintro e w2 ⟨A2, c2, rfl, hR2, hb2⟩; have K2 := Aside0.mk (K1.out.below hb2); have W12 := Aside0.mk hb2.size; have BF2 := Aside0.mk (show w.heap.size ≤ w2.heap.size by have := hb2.size; have := Z1.out; omega); have B2 := Aside0.mk (below_then B1.out (Nat.le_trans L3.out B1.out.size) hb2); have N2 := Aside0.mk (N1.out.beside_new hb2); have R2 := Aside0.mk hR2; have M4 := Aside0.mk (blk_below J4.out hb2); have M6 := Aside0.mk (blk_below J6.out hb2); have MY := Aside0.mk (blk_alloc M6.out (.cells #[.slice A2 (nCut X I).1.way.length c2, .int .i64 (nCut X I).1.lost] 47 (0, 0))); have y4 := blk_cell MY.out 0; have y5 := blk_cell MY.out 1; have y6 := blk_frozen MY.out 0; have y7 := blk_frozen MY.out 1; simp at y4 y5; clear hR2 hb2))
  have n2 : ¬ grew S w1 w2 (w.heap.size + 2) := fun h => h.elim (fun h => by have := HR.out.2 _ h; omega) (fun h => by have := Z1.out; omega)
  have t2 : grew (grew T w (W3 w A X.way.length c X.lost 6 I At F B)) w1 w2 (w.heap.size + 2) := .inl (.inr ⟨by omega, by rw [SW.out]; omega⟩)
  have m6 := blk_set (blk_set MY.out 0 (.slice A2 (nCut X I).1.way.length c2)) 1 (.int .i64 (nCut X I).1.lost)
  simp at m6
  have NF := ((N2.out.step (below_alloc (Below.refl _ _) (.cells #[.slice A2 (nCut X I).1.way.length c2, .int .i64 (nCut X I).1.lost] 47 (0, 0)))).put _ 0 (.slice A2 (nCut X I).1.way.length c2) t2).put _ 1 (.int .i64 (nCut X I).1.lost) t2
  have RF := ((R2.out.below (below_alloc (Below.refl _ _) (.cells #[.slice A2 (nCut X I).1.way.length c2, .int .i64 (nCut X I).1.lost] 47 (0, 0)))).put _ 0 (.slice A2 (nCut X I).1.way.length c2) n2).put _ 1 (.int .i64 (nCut X I).1.lost) n2
  have b0 := HB.out
  have BF : Below base w w2 := (BW.out.mono b0).trans B2.out
  refine bodyPost_ret (results_ct rfl _ _ (w.heap.size + 2) 47 #[.slice A2 (nCut X I).1.way.length c2, .int .i64 (nCut X I).1.lost] (0, 0) _ rfl m6 Try.underlying47 rfl (by kernel_rfl)) rfl (dpost HST.out NF RF (show w.heap.size ≤ w1.heap.size by have := Z1.out; omega) (((BF.alloc (Nat.le_trans b0 BF2.out) _).setCell (p := ⟨w.heap.size + 2, 0, none⟩) (show base ≤ w.heap.size + 2 by omega) _).setCell (p := ⟨w.heap.size + 2, 1, none⟩) (show base ≤ w.heap.size + 2 by omega) _) (((K2.out.alloc _).setCell (p := ⟨w.heap.size + 2, 0, none⟩) (.inr (Nat.le_add_right _ _)) _).setCell (p := ⟨w.heap.size + 2, 1, none⟩) (.inr (Nat.le_add_right _ _)) _) ?_)
  intro k hk
  have s1 : k < w2.heap.size := hk.elim (fun h => h.elim (fun h => by have := HTT.out _ h; have := Z1.out; have := W12.out; omega) (fun h => by have := h.2; rw [SW.out] at this; have := Z1.out; have := W12.out; omega)) (fun h => h.2)
  have s2 : k < w2.heap.size + 1 := Nat.lt_succ_of_lt s1
  simpa [World.setCell] using s2
end Go.Proofs.Ytmcdgachfkkpeaa.ONet
