/- tillerlaw16.does at kind 1, walked by hand. -/
import Derived.Test.YtmcdgachfkkpeaaODoes
set_option linter.unusedVariables false
set_option linter.unusedSimpArgs false
namespace Go.Proofs.Ytmcdgachfkkpeaa.ONet
open Go.RowKit Go.Proofs.YtmcdgachfkkpeaaW.PrintWords Go.Proofs.YtmcdgachfkkpeaaW.PrintLast Go.Proofs.YtmcdgachfkkpeaaW.PrintMore Go.Proofs.Ytmcdgachfkkpeaa.GQ
def cut40 (F : ByteArray) : ByteArray := if (F.size : Int) > 40 then F.extract 0 40 else F
theorem cut40_size (F : ByteArray) : (cut40 F).size ≤ 40 := by
  unfold cut40
  split
  · rw [ByteArray.size_extract]; omega
  · omega
theorem cut40_calls (F : ByteArray) (w : World) : Calls Try.prog 12 #[.string F, .int .i64 40] w fun e w' => e = .returned (.string (cut40 F)) ∧ w' = w := by
  by_cases h : (F.size : Int) > 40
  · have d1 : decide ((F.size : Int) > 40) = true := decide_eq_true h
    have d2 : 40 < F.size := by omega
    have d3 : 40 ≤ F.size := by omega
    have E := Aside0.mk (show cut40 F = F.extract 0 40 by unfold cut40; rw [if_pos h])
    clear h
    go_enter Try.func12, Try.ntmps12
    go_wp2
    go_ret
    exact ⟨by rw [E.out]; rfl, rfl⟩
  · have d1 : decide ((F.size : Int) > 40) = false := decide_eq_false h
    have d2 : ¬ 40 < F.size := by omega
    have E := Aside0.mk (show cut40 F = F by unfold cut40; rw [if_neg h])
    clear h
    go_enter Try.func12, Try.ntmps12
    go_wp2
    go_ret
    exact ⟨by rw [E.out]; rfl, rfl⟩
theorem rsend_any (S : Nat → Prop) (A : Option Addr) (c : Nat) (X : NX) (i : Int) (f : ByteArray) (w : World) (h : Ref S w A c X.way) (hl : X.way.length ≤ 256) (ho : 0 ≤ X.lost ∧ X.lost ≤ 1000000000) :
    Calls Try.prog 23 #[.agg #[.slice A X.way.length c, .int .i64 X.lost], .int .i64 i, .string f] w fun e w' => ∃ A' c', e = .returned (.tuple #[.agg #[.slice A' (nSend X i f).1.way.length c', .int .i64 (nSend X i f).1.lost], .int .i64 (nSend X i f).2]) ∧ Ref (grew S w w') w' A' c' (nSend X i f).1.way ∧ Below w.heap.size w w' := by
  have hw := tillerref16_Send.calls 5 S A c (X.way.map cv) X.lost i f _ _ _ w (by rw [List.length_map]; exact h.1) (ref_send 4 X.way X.lost i f hl ho)
  rw [List.length_map] at hw
  refine hw.mono ?_
  rintro e w' ⟨v0, rfl, hR, hb⟩
  obtain ⟨A', c', rfl, h2⟩ := Ref.new (S := S) h.2 hb hR
  exact ⟨A', c', rfl, h2, hb⟩
set_option maxHeartbeats 16000000 in
set_option maxRecDepth 100000 in
theorem does_send (base : Nat) (S T : Nat → Prop) (g : Nat) (X : NX) (A : Option Addr) (c : Nat) (I At : Int) (F : ByteArray) (B : Int) (w : World) (hN : NetAt base (ap base T) w g X) (hR : Ref S w A c X.way) (hST : ∀ k, S k → T k) (hT : ∀ k, T k → k < w.heap.size) (hb : base ≤ w.heap.size) (hl : 0 ≤ X.lost ∧ X.lost ≤ 1000000000) :
    Calls Try.prog 17 #[.pointer (some ⟨g, 0, none⟩), .agg #[.slice A X.way.length c, .int .i64 X.lost], .agg #[.int .i64 1, .int .i64 I, .int .i64 At, .string F, .int .u32 B]] w fun e w' => DPost base S T w g (nSend X I (cut40 F)).1 e w' := by
  have HN := Aside0.mk hN
  have HR := Aside0.mk hR
  have HST := Aside0.mk hST
  have HTT := Aside0.mk hT
  clear hST hT
  have HB := Aside0.mk hb
  have HLO := Aside0.mk hl
  clear hl
  have HL := Aside0.mk (show X.way.length ≤ 256 by obtain ⟨_, _, _, _, _, _, h5⟩ := hN; exact h5)
  have HN0 := Aside0.mk hN
  clear hN hR hb
  go_enter Try.func17, Try.ntmps17
  go_wp2
  obtain ⟨W0, hW0⟩ : ∃ W0, W0 = ((w.alloc (.cells #[.slice A X.way.length c, .int .i64 X.lost] 47 (0, 0))).alloc (.cells #[.int .i64 1, .int .i64 I, .int .i64 At, .string F, .int .u32 B] 52 (0, 0))).alloc (.cells #[.slice none 0 0, .int .i64 0] 47 (0, 0)) := ⟨_, rfl⟩
  rw [← hW0]
  have e3 : W3 w A X.way.length c X.lost 1 I At F B = W0 := hW0.symm
  have bw := W3_below w A X.way.length c X.lost 1 I At F B
  have sw := W3_size w A X.way.length c X.lost 1 I At F B
  have kw := W3_boxes w A X.way.length c X.lost 1 I At F B
  rw [e3] at bw sw kw
  have u0 := blk_cell kw.2.1 1
  have u1 := blk_cell kw.2.1 3
  simp [boxA] at u0 u1
  have BW := Aside0.mk (show Below w.heap.size w W0.drew from bw.drew)
  have SW := Aside0.mk (show W0.drew.heap.size = w.heap.size + 3 from sw)
  have KW := Aside0.mk (show W0.drew.heap[w.heap.size]? = some (.cells #[.slice A X.way.length c, .int .i64 X.lost] 47 (0, 0)) ∧ W0.drew.heap[w.heap.size + 1]? = some (.cells (boxA 1 I At F B) 52 (0, 0)) ∧ W0.drew.heap[w.heap.size + 2]? = some (.cells #[.slice none 0 0, .int .i64 0] 47 (0, 0)) from kw)
  clear hW0 e3 bw sw kw
  go_still_tail 6, (by kernel_rfl)
  still_call (cut40_calls F _)
  repeat still_step
  refine wpStill_nil ?_
  change wpList _ _ _ _ _ W0.drew
  clear u0 u1
  generalize W0.drew = W1 at *
  have N3 := Aside0.mk (HN0.out.beside_new BW.out)
  have L3 := Aside0.mk (show base ≤ W1.heap.size by rw [SW.out]; have := HB.out; omega)
  go_wp2_with (first
    | (go_at_call 9; go_loud (refine (send_calls base _ g X I (cut40 F) _ N3.out (grew_fresh HTT.out BW.out L3.out) HLO.out).mono ?_); rintro e w1 ⟨rfl, hb, hk, hN1⟩; have B1 := Aside0.mk hb; have N1 := Aside0.mk hN1; have R1 := Aside0.mk ((HR.out.below BW.out).kept2 (fun k hk => .inl (HST.out k hk)) hk); have K1 := Aside0.mk (kept_first BW.out hk); have Z1 := Aside0.mk (show w.heap.size + 3 ≤ w1.heap.size by have := hk.1; rw [SW.out] at this; exact this); have J4 := Aside0.mk (blk_kept KW.out.1 hk (fun hh => hh.2 (.inr ⟨Nat.le_refl _, by rw [SW.out]; omega⟩))); have J5 := Aside0.mk (blk_kept KW.out.2.1 hk (fun hh => hh.2 (.inr ⟨by omega, by rw [SW.out]; omega⟩))); have J6 := Aside0.mk (blk_kept KW.out.2.2 hk (fun hh => hh.2 (.inr ⟨by omega, by rw [SW.out]; omega⟩))); have z0 := blk_cell J4.out 0; have z1 := blk_cell J4.out 1; have z2 := blk_cell J5.out 1; have z3 := blk_cell J5.out 3; simp [boxA] at z0 z1 z2 z3; clear hb hk hN1))
  go_region_with (first
    | (go_at_call 12; refine (cut40_calls F _).mono ?_; rintro e w' ⟨rfl, rfl⟩)
    | (go_at_call 23; go_loud (refine (rsend_any _ A c X I (cut40 F) _ (R1.out.below (Below.refl _ _).drew) HL.out HLO.out).mono ?_); rintro e w2 ⟨A2, c2, rfl, hR2, hb2⟩; have K2 := Aside0.mk (K1.out.drew.below hb2); have W12 := Aside0.mk (show w1.heap.size ≤ w2.heap.size from hb2.size); have B2 := Aside0.mk (below_then B1.out.drew (Nat.le_trans L3.out B1.out.size) hb2); have N2 := Aside0.mk ((N1.out.step (Below.refl _ _).drew).beside_new hb2); have R2 := Aside0.mk hR2; have M4 := Aside0.mk (blk_below (bkD J4.out) hb2); have M6 := Aside0.mk (blk_below (bkD J6.out) hb2); have y0 := blk_cell M4.out 0; have y1 := blk_cell M4.out 1; have y2 := blk_frozen M4.out 0; have y3 := blk_frozen M4.out 1; have y4 := blk_cell M6.out 0; have y5 := blk_cell M6.out 1; have y6 := blk_frozen M6.out 0; have y7 := blk_frozen M6.out 1; simp at y0 y1 y4 y5; clear hR2 hb2))
  all_goals (
    go_wp2
    have n0 : ¬ grew S w1.drew w2 w.heap.size := fun h => h.elim (fun h => by have := HR.out.2 _ h; omega) (fun h => by have h1 : w1.heap.size ≤ _ := h.1; have := Z1.out; omega)
    have n2 : ¬ grew S w1.drew w2 (w.heap.size + 2) := fun h => h.elim (fun h => by have := HR.out.2 _ h; omega) (fun h => by have h1 : w1.heap.size ≤ _ := h.1; have := Z1.out; omega)
    have t0 : grew (grew T w W1) w1.drew w2 w.heap.size := .inl (.inr ⟨Nat.le_refl _, by rw [SW.out]; omega⟩)
    have t2 : grew (grew T w W1) w1.drew w2 (w.heap.size + 2) := .inl (.inr ⟨by omega, by rw [SW.out]; omega⟩)
    have m4 := blk_far (p := ⟨w.heap.size, 1, none⟩) (blk_far (p := ⟨w.heap.size, 0, none⟩) M6.out (show w.heap.size + 2 ≠ w.heap.size by omega) (.slice A2 (nSend X I (cut40 F)).1.way.length c2)) (show w.heap.size + 2 ≠ w.heap.size by omega) (.int .i64 (nSend X I (cut40 F)).1.lost)
    have m6 := blk_set (blk_set m4 0 (.slice A2 (nSend X I (cut40 F)).1.way.length c2)) 1 (.int .i64 (nSend X I (cut40 F)).1.lost)
    simp at m6
    have NF := (((N2.out.put _ 0 (.slice A2 (nSend X I (cut40 F)).1.way.length c2) t0).put _ 1 (.int .i64 (nSend X I (cut40 F)).1.lost) t0).put _ 0 (.slice A2 (nSend X I (cut40 F)).1.way.length c2) t2).put _ 1 (.int .i64 (nSend X I (cut40 F)).1.lost) t2
    have RF := (((R2.out.put _ 0 (.slice A2 (nSend X I (cut40 F)).1.way.length c2) n0).put _ 1 (.int .i64 (nSend X I (cut40 F)).1.lost) n0).put _ 0 (.slice A2 (nSend X I (cut40 F)).1.way.length c2) n2).put _ 1 (.int .i64 (nSend X I (cut40 F)).1.lost) n2
    have b0 := HB.out
    have BF : Below base w w2 := (BW.out.mono b0).trans B2.out
    refine bodyPost_ret (results_ct rfl _ _ (w.heap.size + 2) 47 #[.slice A2 (nSend X I (cut40 F)).1.way.length c2, .int .i64 (nSend X I (cut40 F)).1.lost] (0, 0) _ rfl m6 Try.underlying47 rfl (by kernel_rfl)) rfl (dpost HST.out NF RF (show w.heap.size ≤ w1.heap.size by have := Z1.out; omega) ((((BF.setCell (p := ⟨w.heap.size, 0, none⟩) b0 _).setCell (p := ⟨w.heap.size, 1, none⟩) b0 _).setCell (p := ⟨w.heap.size + 2, 0, none⟩) (show base ≤ w.heap.size + 2 by omega) _).setCell (p := ⟨w.heap.size + 2, 1, none⟩) (show base ≤ w.heap.size + 2 by omega) _) ((((K2.out.setCell (p := ⟨w.heap.size, 0, none⟩) (.inr (Nat.le_refl _)) _).setCell (p := ⟨w.heap.size, 1, none⟩) (.inr (Nat.le_refl _)) _).setCell (p := ⟨w.heap.size + 2, 0, none⟩) (.inr (Nat.le_add_right _ _)) _).setCell (p := ⟨w.heap.size + 2, 1, none⟩) (.inr (Nat.le_add_right _ _)) _) ?_)
    intro k hk
    have s1 : k < w2.heap.size := hk.elim (fun h => h.elim (fun h => by have := HTT.out _ h; have := Z1.out; have := W12.out; omega) (fun h => by have := h.2; rw [SW.out] at this; have := Z1.out; have := W12.out; omega)) (fun h => h.2)
    simpa [World.setCell] using s1)
end Go.Proofs.Ytmcdgachfkkpeaa.ONet
