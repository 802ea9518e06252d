/- (*Net).Cut, walked by hand. -/
import Derived.Test.YtmcdgachfkkpeaaONCut
import Derived.StillTailTactics
import Derived.IntWalk
set_option linter.unusedVariables false
set_option linter.unusedSimpArgs false
namespace Go.Proofs.Ytmcdgachfkkpeaa.ONet
open Go.RowKit Go.Proofs.YtmcdgachfkkpeaaW.PrintWords Go.Proofs.YtmcdgachfkkpeaaW.PrintLast Go.Proofs.YtmcdgachfkkpeaaW.PrintMore Go.Proofs.Ytmcdgachfkkpeaa.GQ
def nCut (X : NX) (nd : Int) : NX × Int := (⟨X.way.filter (keeps nd), X.lost + ((X.way.length : Int) - ((X.way.filter (keeps nd)).length : Int))⟩, (X.way.length : Int) - ((X.way.filter (keeps nd)).length : Int))
set_option maxHeartbeats 8000000 in
set_option maxRecDepth 100000 in
theorem cut_calls (base : Nat) (ok : Nat → Prop) (g : Nat) (X : NX) (nd : Int) (w : World) (h : NetAt base ok w g X) (hfresh : ∀ k, w.heap.size ≤ k → ok k) (hl : 0 ≤ X.lost ∧ X.lost ≤ 1000000000) :
    Calls Try.prog 16 #[.pointer (some ⟨g, 0, none⟩), .int .i64 nd] w fun e w' => e = .returned (.int .i64 (nCut X nd).2) ∧ Post base ok w w' g (nCut X nd).1 := by
  have LT := Aside0.mk h.lt
  have HF := Aside0.mk hfresh
  have hg : g < w.heap.size := by obtain ⟨A, c, h1, _⟩ := h; exact blk_lt h1
  obtain ⟨A, c, h1, h2, h3, h4, h5⟩ := h
  have CL := Aside0.mk (Clone_eq X.way (by omega))
  obtain ⟨_, hcap, hC⟩ := Kd.R_reads' h4
  have B0 := Aside0.mk (below_alloc (Below.refl w.heap.size w) (.cells #[.int .i64 nd] 3 (0, 0)))
  have C0 := Aside0.mk (Kd.C_below hC B0.out)
  have H0 := Aside0.mk (blk_alloc h1 (.cells #[.int .i64 nd] 3 (0, 0)))
  have X0 := Aside0.mk (blk_new w (.cells #[.int .i64 nd] 3 (0, 0)))
  have S0 := Aside0.mk (World.size_alloc w (.cells #[.int .i64 nd] 3 (0, 0)))
  have H23 := Aside0.mk (And.intro h2 h3)
  have g0 := blk_cell H0.out 0
  simp at g0
  obtain ⟨L, hL⟩ : ∃ L, X.way.filter (keeps nd) = L := ⟨_, rfl⟩
  have hll : L.length ≤ X.way.length := by rw [← hL]; exact List.length_filter_le _ _
  have e0 : nCut X nd = (⟨L, X.lost + ((X.way.length : Int) - (L.length : Int))⟩, (X.way.length : Int) - (L.length : Int)) := by unfold nCut; rw [hL]
  rw [e0]
  have HL := Aside0.mk hL
  have hl1 := hl.1
  have hl2 := hl.2
  have n1 : (X.way.length : Int) ≤ 256 := by omega
  have n2 : (L.length : Int) ≤ (X.way.length : Int) := by omega
  clear h1 h4 hC h2 h3 hL e0 hfresh hl
  go_enter Try.func16, Try.ntmps16
  go_wp2_with (first
    | (go_at_call 20; refine (net_Parcel_20.calls A c X.way X.way _ C0.out hcap CL.out).mono ?_; rintro e w3 ⟨v0, rfl, hR, hb3⟩)
    | (go_at_call 22; refine (delfunc_calls X.way h5 v0 _ _ w.heap.size nd _ hR hb3.size (by rw [blk_cell (blk_below X0.out hb3)]; rfl) (fun e => by have h1 := Kd.R_base hR _ e.symm; have := S0.out; omega)).mono ?_; rintro e w4 ⟨A4, c4, rfl, hR4, _, hb4, _⟩; rw [HL.out] at hR4; rw [HL.out]; have C4 := Aside0.mk (hb3.trans hb4); have G4 := Aside0.mk (blk_below H0.out C4.out); have R4 := Aside0.mk hR4; clear hR hR4 hb3 hb4; have x0 := blk_frozen G4.out 0; have x1 := blk_cell G4.out 0; simp at x1))
  have hR : kP.R 35 w4 base ok (.slice A4 L.length c4) L :=
    Kd.R_lower (Kd.R_mono (Kd.R_bound R4.out) (fun k hk => HF.out k (by have := hk.2.1; have := S0.out; omega))) (by have := LT.out; have := S0.out; omega)
  have G5 : (w4.setCell ⟨g, 0, none⟩ (.slice A4 L.length c4)).heap[g]? = some (.cells #[.slice A4 L.length c4, .int .i64 X.lost] 25 (0, 0)) := by simpa using blk_set G4.out 0 (.slice A4 L.length c4)
  have R5 : kP.R 35 (w4.setCell ⟨g, 0, none⟩ (.slice A4 L.length c4)) base ok (.slice A4 L.length c4) L := Kd.R_set hR G4.out (by decide) _ _
  have B4 : Below w.heap.size w w4 := B0.out.trans (C4.out.mono B0.out.size)
  have B5 : Below base w (w4.setCell ⟨g, 0, none⟩ (.slice A4 L.length c4)) := (B4.mono LT.out).setCell H23.out.1 _
  have K5 : Kept w (w4.setCell ⟨g, 0, none⟩ (.slice A4 L.length c4)) ok := (Kept.of_below B4 ok).then_ (kept_set _ ok ⟨g, 0, none⟩ _ H23.out.2) (fun _ h => .inl h)
  clear x0 x1 g0
  generalize (w4.setCell ⟨g, 0, none⟩ (.slice A4 L.length c4)) = w5 at *
  have P5 := Aside0.mk (And.intro G5 (And.intro R5 (And.intro B5 K5)))
  have y0 := blk_cell G5 0
  have y1 := blk_cell G5 1
  simp at y0 y1
  have s1 : IntKind.i64.wrap ((X.way.length : Int) - (L.length : Int)) = (X.way.length : Int) - (L.length : Int) := IntWalk.i64_in _ (by omega)
  have s2 : IntKind.i64.wrap (X.lost + ((X.way.length : Int) - (L.length : Int))) = X.lost + ((X.way.length : Int) - (L.length : Int)) := IntWalk.i64_in _ (by omega)
  clear G5 R5 B5 K5 hR B4
  go_still_tail 14, (by kernel_rfl)
  change wpList _ _ _ _ _ w5.drew
  clear y0 y1 s1 s2
  have P6 : Aside0 (w5.drew.heap[g]? = some (.cells #[.slice A4 L.length c4, .int .i64 X.lost] 25 (0, 0)) ∧ kP.R 35 w5.drew base ok (.slice A4 L.length c4) L ∧ Below base w w5.drew ∧ Kept w w5.drew ok) := ⟨P5.out.1, Kd.R_drew P5.out.2.1, P5.out.2.2.1.drew, P5.out.2.2.2.drew⟩
  clear P5
  generalize w5.drew = w6 at *
  have G5 := P6.out.1
  have y1 := blk_cell G5 1
  have y2 := blk_frozen G5 1
  have G6 := blk_set G5 1 (.int .i64 (X.lost + ((X.way.length : Int) - (L.length : Int))))
  have y3 := blk_cell G6 0
  simp at y1 y3
  clear G5 G6
  go_wp2
  go_ret
  refine ⟨rfl, ?_⟩
  obtain ⟨hg1, ho, hb, hk⟩ := P6.out
  refine ⟨hb.setCell H23.out.1 _, hk.then_ (kept_set _ ok _ _ H23.out.2) (fun _ h => .inl h), A4, c4, ?_, H23.out.1, H23.out.2, Kd.R_set ho hg1 (by decide) _ _, Nat.le_trans hll h5⟩
  simpa using blk_set hg1 1 (.int .i64 (X.lost + ((X.way.length : Int) - (L.length : Int))))
end Go.Proofs.Ytmcdgachfkkpeaa.ONet
