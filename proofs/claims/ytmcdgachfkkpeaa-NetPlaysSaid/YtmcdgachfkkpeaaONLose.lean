/- (*Net).Lose, walked by hand. -/
import Derived.Test.YtmcdgachfkkpeaaONMove
set_option linter.unusedVariables false
set_option linter.unusedSimpArgs false
namespace Go.Proofs.Ytmcdgachfkkpeaa.ONet
open Go.RowKit Go.Proofs.YtmcdgachfkkpeaaW.PrintWords Go.Proofs.YtmcdgachfkkpeaaW.PrintLast Go.Proofs.YtmcdgachfkkpeaaW.PrintMore Go.Proofs.Ytmcdgachfkkpeaa.GQ
def nLose (X : NX) (i : Int) : NX × Int := if i < 0 ∨ i ≥ X.way.length then (X, 8) else (⟨X.way.eraseIdx i.toNat, X.lost + 1⟩, 0)
set_option maxHeartbeats 4000000 in
set_option maxRecDepth 100000 in
theorem lose_calls (base : Nat) (ok : Nat → Prop) (g : Nat) (X : NX) (i : Int) (w : World) (h : NetAt base ok w g X) (hfresh : ∀ k, w.heap.size ≤ k → ok k) (hl : 0 ≤ X.lost ∧ X.lost ≤ 1000000000) :
    Calls Try.prog 25 #[.pointer (some ⟨g, 0, none⟩), .int .i64 i] w fun e w' => e = .returned (.int .i64 (nLose X i).2) ∧ Post base ok w w' g (nLose X i).1 := by
  have hX := Aside0.mk h
  have HF := Aside0.mk hfresh
  have LT := Aside0.mk h.lt
  have hl1 := hl.1
  have hl2 := hl.2
  by_cases hi : i < 0 ∨ i ≥ X.way.length
  · have e0 : nLose X i = (X, 8) := by unfold nLose; rw [if_pos hi]
    have e1 : nTake X i = (X, z35, 8) := by unfold nTake; rw [if_pos hi]
    rw [e0]
    have E1 := Aside0.mk e1
    clear e0 e1 h hfresh hi hl
    go_enter Try.func25, Try.ntmps25
    go_wp2_with (first
      | (go_at_call 13; refine (take_calls _ _ g X _ _ hX.out HF.out).mono ?_; rw [E1.out]; simp only [aggP, z35]; rintro e w1 ⟨rfl, hb, hk, hN⟩; have B1 := Aside0.mk hb; have K1 := Aside0.mk hk; have N1 := Aside0.mk hN; clear hb hk hN))
    go_ret
    exact ⟨rfl, B1.out.alloc (Nat.le_trans LT.out B1.out.size) _, K1.out.alloc _, N1.out.step (below_alloc (Below.refl _ _) _)⟩
  · have e0 : nLose X i = (⟨X.way.eraseIdx i.toNat, X.lost + 1⟩, 0) := by unfold nLose; rw [if_neg hi]
    have e1 : nTake X i = (⟨X.way.eraseIdx i.toNat, X.lost⟩, pcl X.way i, 0) := by unfold nTake; rw [if_neg hi]
    rw [e0]
    obtain ⟨p, hp⟩ : ∃ p, pcl X.way i = p := ⟨_, rfl⟩
    obtain ⟨L, hL⟩ : ∃ L, X.way.eraseIdx i.toNat = L := ⟨_, rfl⟩
    rw [hp, hL] at e1
    rw [hL]
    have E1 := Aside0.mk e1
    clear e0 e1 h hfresh hi hp hL hl
    go_enter Try.func25, Try.ntmps25
    go_wp2_with (first
      | (go_at_call 13; refine (take_calls _ _ g X _ _ hX.out HF.out).mono ?_; rw [E1.out]; simp only [aggP]; rintro e w1 ⟨rfl, hb, hk, hN⟩; have B1 := Aside0.mk (hb.alloc (Nat.le_trans LT.out hb.size) (.cells (cellsP p) 35 (0, 0))); have K1 := Aside0.mk (hk.alloc (.cells (cellsP p) 35 (0, 0))); obtain ⟨A, c, h1, h2, h3, h4, h5⟩ := hN; have H1 := Aside0.mk (blk_alloc h1 (.cells (cellsP p) 35 (0, 0))); have H23 := Aside0.mk (And.intro h2 (And.intro h3 h5)); have H4 := Aside0.mk (Kd.R_alloc h4 (.cells (cellsP p) 35 (0, 0))); have g1 := blk_cell H1.out 1; have g2 := blk_frozen H1.out 1; simp [cellsP] at g1 g2; clear hb hk h1 h2 h3 h4 h5))
    go_ret
    refine ⟨rfl, B1.out.setCell H23.out.1 _, K1.out.then_ (kept_set _ ok _ _ H23.out.2.1) (fun _ h => .inl h), A, c, ?_, H23.out.1, H23.out.2.1, Kd.R_set H4.out H1.out (by decide) _ _, H23.out.2.2⟩
    simpa [cellsP] using blk_set H1.out 1 (.int .i64 (X.lost + 1))
end Go.Proofs.Ytmcdgachfkkpeaa.ONet
