/- (*Net).Take, walked by hand. -/
import Derived.Test.YtmcdgachfkkpeaaONDel
set_option linter.unusedVariables false
set_option linter.unusedSimpArgs false
namespace Go.Proofs.Ytmcdgachfkkpeaa.ONet
open Go.RowKit Go.Proofs.YtmcdgachfkkpeaaW.PrintWords Go.Proofs.YtmcdgachfkkpeaaW.PrintLast Go.Proofs.YtmcdgachfkkpeaaW.PrintMore Go.Proofs.Ytmcdgachfkkpeaa.GQ
def nTake (X : NX) (i : Int) : NX × PC × Int := if i < 0 ∨ i ≥ X.way.length then (X, z35, 8) else (⟨X.way.eraseIdx i.toNat, X.lost⟩, pcl X.way i, 0)
theorem NetAt.far {base : Nat} {ok : Nat → Prop} {W : World} {g q : Nat} {X : NX} (h : NetAt base (fun k => ok k ∧ k ≠ q) W g X) (j : Nat) (u : Value) : NetAt base (fun k => ok k ∧ k ≠ q) (W.setCell ⟨q, j, none⟩ u) g X := by
  obtain ⟨A, c, h1, h2, h3, h4, h5⟩ := h
  exact ⟨A, c, blk_far h1 h3.2 u, h2, h3, Kd.R_far h4 (fun k hk => hk.2) u, h5⟩
/-- A block that is laid beside the net is none of its own. -/
theorem NetAt.beside {base : Nat} {ok : Nat → Prop} {W : World} {g : Nat} {X : NX} (h : NetAt base ok W g X) (o : Obj) : NetAt base (fun k => ok k ∧ k ≠ W.heap.size) (W.alloc o) g X := by
  obtain ⟨A, c, h1, h2, h3, h4, h5⟩ := h
  have l1 := blk_lt h1
  refine ⟨A, c, blk_alloc h1 o, h2, ⟨h3, by omega⟩, Kd.R_alloc (Kd.R_mono (Kd.R_bound h4) (fun k hk => ⟨hk.1, by have := hk.2.2.1; omega⟩)) o, h5⟩
theorem Clone_eq (l : List PC) (hl : l.length ≤ 1000) : net_Parcel_20.f l = some l := by
  unfold net_Parcel_20.f
  rw [Option.bind_some, if_pos (by simp; omega)]
  rfl
def zcells : Array Value := #[.int .i64 0, .string ⟨#[]⟩, .bool false]
def cellsP (p : PC) : Array Value := #[.int .i64 p.f0, .string p.f1, .bool p.f2]
/-- The result's variable is written. -/
def wrote (W : World) (q : Nat) (p : PC) : World := ((W.setCell ⟨q, 0, none⟩ (.int .i64 p.f0)).setCell ⟨q, 1, none⟩ (.string p.f1)).setCell ⟨q, 2, none⟩ (.bool p.f2)
theorem NetAt.wrote {base : Nat} {ok : Nat → Prop} {W : World} {g q : Nat} {X : NX} (h : NetAt base (fun k => ok k ∧ k ≠ q) W g X) (p : PC) : NetAt base ok (ONet.wrote W q p) g X := (((h.far 0 _).far 1 _).far 2 _).mono (fun k hk => hk.1)
theorem wrote_below {base q : Nat} {w W : World} (h : Below base w W) (hq : base ≤ q) (p : PC) : Below base w (ONet.wrote W q p) := ((h.setCell hq _).setCell hq _).setCell hq _
theorem wrote_kept {q : Nat} {w W : World} {S : Nat → Prop} (h : Kept w W S) (hq : w.heap.size ≤ q) (p : PC) : Kept w (ONet.wrote W q p) S :=
  ((h.then_ (kept_set W (fun k => k = q) ⟨q, 0, none⟩ _ rfl) (fun k hk => .inr (by omega))).then_ (kept_set _ (fun k => k = q) ⟨q, 1, none⟩ _ rfl) (fun k hk => .inr (by omega))).then_ (kept_set _ (fun k => k = q) ⟨q, 2, none⟩ _ rfl) (fun k hk => .inr (by omega))
theorem wrote_blk {W : World} {q : Nat} (h : W.heap[q]? = some (.cells zcells 35 (0, 0))) (p : PC) : (ONet.wrote W q p).heap[q]? = some (.cells (cellsP p) 35 (0, 0)) := by
  have := blk_set (blk_set (blk_set h 0 (.int .i64 p.f0)) 1 (.string p.f1)) 2 (.bool p.f2)
  simpa [zcells, cellsP, ONet.wrote] using this
theorem NetAt.post {base : Nat} {ok : Nat → Prop} {w W : World} {g : Nat} {X : NX} (hl : base ≤ w.heap.size) (hB : Below base w W) (hK : Kept w W ok) (h : NetAt base (fun k => ok k ∧ k ≠ w.heap.size) W g X) (p : PC) : Post base ok w (ONet.wrote W w.heap.size p) g X :=
  ⟨wrote_below hB hl p, wrote_kept hK (Nat.le_refl _) p, h.wrote p⟩
set_option maxHeartbeats 4000000 in
set_option maxRecDepth 100000 in
theorem take_calls (base : Nat) (ok : Nat → Prop) (g : Nat) (X : NX) (i : Int) (w : World) (h : NetAt base ok w g X) (hfresh : ∀ k, w.heap.size ≤ k → ok k) :
    Calls Try.prog 13 #[.pointer (some ⟨g, 0, none⟩), .int .i64 i] w fun e w' => e = .returned (.tuple #[aggP (nTake X i).2.1, .int .i64 (nTake X i).2.2]) ∧ Post base ok w w' g (nTake X i).1 := by
  have hX := h
  have hlt : g < w.heap.size := by obtain ⟨A, c, h1, _⟩ := h; exact blk_lt h1
  have HX := Aside0.mk hX
  have LT := Aside0.mk hX.lt
  have HF := Aside0.mk hfresh
  have NB := Aside0.mk (hX.beside (.cells zcells 35 (0, 0)))
  have BB := Aside0.mk ((Below.refl w.heap.size w).alloc (Nat.le_refl _) (.cells zcells 35 (0, 0)))
  have KB := Aside0.mk (blk_new w (.cells zcells 35 (0, 0)))
  by_cases hi : i < 0 ∨ i ≥ X.way.length
  · have e0 : nTake X i = (X, z35, 8) := by unfold nTake; rw [if_pos hi]
    have e1 : nLook X i = (z35, 8) := by unfold nLook; rw [if_pos hi]
    rw [e0]
    have E1 := Aside0.mk e1
    clear e0 e1 hX h hfresh hi
    go_enter Try.func13, Try.ntmps13
    go_wp2_with (first
      | (go_at_call 15; refine (look_calls _ _ g X i _ NB.out).mono ?_; rw [E1.out]; simp only [aggP, z35]; rintro e w1 ⟨rfl, hb⟩; have B1 := Aside0.mk (BB.out.trans (hb.mono (by rw [World.size_alloc]; omega))); have N1 := Aside0.mk (NB.out.step hb); have K1 := Aside0.mk (blk_below KB.out hb); have N2 := Aside0.mk (N1.out.step (below_alloc (Below.refl _ _) (.cells zcells 35 (0, 0)))); have K2 := Aside0.mk (blk_alloc K1.out (.cells zcells 35 (0, 0))); clear hb; have q0 := blk_cell K2.out 0; have q1 := blk_cell K2.out 1; have q2 := blk_cell K2.out 2; have y0 := blk_frozen K2.out 0; have y1 := blk_frozen K2.out 1; have y2 := blk_frozen K2.out 2; simp [zcells] at q0 q1 q2 y0 y1 y2))
    exact bodyPost_ret (results_ct rfl _ _ w.heap.size 35 (cellsP z35) (0, 0) _ rfl (wrote_blk K2.out z35) Try.underlying35 rfl (by kernel_rfl)) rfl ⟨rfl, NetAt.post LT.out ((B1.out.alloc B1.out.size _).mono LT.out) (Kept.of_below (B1.out.alloc B1.out.size _) ok) N2.out z35⟩
  · have e0 : nTake X i = (⟨X.way.eraseIdx i.toNat, X.lost⟩, pcl X.way i, 0) := by unfold nTake; rw [if_neg hi]
    have e1 : nLook X i = (pcl X.way i, 0) := by unfold nLook; rw [if_neg hi]
    rw [e0]
    obtain ⟨n, rfl⟩ : ∃ n : Nat, i = (n : Int) := ⟨i.toNat, (Int.toNat_of_nonneg (by omega)).symm⟩
    have hn : n < X.way.length := by omega
    rw [Int.toNat_natCast]
    have E1 := Aside0.mk e1
    obtain ⟨p, hp⟩ : ∃ p, pcl X.way (n : Int) = p := ⟨_, rfl⟩
    rw [hp] at E1 ⊢
    obtain ⟨A, c, h1, h2, h3, h4, h5⟩ := h
    have HN := Aside0.mk (And.intro hn h5)
    have CL := Aside0.mk (Clone_eq X.way (by omega))
    obtain ⟨_, hcap, hC⟩ := Kd.R_reads' h4
    have HC := Aside0.mk hC
    have H1 := Aside0.mk h1
    have hn2 : (n : Int) + 1 ≤ 256 := by omega
    have H23 := Aside0.mk (And.intro h2 h3)
    clear e0 e1 hX hfresh hi hp h1 h4 hC hn h5 h2 h3
    go_enter Try.func13, Try.ntmps13
    go_wp2_with (first
      | (go_at_call 15; refine (look_calls _ _ g X _ _ NB.out).mono ?_; rw [E1.out]; simp only [aggP]; rintro e w1 ⟨rfl, hb⟩; have B1 := Aside0.mk (BB.out.trans (hb.mono (by rw [World.size_alloc]; omega))); have K1 := Aside0.mk (blk_below KB.out hb); have B2 := Aside0.mk (B1.out.alloc B1.out.size (.cells (cellsP p) 35 (0, 0))); have HG := Aside0.mk (blk_below H1.out B2.out); have K2 := Aside0.mk (blk_alloc K1.out (.cells (cellsP p) 35 (0, 0))); have J2 := Aside0.mk (blk_new w1 (.cells (cellsP p) 35 (0, 0))); clear hb; have g2 := blk_cell HG.out 0; simp [cellsP] at g2)
      | (go_at_call 20; refine (net_Parcel_20.calls A c X.way X.way _ (Kd.C_below HC.out B2.out) hcap CL.out).mono ?_; rintro e w3 ⟨v0, rfl, hR, hb3⟩)
      | (go_at_call 19; refine (delete_one X.way n HN.out.1 HN.out.2 v0 _ _ _ hR hb3.size).mono ?_; rintro e w4 ⟨A4, c4, rfl, hR4, _, hb4, _⟩; have B4 := Aside0.mk (B2.out.trans ((hb3.trans hb4).mono B2.out.size)); have C4 := Aside0.mk (hb3.trans hb4); have G4 := Aside0.mk (blk_below HG.out C4.out); have K4 := Aside0.mk (blk_below K2.out C4.out); have J4 := Aside0.mk (blk_below J2.out C4.out); have R4 := Aside0.mk hR4; clear hR hR4 hb3 hb4; have x0 := blk_frozen G4.out 0; have x1 := blk_cell G4.out 0; simp at x1; have J5 := Aside0.mk (blk_far (p := ⟨g, 0, none⟩) J4.out (show w1.heap.size ≠ g from by have := B1.out.size; omega) (.slice A4 (X.way.eraseIdx n).length c4)); have K5 := Aside0.mk (blk_far (p := ⟨g, 0, none⟩) K4.out (show w.heap.size ≠ g from by omega) (.slice A4 (X.way.eraseIdx n).length c4)); have t0 := blk_cell J5.out 0; have t1 := blk_cell J5.out 1; have t2 := blk_cell J5.out 2; have q0 := blk_cell K5.out 0; have q1 := blk_cell K5.out 1; have q2 := blk_cell K5.out 2; have y0 := blk_frozen K5.out 0; have y1 := blk_frozen K5.out 1; have y2 := blk_frozen K5.out 2; simp [zcells, cellsP] at t0 t1 t2 q0 q1 q2 y0 y1 y2))
    have hsz := B1.out.size
    have hs2 : (w1.alloc (.cells (cellsP p) 35 (0, 0))).heap.size = w1.heap.size + 1 := World.size_alloc _ _
    have hl : (X.way.eraseIdx n).length ≤ 256 := by rw [List.length_eraseIdx, if_pos HN.out.1]; have := HN.out.2; omega
    have hR : kP.R 35 w4 base (fun k => ok k ∧ k ≠ w.heap.size) (.slice A4 (X.way.eraseIdx n).length c4) (X.way.eraseIdx n) :=
      Kd.R_lower (Kd.R_mono (Kd.R_bound R4.out) (fun k hk => ⟨HF.out k (by have := hk.2.1; omega), by have := hk.2.1; omega⟩)) (by have := LT.out; omega)
    refine bodyPost_ret (results_ct rfl _ _ w.heap.size 35 (cellsP p) (0, 0) _ rfl (wrote_blk K5.out p) Try.underlying35 rfl (by kernel_rfl)) rfl ⟨rfl, NetAt.post LT.out ((B4.out.mono LT.out).setCell H23.out.1 _) ((Kept.of_below B4.out ok).then_ (kept_set _ ok ⟨g, 0, none⟩ _ H23.out.2) (fun _ h => .inl h)) ⟨A4, c4, by simpa using blk_set G4.out 0 (.slice A4 (X.way.eraseIdx n).length c4), H23.out.1, ⟨H23.out.2, by omega⟩, Kd.R_set hR G4.out (by decide) _ _, hl⟩ p⟩
end Go.Proofs.Ytmcdgachfkkpeaa.ONet
