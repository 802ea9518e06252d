/- (*Net).Move and the awake call, walked by hand. -/
import Derived.Test.YtmcdgachfkkpeaaONTake
import Derived.StillTailTactics
import Derived.Deep.RegionHeld3
set_option linter.unusedVariables false
set_option linter.unusedSimpArgs false
namespace Go.Proofs.Ytmcdgachfkkpeaa.ONet
open Go.RowKit Go.Proofs.YtmcdgachfkkpeaaW.PrintWords Go.Proofs.YtmcdgachfkkpeaaW.PrintLast Go.Proofs.YtmcdgachfkkpeaaW.PrintMore Go.Proofs.Ytmcdgachfkkpeaa.GQ
def nMove (X : NX) (i : Int) : NX × Int := if i < 0 ∨ i ≥ X.way.length then (X, 8) else (⟨X.way.eraseIdx i.toNat ++ [pcl X.way i], X.lost⟩, 0)
theorem box_ne {w : World} {base : Nat} {ok : Nat → Prop} {v : Value} {xs : List PC} (h : kP.R 35 w base ok v xs) : some w.heap.size ≠ v.ownBlock := fun e => by
  have := Kd.R_lt h _ e.symm
  omega
theorem kP_mkM (w : World) (base : Nat) (ok : Nat → Prop) (p : PC) : kP.M w base ok p [.int .i64 p.f0, .string p.f1, .bool p.f2] := k35_mkM _ _ _ p
theorem fresh_up {ok : Nat → Prop} {base : Nat} {w w' : World} (h : ∀ k, w.heap.size ≤ k → ok k) (hb : Below base w w') : ∀ k, w'.heap.size ≤ k → ok k := fun k hk => h k (Nat.le_trans hb.size hk)
theorem len_ok {n : Nat} (h : n ≤ 255) : (n + 1) * 32 ≤ 140737488355328 := by omega
theorem box_cells {W : World} {g b : Nat} {A : Option Addr} {n c : Nat} {x : Value} {p : PC} (h1 : W.heap[g]? = some (.cells #[.slice A n c, x] 25 (0, 0))) (h2 : W.heap[b]? = some (.cells (cellsP p) 35 (0, 0))) :
    W.cell? ⟨g, 0, none⟩ = some (.slice A n c) ∧ W.cell? ⟨b, 0, none⟩ = some (.int .i64 p.f0) ∧ W.cell? ⟨b, 1, none⟩ = some (.string p.f1) ∧ W.cell? ⟨b, 2, none⟩ = some (.bool p.f2) := by
  rw [blk_cell h1, blk_cell h2, blk_cell h2, blk_cell h2]
  exact ⟨rfl, rfl, rfl, rfl⟩
theorem move_end {base : Nat} {ok : Nat → Prop} {w w2 : World} {g : Nat} {A2 : Option Addr} {c2 : Nat} {L : List PC} {p : PC} {v : Value} {l : Int}
    (ho : kP.R 35 w2 base ok (.slice A2 (L ++ [p]).length c2) (L ++ [p])) (hb : Below base w w2) (hg1 : w2.heap[g]? = some (.cells #[v, .int .i64 l] 25 (0, 0))) (hk : Kept w w2 ok) (h2 : base ≤ g) (h3 : ok g) (hl : L.length ≤ 255) :
    Post base ok w (w2.setCell ⟨g, 0, none⟩ (.slice A2 (L.length + 1) c2)) g ⟨L ++ [p], l⟩ := by
  have hl2 : (L ++ [p]).length = L.length + 1 := by simp
  refine ⟨hb.setCell h2 _, hk.then_ (kept_set _ ok _ _ h3) (fun _ h => .inl h), A2, c2, ?_, h2, h3, ?_, ?_⟩
  · show _ = some (Obj.cells #[.slice A2 (L ++ [p]).length c2, .int .i64 l] 25 (0, 0))
    rw [hl2]
    simpa using blk_set hg1 0 (.slice A2 (L.length + 1) c2)
  · exact Kd.R_set ho hg1 (by decide) _ _
  · show (L ++ [p]).length ≤ 256
    rw [hl2]
    omega
set_option maxHeartbeats 4000000 in
set_option maxRecDepth 100000 in
theorem move_calls (base : Nat) (ok : Nat → Prop) (g : Nat) (X : NX) (i : Int) (w : World) (h : NetAt base ok w g X) (hfresh : ∀ k, w.heap.size ≤ k → ok k) :
    Calls Try.prog 18 #[.pointer (some ⟨g, 0, none⟩), .int .i64 i] w fun e w' => e = .returned (.int .i64 (nMove X i).2) ∧ Post base ok w w' g (nMove X i).1 := by
  have hX := Aside0.mk h
  have HF := Aside0.mk hfresh
  have LT := Aside0.mk h.lt
  by_cases hi : i < 0 ∨ i ≥ X.way.length
  · have e0 : nMove X i = (X, 8) := by unfold nMove; rw [if_pos hi]
    have e1 : nTake X i = (X, z35, 8) := by unfold nTake; rw [if_pos hi]
    rw [e0]
    have E1 := Aside0.mk e1
    clear e0 e1 h hfresh hi
    go_enter Try.func18, Try.ntmps18
    go_wp2_with (first
      | (go_at_call 13; refine (take_calls _ _ g X _ _ hX.out HF.out).mono ?_; rw [E1.out]; simp only [aggP, z35]; rintro e w1 ⟨rfl, hb, hk, hN⟩; have B1 := Aside0.mk hb; have K1 := Aside0.mk hk; have N1 := Aside0.mk hN; clear hb hk hN))
    go_ret
    exact ⟨rfl, B1.out.alloc (Nat.le_trans LT.out B1.out.size) _, K1.out.alloc _, N1.out.step (below_alloc (Below.refl _ _) _)⟩
  · have e0 : nMove X i = (⟨X.way.eraseIdx i.toNat ++ [pcl X.way i], X.lost⟩, 0) := by unfold nMove; rw [if_neg hi]
    have e1 : nTake X i = (⟨X.way.eraseIdx i.toNat, X.lost⟩, pcl X.way i, 0) := by unfold nTake; rw [if_neg hi]
    rw [e0]
    obtain ⟨p, hp⟩ : ∃ p, pcl X.way i = p := ⟨_, rfl⟩
    obtain ⟨L, hL⟩ : ∃ L, X.way.eraseIdx i.toNat = L := ⟨_, rfl⟩
    have hlen : L.length ≤ 255 := by
      obtain ⟨A, c, _, _, _, _, h5⟩ := h
      rw [← hL, List.length_eraseIdx, if_pos (by omega)]
      omega
    rw [hp, hL] at e1 ⊢
    have E1 := Aside0.mk e1
    have HL := Aside0.mk hlen
    clear e0 e1 h hfresh hi hp hL hlen
    go_enter Try.func18, Try.ntmps18
    go_wp2_with (first
      | (go_at_call 13; refine (take_calls _ _ g X _ _ hX.out HF.out).mono ?_; rw [E1.out]; simp only [aggP]; rintro e w1 ⟨rfl, hb, hk, hN⟩; have B1 := Aside0.mk hb; have K1 := Aside0.mk hk; obtain ⟨A, c, h1, h2, h3, h4, h5⟩ := hN; have NP := Aside0.mk (box_ne h4); have H23 := Aside0.mk (And.intro h2 h3); have H1 := Aside0.mk (blk_alloc h1 (.cells (cellsP p) 35 (0, 0))); have H4 := Aside0.mk (Kd.R_alloc h4 (.cells (cellsP p) 35 (0, 0))); have J1 := Aside0.mk (blk_new w1 (.cells (cellsP p) 35 (0, 0))); have B2 := Aside0.mk (B1.out.alloc (Nat.le_trans LT.out B1.out.size) (.cells (cellsP p) 35 (0, 0))); have K2 := Aside0.mk (K1.out.alloc (.cells (cellsP p) 35 (0, 0))); clear hb hk h1 h2 h3 h4 h5; have g1 := blk_frozen H1.out 0; obtain ⟨g0, q0, q1, q2⟩ := box_cells H1.out J1.out; obtain ⟨g2, _⟩ := box_cells (blk_alloc H1.out (.cells (cellsP p) 35 (0, 0))) (blk_alloc J1.out (.cells (cellsP p) 35 (0, 0))); simp only [cellsP] at g0 g1 g2 q0 q1 q2))
    go_region_law (refine Kd.R_append_step kP (w0 := w) base rfl (.tmp 19) (.tmp 21) 23 35 (.agg #[.int .i64 0, .string ⟨#[]⟩, .bool false]) 32 rfl Try.underlying23 info35 rfl (by decide) (by omega) (.slice A L.length c) L p [.int .i64 p.f0, .string p.f1, .bool p.f2] ok (fun _ => False) (by simp [Act.eval, Act.put]) (by simp [Act.eval, Act.put]) (kP_mkM _ _ _ p) (fun _ hk => hk.elim) (fresh_up HF.out B2.out.drew) (Kd.R_drew H4.out) B2.out.drew (Nat.le_trans LT.out B2.out.drew.size) (len_ok HL.out) ?_; intro v1 w2 ho hb hg hat; obtain ⟨A2, c2, rfl⟩ := Kd.R_slice ho; have hg1 := blk_grown (bkD H1.out) hg (Kd.R_ne H4.out H1.out (by decide)); have hj1 := blk_grown (bkD J1.out) hg NP.out; have y4 := blk_frozen hg1 0; obtain ⟨y0, y1, y2, y3⟩ := box_cells hg1 hj1; have P := Aside0.mk (And.intro ho (And.intro hb (And.intro hg1 (Kept.of_grown hg K2.out.drew (fun k hk => .inl (H4.out.1 k hk)))))); clear ho hb hg hat hg1 hj1)
    all_goals (go_wp2; go_ret; exact ⟨rfl, move_end P.out.1 P.out.2.1 P.out.2.2.1 P.out.2.2.2 H23.out.1 H23.out.2 HL.out⟩)
end Go.Proofs.Ytmcdgachfkkpeaa.ONet
