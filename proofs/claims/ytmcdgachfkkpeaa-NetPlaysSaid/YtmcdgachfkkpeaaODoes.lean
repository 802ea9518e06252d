/- tillerlaw16.does, kind by kind, walked by hand. -/
import Derived.Test.YtmcdgachfkkpeaaODuo
set_option linter.unusedVariables false
set_option linter.unusedSimpArgs false
namespace Go.Proofs.Ytmcdgachfkkpeaa.ONet
open Go.RowKit Go.Proofs.YtmcdgachfkkpeaaW.PrintWords Go.Proofs.YtmcdgachfkkpeaaW.PrintLast Go.Proofs.YtmcdgachfkkpeaaW.PrintMore Go.Proofs.Ytmcdgachfkkpeaa.GQ
/-- The three boxes that does lays: the document's net, the call, the answer. -/
def boxA (K I At : Int) (F : ByteArray) (B : Int) : Array Value := #[.int .i64 K, .int .i64 I, .int .i64 At, .string F, .int .u32 B]
def W3 (w : World) (A : Option Addr) (n c : Nat) (o K I At : Int) (F : ByteArray) (B : Int) : World := ((w.alloc (.cells #[.slice A n c, .int .i64 o] 47 (0, 0))).alloc (.cells (boxA K I At F B) 52 (0, 0))).alloc (.cells #[.slice none 0 0, .int .i64 0] 47 (0, 0))
theorem W3_size (w : World) (A : Option Addr) (n c : Nat) (o K I At : Int) (F : ByteArray) (B : Int) : (W3 w A n c o K I At F B).heap.size = w.heap.size + 3 := by
  unfold W3
  rw [World.size_alloc, World.size_alloc, World.size_alloc]
theorem W3_below (w : World) (A : Option Addr) (n c : Nat) (o K I At : Int) (F : ByteArray) (B : Int) : Below w.heap.size w (W3 w A n c o K I At F B) := by
  unfold W3
  refine Below.alloc (Below.alloc (Below.alloc (Below.refl _ _) (Nat.le_refl _) _) ?_ _) ?_ _
  · rw [World.size_alloc]; omega
  · rw [World.size_alloc, World.size_alloc]; omega
theorem W3_boxes (w : World) (A : Option Addr) (n c : Nat) (o K I At : Int) (F : ByteArray) (B : Int) : (W3 w A n c o K I At F B).heap[w.heap.size]? = some (.cells #[.slice A n c, .int .i64 o] 47 (0, 0)) ∧ (W3 w A n c o K I At F B).heap[w.heap.size + 1]? = some (.cells (boxA K I At F B) 52 (0, 0)) ∧ (W3 w A n c o K I At F B).heap[w.heap.size + 2]? = some (.cells #[.slice none 0 0, .int .i64 0] 47 (0, 0)) := by
  have e1 : (w.alloc (.cells #[.slice A n c, .int .i64 o] 47 (0, 0))).heap.size = w.heap.size + 1 := World.size_alloc _ _
  have e2 : ((w.alloc (.cells #[.slice A n c, .int .i64 o] 47 (0, 0))).alloc (.cells (boxA K I At F B) 52 (0, 0))).heap.size = w.heap.size + 2 := by rw [World.size_alloc, e1]
  refine ⟨blk_alloc (blk_alloc (blk_new w _) _) _, ?_, ?_⟩
  · have h := blk_alloc (blk_new (w.alloc (.cells #[.slice A n c, .int .i64 o] 47 (0, 0))) (.cells (boxA K I At F B) 52 (0, 0))) (.cells #[.slice none 0 0, .int .i64 0] 47 (0, 0))
    rwa [e1] at h
  · have h := blk_new ((w.alloc (.cells #[.slice A n c, .int .i64 o] 47 (0, 0))).alloc (.cells (boxA K I At F B) 52 (0, 0))) (.cells #[.slice none 0 0, .int .i64 0] 47 (0, 0))
    rwa [e2] at h
theorem Ref.kept2 {S T : Nat → Prop} {base : Nat} {W W' : World} {A : Option Addr} {c : Nat} {l : List PC} (h : Ref S W A c l) (hs : ∀ k, S k → T k) (hk : Kept W W' (ap base T)) : Ref S W' A c l :=
  ⟨Kd.V_kept h.1 hk (fun k hS ha => ha.2 (hs k hS)), fun k hS => Nat.lt_of_lt_of_le (h.2 k hS) hk.1⟩
/-- A store into a block that is none of the net's. -/
theorem NetAt.put {base : Nat} {T : Nat → Prop} {W : World} {g : Nat} {X : NX} (h : NetAt base (ap base T) W g X) (b j : Nat) (u : Value) (hb : T b) : NetAt base (ap base T) (W.setCell ⟨b, j, none⟩ u) g X := by
  obtain ⟨A, c, h1, h2, h3, h4, h5⟩ := h
  exact ⟨A, c, blk_far (p := ⟨b, j, none⟩) h1 (fun e => h3.2 (by rw [e]; exact hb)) u, h2, h3, Kd.R_far (p := ⟨b, j, none⟩) h4 (fun k hk e => hk.2 (by rw [e]; exact hb)) u, h5⟩
theorem Ref.put {S : Nat → Prop} {W : World} {A : Option Addr} {c : Nat} {l : List PC} (h : Ref S W A c l) (b j : Nat) (u : Value) (hb : ¬ S b) : Ref S (W.setCell ⟨b, j, none⟩ u) A c l :=
  ⟨Kd.V_far (p := ⟨b, j, none⟩) h.1 (fun k hk e => hb (by have e2 : k = b := e; rw [← e2]; exact hk)) u, fun k hk => by simpa [World.setCell] using h.2 k hk⟩
theorem Ref.wide {S T : Nat → Prop} {W : World} {A : Option Addr} {c : Nat} {l : List PC} (h : Ref S W A c l) (hs : ∀ k, S k → T k) (hT : ∀ k, T k → k < W.heap.size) : Ref T W A c l := ⟨Kd.V_mono h.1 hs, hT⟩
theorem rmove_any (S : Nat → Prop) (A : Option Addr) (c : Nat) (X : NX) (i : Int) (w : World) (h : Ref S w A c X.way) (hl : X.way.length ≤ 256) :
    Calls Try.prog 26 #[.agg #[.slice A X.way.length c, .int .i64 X.lost], .int .i64 i] w fun e w' => ∃ A' c', e = .returned (.tuple #[.agg #[.slice A' (nMove X i).1.way.length c', .int .i64 (nMove X i).1.lost], .int .i64 (nMove X i).2]) ∧ Ref (grew S w w') w' A' c' (nMove X i).1.way ∧ Below w.heap.size w w' := by
  obtain ⟨hc, hC⟩ := h.reads
  by_cases hi : i < 0 ∨ i ≥ X.way.length
  · have e0 : nMove X i = (X, 8) := by unfold nMove; rw [if_pos hi]
    rw [e0]
    refine (rmove_none A c X.way X.lost i w hC hc hi).mono ?_
    rintro e w' ⟨rfl, hb⟩
    exact ⟨A, c, rfl, h.grow hb, hb⟩
  · obtain ⟨n, rfl⟩ : ∃ n : Nat, i = (n : Int) := ⟨i.toNat, (Int.toNat_of_nonneg (by omega)).symm⟩
    have e0 : nMove X (n : Int) = (⟨X.way.eraseIdx n ++ [pcl X.way n], X.lost⟩, 0) := by unfold nMove; rw [if_neg hi, Int.toNat_natCast]
    rw [e0]
    refine (rmove_some A c X.way X.lost n w hC hc (by omega) hl).mono ?_
    rintro e w' ⟨v0, rfl, hR, hb⟩
    obtain ⟨A', c', rfl, h2⟩ := Ref.new (S := S) h.2 hb (Kd.V_mono (Kd.R_V (Kd.R_bound hR)) (fun k hk => .inr hk.2.1))
    exact ⟨A', c', rfl, h2, hb⟩
set_option maxHeartbeats 8000000 in
set_option maxRecDepth 100000 in
theorem does_move (base : Nat) (S T : Nat → Prop) (g : Nat) (X : NX) (A : Option Addr) (c : Nat) (I At : Int) (F : ByteArray) (B : Int) (w : World) (hN : NetAt base (ap base T) w g X) (hR : Ref S w A c X.way) (hST : ∀ k, S k → T k) (hT : ∀ k, T k → k < w.heap.size) (hb : base ≤ w.heap.size) :
    Calls Try.prog 17 #[.pointer (some ⟨g, 0, none⟩), .agg #[.slice A X.way.length c, .int .i64 X.lost], .agg #[.int .i64 4, .int .i64 I, .int .i64 At, .string F, .int .u32 B]] w fun e w' => DPost base S T w g (nMove X I).1 e w' := by
  have HN := Aside0.mk hN
  have HR := Aside0.mk hR
  have HST := Aside0.mk hST
  have HTT := Aside0.mk hT
  clear hST hT
  have HB := Aside0.mk hb
  have HL := Aside0.mk (show X.way.length ≤ 256 by obtain ⟨_, _, _, _, _, _, h5⟩ := hN; exact h5)
  have BW := Aside0.mk (W3_below w A X.way.length c X.lost 4 I At F B)
  have SW := Aside0.mk (W3_size w A X.way.length c X.lost 4 I At F B)
  have KW := Aside0.mk (W3_boxes w A X.way.length c X.lost 4 I At F B)
  have N3 := Aside0.mk (hN.beside_new BW.out)
  have L3 := Aside0.mk (show base ≤ (W3 w A X.way.length c X.lost 4 I At F B).heap.size by rw [SW.out]; omega)
  clear hN hR hb
  go_enter Try.func17, Try.ntmps17
  go_wp2_with (first
    | (go_at_call 18; go_loud (refine (move_calls base _ g X I _ N3.out (grew_fresh HTT.out BW.out L3.out)).mono ?_); rintro e w1 ⟨rfl, hb, hk, hN1⟩; have B1 := Aside0.mk hb; have N1 := Aside0.mk hN1; have R1 := Aside0.mk ((HR.out.below BW.out).kept2 (fun k hk => .inl (HST.out k hk)) hk); have K1 := Aside0.mk (kept_first BW.out hk); have Z1 := Aside0.mk (show w.heap.size + 3 ≤ w1.heap.size by have := hk.1; rw [SW.out] at this; exact this); have J4 := Aside0.mk (blk_kept KW.out.1 hk (fun hh => hh.2 (.inr ⟨Nat.le_refl _, by rw [SW.out]; omega⟩))); have J5 := Aside0.mk (blk_kept KW.out.2.1 hk (fun hh => hh.2 (.inr ⟨by omega, by rw [SW.out]; omega⟩))); have J6 := Aside0.mk (blk_kept KW.out.2.2 hk (fun hh => hh.2 (.inr ⟨by omega, by rw [SW.out]; omega⟩))); have z0 := blk_cell J4.out 0; have z1 := blk_cell J4.out 1; have z2 := blk_cell J5.out 1; simp [boxA] at z0 z1 z2; clear hb hk hN1)
    | (go_at_call 26; go_loud (refine (rmove_any _ A c X I _ R1.out HL.out).mono ?_); rintro e w2 ⟨A2, c2, rfl, hR2, hb2⟩; have K2 := Aside0.mk (K1.out.below hb2); have W12 := Aside0.mk hb2.size; have B2 := Aside0.mk (below_then B1.out (Nat.le_trans L3.out B1.out.size) hb2); have N2 := Aside0.mk (N1.out.beside_new hb2); have R2 := Aside0.mk hR2; have M4 := Aside0.mk (blk_below J4.out hb2); have M6 := Aside0.mk (blk_below J6.out hb2); have y0 := blk_cell M4.out 0; have y1 := blk_cell M4.out 1; have y2 := blk_frozen M4.out 0; have y3 := blk_frozen M4.out 1; have y4 := blk_cell M6.out 0; have y5 := blk_cell M6.out 1; have y6 := blk_frozen M6.out 0; have y7 := blk_frozen M6.out 1; simp at y0 y1 y4 y5; clear hR2 hb2))
  have n0 : ¬ grew S w1 w2 w.heap.size := fun h => h.elim (fun h => by have := HR.out.2 _ h; omega) (fun h => by have := Z1.out; omega)
  have n2 : ¬ grew S w1 w2 (w.heap.size + 2) := fun h => h.elim (fun h => by have := HR.out.2 _ h; omega) (fun h => by have := Z1.out; omega)
  have t0 : grew (grew T w (W3 w A X.way.length c X.lost 4 I At F B)) w1 w2 w.heap.size := .inl (.inr ⟨Nat.le_refl _, by rw [SW.out]; omega⟩)
  have t2 : grew (grew T w (W3 w A X.way.length c X.lost 4 I At F B)) w1 w2 (w.heap.size + 2) := .inl (.inr ⟨by omega, by rw [SW.out]; omega⟩)
  have m4 := blk_far (p := ⟨w.heap.size, 1, none⟩) (blk_far (p := ⟨w.heap.size, 0, none⟩) M6.out (show w.heap.size + 2 ≠ w.heap.size by omega) (.slice A2 (nMove X I).1.way.length c2)) (show w.heap.size + 2 ≠ w.heap.size by omega) (.int .i64 (nMove X I).1.lost)
  have m6 := blk_set (blk_set m4 0 (.slice A2 (nMove X I).1.way.length c2)) 1 (.int .i64 (nMove X I).1.lost)
  simp at m6
  have NF := (((N2.out.put _ 0 (.slice A2 (nMove X I).1.way.length c2) t0).put _ 1 (.int .i64 (nMove X I).1.lost) t0).put _ 0 (.slice A2 (nMove X I).1.way.length c2) t2).put _ 1 (.int .i64 (nMove X I).1.lost) t2
  have RF := (((R2.out.put _ 0 (.slice A2 (nMove X I).1.way.length c2) n0).put _ 1 (.int .i64 (nMove X I).1.lost) n0).put _ 0 (.slice A2 (nMove X I).1.way.length c2) n2).put _ 1 (.int .i64 (nMove X I).1.lost) n2
  have b0 := HB.out
  have BF : Below base w w2 := (BW.out.mono b0).trans B2.out
  refine bodyPost_ret (results_ct rfl _ _ (w.heap.size + 2) 47 #[.slice A2 (nMove X I).1.way.length c2, .int .i64 (nMove X I).1.lost] (0, 0) _ rfl m6 Try.underlying47 rfl (by kernel_rfl)) rfl (dpost HST.out NF RF (show w.heap.size ≤ w1.heap.size by have := Z1.out; omega) ((((BF.setCell (p := ⟨w.heap.size, 0, none⟩) b0 _).setCell (p := ⟨w.heap.size, 1, none⟩) b0 _).setCell (p := ⟨w.heap.size + 2, 0, none⟩) (show base ≤ w.heap.size + 2 by omega) _).setCell (p := ⟨w.heap.size + 2, 1, none⟩) (show base ≤ w.heap.size + 2 by omega) _) ((((K2.out.setCell (p := ⟨w.heap.size, 0, none⟩) (.inr (Nat.le_refl _)) _).setCell (p := ⟨w.heap.size, 1, none⟩) (.inr (Nat.le_refl _)) _).setCell (p := ⟨w.heap.size + 2, 0, none⟩) (.inr (Nat.le_add_right _ _)) _).setCell (p := ⟨w.heap.size + 2, 1, none⟩) (.inr (Nat.le_add_right _ _)) _) ?_)
  intro k hk
  have s1 : k < w2.heap.size := hk.elim (fun h => h.elim (fun h => by have := HTT.out _ h; have := Z1.out; have := W12.out; omega) (fun h => by have := h.2; rw [SW.out] at this; have := Z1.out; have := W12.out; omega)) (fun h => h.2)
  simpa [World.setCell] using s1
end Go.Proofs.Ytmcdgachfkkpeaa.ONet
