/- tillerref16.Move, walked by hand. -/
import Derived.Test.YtmcdgachfkkpeaaONRTake
set_option linter.unusedVariables false
set_option linter.unusedSimpArgs false
namespace Go.Proofs.Ytmcdgachfkkpeaa.ONet
open Go.RowKit Go.Proofs.YtmcdgachfkkpeaaW.PrintWords Go.Proofs.YtmcdgachfkkpeaaW.PrintLast Go.Proofs.YtmcdgachfkkpeaaW.PrintMore Go.Proofs.Ytmcdgachfkkpeaa.GQ
def W2 (w : World) (A : Option Addr) (n c : Nat) (o : Int) : World := (w.alloc (.cells #[.slice A n c, .int .i64 o] 47 (0, 0))).alloc (.cells #[.slice none 0 0, .int .i64 0] 47 (0, 0))
theorem W2_size (w : World) (A : Option Addr) (n c : Nat) (o : Int) : (W2 w A n c o).heap.size = w.heap.size + 2 := by
  unfold W2
  rw [World.size_alloc, World.size_alloc]
theorem W2_below (w : World) (A : Option Addr) (n c : Nat) (o : Int) : Below w.heap.size w (W2 w A n c o) := by
  unfold W2
  refine Below.alloc (Below.alloc (Below.refl _ _) (Nat.le_refl _) _) ?_ _
  rw [World.size_alloc]; omega
theorem W2_boxes (w : World) (A : Option Addr) (n c : Nat) (o : Int) : (W2 w A n c o).heap[w.heap.size]? = some (.cells #[.slice A n c, .int .i64 o] 47 (0, 0)) ∧ (W2 w A n c o).heap[w.heap.size + 1]? = some (.cells #[.slice none 0 0, .int .i64 0] 47 (0, 0)) := by
  have e1 : (w.alloc (.cells #[.slice A n c, .int .i64 o] 47 (0, 0))).heap.size = w.heap.size + 1 := World.size_alloc _ _
  refine ⟨blk_alloc (blk_new w _) _, ?_⟩
  have h := blk_new (w.alloc (.cells #[.slice A n c, .int .i64 o] 47 (0, 0))) (.cells #[.slice none 0 0, .int .i64 0] 47 (0, 0))
  rwa [e1] at h
set_option maxHeartbeats 8000000 in
set_option maxRecDepth 100000 in
theorem rmove_some (A : Option Addr) (c : Nat) (l : List PC) (o : Int) (i : Nat) (w : World) (h : kR.C w A l.length (l.map cv)) (hc : l.length ≤ c) (hi : i < l.length) (hl : l.length ≤ 256) :
    Calls Try.prog 26 #[.agg #[.slice A l.length c, .int .i64 o], .int .i64 (i : Int)] w fun e w' => ∃ v0, e = .returned (.tuple #[.agg #[v0, .int .i64 o], .int .i64 0]) ∧ kR.R 53 w' w.heap.size (fun _ => True) v0 ((l.eraseIdx i ++ [pcl l i]).map cv) ∧ Below w.heap.size w w' := by
  obtain ⟨p, hp⟩ : ∃ p, pcl l i = p := ⟨_, rfl⟩
  have EP := Aside0.mk hp
  rw [hp]
  obtain ⟨L, hL⟩ : ∃ L, l.eraseIdx i = L := ⟨_, rfl⟩
  have EL := Aside0.mk hL
  rw [hL]
  have hll : L.length ≤ 256 := by rw [← hL, List.length_eraseIdx]; split <;> omega
  have BW := Aside0.mk (W2_below w A l.length c o)
  have SW := Aside0.mk (W2_size w A l.length c o)
  obtain ⟨k2, k4⟩ := W2_boxes w A l.length c o
  have K4 := Aside0.mk k4
  have HC := Aside0.mk (Kd.C_below h BW.out)
  clear h k2 k4 hp hL
  go_enter Try.func26, Try.ntmps26
  go_wp2_with (first
    | (go_at_call 24; refine (rtake_some A c l o i _ HC.out hc hi hl).mono ?_; rw [EP.out, EL.out]; rintro e w1 ⟨v0, rfl, hR, hb⟩; obtain ⟨A0, c0, rfl⟩ := Kd.R_slice hR; rw [List.length_map] at hR ⊢; have R1 := Aside0.mk (Kd.R_alloc (Kd.R_alloc hR (.cells #[.slice A0 L.length c0, .int .i64 o] 47 (0, 0))) (.cells #[.int .i64 p.f0, .string p.f1, .bool p.f2] 53 (0, 0))); have LT := Aside0.mk (Kd.R_lt hR); have B1 := Aside0.mk (((below_then BW.out BW.out.size (hb.mono (Nat.le_refl _))).alloc (Nat.le_trans BW.out.size hb.size) (.cells #[.slice A0 L.length c0, .int .i64 o] 47 (0, 0))).alloc (by rw [World.size_alloc]; exact Nat.le_trans (Nat.le_trans BW.out.size hb.size) (Nat.le_succ _)) (.cells #[.int .i64 p.f0, .string p.f1, .bool p.f2] 53 (0, 0))); have J6 := Aside0.mk (blk_alloc (blk_new w1 (.cells #[.slice A0 L.length c0, .int .i64 o] 47 (0, 0))) (.cells #[.int .i64 p.f0, .string p.f1, .bool p.f2] 53 (0, 0))); have J4 := Aside0.mk (blk_alloc (blk_alloc (blk_below K4.out hb) (.cells #[.slice A0 L.length c0, .int .i64 o] 47 (0, 0))) (.cells #[.int .i64 p.f0, .string p.f1, .bool p.f2] 53 (0, 0))); have SZ := Aside0.mk (show w.heap.size + 2 ≤ w1.heap.size by have := hb.size; rw [SW.out] at this; exact this); clear hR hb)
    | ((with_reducible refine gate_builtin (b := .append) (xs := #[.tmp 21, .tmp 23]) rfl ?_); go_loud (refine Kd.R_append kR (w0 := w) w.heap.size rfl (.tmp 21) (.tmp 23) 45 53 (.agg #[.int .i64 0, .string ⟨#[]⟩, .bool false]) 32 rfl Try.underlying45 info53 rfl (by decide) (by omega) (.slice A0 L.length c0) (L.map cv) (cv p) [.int .i64 p.f0, .string p.f1, .bool p.f2] (fun _ => True) (fun _ => False) (by simp [Act.eval, Act.put]) (by simp [Act.eval, Act.put]) ?aP (fun _ hk => hk.elim) (fun _ _ => trivial) ?aO B1.out B1.out.size ?aL ?_); (case aP => exact k53_mkM _ _ _ (cv p)); (case aO => exact Kd.R_lower R1.out BW.out.size); (case aL => rw [List.length_map]; omega); intro v1 w3 ho hb hg hat; obtain ⟨A2, c2, rfl⟩ := Kd.R_slice ho; have R3 := Aside0.mk ho; have B3 := Aside0.mk hb; have M6 := Aside0.mk (blk_grown J6.out hg (fun e => by have := LT.out _ e.symm; omega)); have M4 := Aside0.mk (blk_grown J4.out hg (fun e => by have h7 := Kd.R_base R1.out _ e.symm; rw [SW.out] at h7; omega)); have z0 := blk_cell M6.out 0; have z1 := blk_cell M6.out 1; have z2 := blk_frozen M6.out 0; have z3 := blk_frozen M4.out 0; have z4 := blk_frozen M4.out 1; have z5 := blk_cell M4.out 0; have z6 := blk_cell M4.out 1; simp at z0 z1 z5 z6; have ne1 : ¬ w1.heap.size = w.heap.size + 1 := (by have := SZ.out; omega); clear ho hb hg hat))
  have hlen : (L.map cv ++ [cv p]).length = L.length + 1 := by simp
  have hR := R3.out
  rw [hlen] at hR
  have m4 := blk_far (p := ⟨w1.heap.size, 0, none⟩) M4.out (fun e => ne1 e.symm) (.slice A2 (L.length + 1) c2)
  have m5 := blk_set m4 0 (.slice A2 (L.length + 1) c2)
  have m6 := blk_set m5 1 (.int .i64 o)
  simp at m6
  have hmap : (L ++ [p]).map cv = L.map cv ++ [cv p] := by simp
  have le1 : w.heap.size ≤ w1.heap.size := by have := SZ.out; omega
  refine bodyPost_ret (results_ct rfl _ _ (w.heap.size + 1) 47 #[.slice A2 (L.length + 1) c2, .int .i64 o] (0, 0) _ rfl m6 Try.underlying47 rfl (by kernel_rfl)) rfl ⟨_, rfl, ?_, ?_⟩
  · rw [hmap]
    exact Kd.R_set (Kd.R_set (Kd.R_set hR M6.out (by decide) 0 _) m4 (by decide) 0 _) m5 (by decide) 1 _
  · exact ((B3.out.setCell le1 _).setCell (show w.heap.size ≤ w.heap.size + 1 by omega) _).setCell (show w.heap.size ≤ w.heap.size + 1 by omega) _
set_option maxHeartbeats 8000000 in
set_option maxRecDepth 100000 in
theorem rmove_none (A : Option Addr) (c : Nat) (l : List PC) (o i : Int) (w : World) (h : kR.C w A l.length (l.map cv)) (hc : l.length ≤ c) (hi : i < 0 ∨ i ≥ l.length) :
    Calls Try.prog 26 #[.agg #[.slice A l.length c, .int .i64 o], .int .i64 i] w fun e w' => e = .returned (.tuple #[.agg #[.slice A l.length c, .int .i64 o], .int .i64 8]) ∧ Below w.heap.size w w' := by
  have BW := Aside0.mk (W2_below w A l.length c o)
  have SW := Aside0.mk (W2_size w A l.length c o)
  obtain ⟨k2, k4⟩ := W2_boxes w A l.length c o
  have K4 := Aside0.mk k4
  have K2 := Aside0.mk k2
  have HC := Aside0.mk (Kd.C_below h BW.out)
  clear h k2 k4
  go_enter Try.func26, Try.ntmps26
  go_wp2_with (first
    | (go_at_call 24; refine (rtake_none A l.length c l o i _ HC.out hc hi).mono ?_; rintro e w1 ⟨rfl, hb⟩; have B1 := Aside0.mk (below_then BW.out BW.out.size (hb.mono (Nat.le_refl _))); have SZ := Aside0.mk (show w.heap.size + 2 ≤ w1.heap.size by have := hb.size; rw [SW.out] at this; exact this); have J2 := Aside0.mk (blk_alloc (blk_alloc (blk_below K2.out hb) (.cells #[.slice A l.length c, .int .i64 o] 47 (0, 0))) (.cells #[.int .i64 0, .string ⟨#[]⟩, .bool false] 53 (0, 0))); have J4 := Aside0.mk (blk_alloc (blk_alloc (blk_below K4.out hb) (.cells #[.slice A l.length c, .int .i64 o] 47 (0, 0))) (.cells #[.int .i64 0, .string ⟨#[]⟩, .bool false] 53 (0, 0))); have B2 := Aside0.mk ((B1.out.alloc (Nat.le_trans BW.out.size hb.size) (.cells #[.slice A l.length c, .int .i64 o] 47 (0, 0))).alloc (by rw [World.size_alloc]; exact Nat.le_trans (Nat.le_trans BW.out.size hb.size) (Nat.le_succ _)) (.cells #[.int .i64 0, .string ⟨#[]⟩, .bool false] 53 (0, 0))); have z0 := blk_cell J2.out 0; have z1 := blk_cell J2.out 1; have z3 := blk_frozen J4.out 0; have z4 := blk_frozen J4.out 1; have z5 := blk_cell J4.out 0; have z6 := blk_cell J4.out 1; simp at z0 z1 z5 z6; clear hb))
  have m5 := blk_set J4.out 0 (.slice A l.length c)
  have m6 := blk_set m5 1 (.int .i64 o)
  simp at m6
  refine bodyPost_ret (results_ct rfl _ _ (w.heap.size + 1) 47 #[.slice A l.length c, .int .i64 o] (0, 0) _ rfl m6 Try.underlying47 rfl (by kernel_rfl)) rfl ⟨rfl, ?_⟩
  exact (B2.out.setCell (show w.heap.size ≤ w.heap.size + 1 by omega) _).setCell (show w.heap.size ≤ w.heap.size + 1 by omega) _
end Go.Proofs.Ytmcdgachfkkpeaa.ONet
