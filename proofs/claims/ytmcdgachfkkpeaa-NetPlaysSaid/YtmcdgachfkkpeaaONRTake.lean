/- tillerref16's Take and Move, walked by hand. -/
import Derived.Test.YtmcdgachfkkpeaaURef16
set_option linter.unusedVariables false
set_option linter.unusedSimpArgs false
namespace Go.Proofs.Ytmcdgachfkkpeaa.ONet
open Go.RowKit Go.Proofs.YtmcdgachfkkpeaaW.PrintWords Go.Proofs.YtmcdgachfkkpeaaW.PrintLast Go.Proofs.YtmcdgachfkkpeaaW.PrintMore Go.Proofs.Ytmcdgachfkkpeaa.GQ
abbrev kR := k53
def aggR (p : PR) : Value := .agg #[.int .i64 p.f0, .string p.f1, .bool p.f2]
set_option maxHeartbeats 8000000 in
set_option maxRecDepth 100000 in
theorem rtake_none (A : Option Addr) (n c : Nat) (l : List PC) (o i : Int) (w : World) (h : kR.C w A l.length (l.map cv)) (hc : l.length ≤ c) (hi : i < 0 ∨ i ≥ l.length) :
    Calls Try.prog 24 #[.agg #[.slice A l.length c, .int .i64 o], .int .i64 i] w fun e w' => e = .returned (.tuple #[.agg #[.slice A l.length c, .int .i64 o], .agg #[.int .i64 0, .string ⟨#[]⟩, .bool false], .int .i64 8]) ∧ Below w.heap.size w w' := by
  have hd : decide (i ≥ 0) = false ∨ (decide (i ≥ 0) = true ∧ decide (i < (l.length : Int)) = false) := by
    by_cases h0 : i ≥ 0
    · exact .inr ⟨decide_eq_true h0, decide_eq_false (by omega)⟩
    · exact .inl (decide_eq_false h0)
  have E1 : (w.alloc (.cells #[.slice A l.length c, .int .i64 o] 47 (0, 0))).heap.size = w.heap.size + 1 := World.size_alloc _ _
  have E2 : ((w.alloc (.cells #[.slice A l.length c, .int .i64 o] 47 (0, 0))).alloc (.cells #[.slice A l.length c, .int .i64 o] 47 (0, 0))).heap.size = w.heap.size + 1 + 1 := by rw [World.size_alloc, E1]
  have K4 := blk_alloc (blk_alloc (blk_new (w.alloc (.cells #[.slice A l.length c, .int .i64 o] 47 (0, 0))) (.cells #[.slice A l.length c, .int .i64 o] 47 (0, 0))) (.cells zcells 53 (0, 0))) (.cells #[.slice A l.length c, .int .i64 o] 47 (0, 0))
  rw [E1] at K4
  have K5 := blk_alloc (blk_new ((w.alloc (.cells #[.slice A l.length c, .int .i64 o] 47 (0, 0))).alloc (.cells #[.slice A l.length c, .int .i64 o] 47 (0, 0))) (.cells zcells 53 (0, 0))) (.cells #[.slice A l.length c, .int .i64 o] 47 (0, 0))
  rw [E2] at K5
  have KK := Aside0.mk (And.intro K4 K5)
  have hb := ((((Below.refl w.heap.size w).alloc (Nat.le_refl _) (.cells #[.slice A l.length c, .int .i64 o] 47 (0, 0))).alloc (by rw [E1]; omega) (.cells #[.slice A l.length c, .int .i64 o] 47 (0, 0))).alloc (by rw [E2]; omega) (.cells zcells 53 (0, 0))).alloc (by rw [World.size_alloc, E2]; omega) (.cells #[.slice A l.length c, .int .i64 o] 47 (0, 0))
  have BB := Aside0.mk hb
  clear h hi E1 E2 K4 K5 hb
  rcases hd with d1 | ⟨d1, d2⟩
  all_goals (
    go_enter Try.func24, Try.ntmps24
    go_wp2
    refine bodyPost_ret (results_list (rs := [.cell 4 47, .cell 5 53, .tmp 6]) rfl (by simp) (.cell (w.heap.size + 1) 47 #[.slice A l.length c, .int .i64 o] (0, 0) _ rfl KK.out.1 Try.underlying47 rfl (by kernel_rfl) (.cell (w.heap.size + 1 + 1) 53 #[.int .i64 0, .string (⟨#[]⟩ : ByteArray), .bool false] (0, 0) _ rfl KK.out.2 Try.underlying53 rfl (by kernel_rfl) (.tmp .nil)))) rfl ?_
    exact ⟨rfl, BB.out⟩)
def W4 (w : World) (A : Option Addr) (n c : Nat) (o : Int) : World := (((w.alloc (.cells #[.slice A n c, .int .i64 o] 47 (0, 0))).alloc (.cells #[.slice none 0 0, .int .i64 0] 47 (0, 0))).alloc (.cells #[.int .i64 0, .string ⟨#[]⟩, .bool false] 53 (0, 0))).alloc (.cells #[.slice A n c, .int .i64 o] 47 (0, 0))
theorem W4_size (w : World) (A : Option Addr) (n c : Nat) (o : Int) : (W4 w A n c o).heap.size = w.heap.size + 4 := by
  unfold W4
  rw [World.size_alloc, World.size_alloc, World.size_alloc, World.size_alloc]
theorem W4_below (w : World) (A : Option Addr) (n c : Nat) (o : Int) : Below w.heap.size w (W4 w A n c o) := by
  unfold W4
  refine Below.alloc (Below.alloc (Below.alloc (Below.alloc (Below.refl _ _) (Nat.le_refl _) _) ?_ _) ?_ _) ?_ _
  · rw [World.size_alloc]; omega
  · rw [World.size_alloc, World.size_alloc]; omega
  · rw [World.size_alloc, World.size_alloc, World.size_alloc]; omega
theorem W4_boxes (w : World) (A : Option Addr) (n c : Nat) (o : Int) : (W4 w A n c o).heap[w.heap.size]? = some (.cells #[.slice A n c, .int .i64 o] 47 (0, 0)) ∧ (W4 w A n c o).heap[w.heap.size + 1]? = some (.cells #[.slice none 0 0, .int .i64 0] 47 (0, 0)) ∧ (W4 w A n c o).heap[w.heap.size + 2]? = some (.cells #[.int .i64 0, .string ⟨#[]⟩, .bool false] 53 (0, 0)) := by
  have e1 : (w.alloc (.cells #[.slice A n c, .int .i64 o] 47 (0, 0))).heap.size = w.heap.size + 1 := World.size_alloc _ _
  have e2 : ((w.alloc (.cells #[.slice A n c, .int .i64 o] 47 (0, 0))).alloc (.cells #[.slice none 0 0, .int .i64 0] 47 (0, 0))).heap.size = w.heap.size + 2 := by rw [World.size_alloc, e1]
  refine ⟨blk_alloc (blk_alloc (blk_alloc (blk_new w _) _) _) _, ?_, ?_⟩
  · have h := blk_alloc (blk_alloc (blk_new (w.alloc (.cells #[.slice A n c, .int .i64 o] 47 (0, 0))) (.cells #[.slice none 0 0, .int .i64 0] 47 (0, 0))) (.cells #[.int .i64 0, .string ⟨#[]⟩, .bool false] 53 (0, 0))) (.cells #[.slice A n c, .int .i64 o] 47 (0, 0))
    rwa [e1] at h
  · have h := blk_alloc (blk_new ((w.alloc (.cells #[.slice A n c, .int .i64 o] 47 (0, 0))).alloc (.cells #[.slice none 0 0, .int .i64 0] 47 (0, 0))) (.cells #[.int .i64 0, .string ⟨#[]⟩, .bool false] 53 (0, 0))) (.cells #[.slice A n c, .int .i64 o] 47 (0, 0))
    rwa [e2] at h
theorem there_calls (A : Option Addr) (n c : Nat) (o : Int) (i : Nat) (w : World) (hi : i < n) :
    Calls Try.prog 30 #[.agg #[.slice A n c, .int .i64 o], .int .i64 (i : Int)] w fun e w' => e = .returned (.bool true) ∧ w' = w.alloc (.cells #[.slice A n c, .int .i64 o] 47 (0, 0)) := by
  have d1 : decide ((i : Int) ≥ 0) = true := decide_eq_true (by omega)
  have d2 : decide (i < n) = true := decide_eq_true hi
  go_enter Try.func30, Try.ntmps30
  go_wp2
  go_ret
  exact ⟨rfl, rfl⟩
set_option maxHeartbeats 8000000 in
set_option maxRecDepth 100000 in
theorem rtake_some (A : Option Addr) (c : Nat) (l : List PC) (o : Int) (i : Nat) (w : World) (h : kR.C w A l.length (l.map cv)) (hc : l.length ≤ c) (hi : i < l.length) (hl : l.length ≤ 256) :
    Calls Try.prog 24 #[.agg #[.slice A l.length c, .int .i64 o], .int .i64 (i : Int)] w fun e w' => ∃ v0, e = .returned (.tuple #[.agg #[v0, .int .i64 o], .agg #[.int .i64 (pcl l i).f0, .string (pcl l i).f1, .bool (pcl l i).f2], .int .i64 0]) ∧ kR.R 53 w' w.heap.size (fun _ => True) v0 ((l.eraseIdx i).map cv) ∧ Below w.heap.size w w' := by
  have d1 : decide ((i : Int) ≥ 0) = true := decide_eq_true (by omega)
  have d2 : decide (i < l.length) = true := decide_eq_true hi
  have p1 : 0 ≤ (i : Int) := by omega
  have q1 : (i : Int) < (l.length : Int) := by omega
  obtain ⟨ad, e0, hx0, hx1, hx2⟩ := at_T53 h (i : Int) p1 q1
  cases e0
  rw [ref_at l i hi, Int.toNat_natCast] at hx0 hx1 hx2
  obtain ⟨p, hp⟩ : ∃ p, pcl l i = p := ⟨_, rfl⟩
  rw [hp] at hx0 hx1 hx2 ⊢
  have BW := Aside0.mk (W4_below w (some ad) l.length c o)
  have SW := Aside0.mk (W4_size w (some ad) l.length c o)
  obtain ⟨k2, k4, k5⟩ := W4_boxes w (some ad) l.length c o
  have K2 := Aside0.mk k2
  have K4 := Aside0.mk k4
  have K5 := Aside0.mk k5
  replace hx0 := (BW.out.cell (World.block_lt_of_cell? w _ hx0)).trans hx0
  replace hx1 := (BW.out.cell (World.block_lt_of_cell? w _ hx1)).trans hx1
  replace hx2 := (BW.out.cell (World.block_lt_of_cell? w _ hx2)).trans hx2
  have y0 := blk_cell k2 0
  simp at y0
  have HC := Aside0.mk (Kd.C_below h BW.out)
  have HW := Aside0.mk (ref_without 1000 l i (by omega) (by omega))
  clear h k2 k4 k5 hp
  unfold W4 at hx0 hx1 hx2 y0
  go_enter Try.func24, Try.ntmps24
  go_wp2_with (first
    | (go_at_call 30; refine (there_calls (some ad) l.length c o i _ hi).mono ?_; rintro e w0 ⟨rfl, rfl⟩)
    | (go_at_call 31; (have hw := tillerref16_without.calls 1000 (some ad) c (l.map cv) (i : Int) _ _ (by rw [List.length_map]; exact Kd.C_alloc HC.out (.cells #[.int .i64 p.f0, .string p.f1, .bool p.f2] 53 (0, 0))) (by rw [List.length_map]; exact hc) HW.out); simp only [List.length_map] at hw; go_loud (refine hw.mono ?_); clear hw; rintro e w1 ⟨v0, rfl, hR, hb⟩; obtain ⟨A0, c0, rfl⟩ := Kd.R_slice hR; have R1 := Aside0.mk hR; have B1 := Aside0.mk hb; have J2 := blk_below (blk_alloc K2.out (.cells #[.int .i64 p.f0, .string p.f1, .bool p.f2] 53 (0, 0))) hb; have J4 := blk_below (blk_alloc K4.out (.cells #[.int .i64 p.f0, .string p.f1, .bool p.f2] 53 (0, 0))) hb; have J5 := blk_below (blk_alloc K5.out (.cells #[.int .i64 p.f0, .string p.f1, .bool p.f2] 53 (0, 0))) hb; have J7 := blk_below (blk_new (W4 w (some ad) l.length c o) (.cells #[.int .i64 p.f0, .string p.f1, .bool p.f2] 53 (0, 0))) hb; rw [SW.out] at J7; have L2 := Aside0.mk J2; have L4 := Aside0.mk J4; have L5 := Aside0.mk J5; have L7 := Aside0.mk J7; have z0 := blk_cell J2 0; have z1 := blk_frozen J2 0; simp at z0; clear hR hb J2 J4 J5 J7))
  clear z0 z1 hx0 hx1 hx2 y0
  obtain ⟨L, hL⟩ : ∃ L, (l.eraseIdx i) = L := ⟨_, rfl⟩
  rw [List.length_map, hL] at R1
  have EL := Aside0.mk hL
  have s1 : w.heap.size ≠ w.heap.size + 1 := by omega
  have M2 := blk_set L2.out 0 (.slice A0 L.length c0)
  have M4 := blk_far (p := ⟨w.heap.size, 0, none⟩) L4.out (show w.heap.size + 1 ≠ w.heap.size by omega) (.slice A0 L.length c0)
  have M5 := blk_far (p := ⟨w.heap.size, 0, none⟩) L5.out (show w.heap.size + 2 ≠ w.heap.size by omega) (.slice A0 L.length c0)
  have M7 := blk_far (p := ⟨w.heap.size, 0, none⟩) L7.out (show w.heap.size + 4 ≠ w.heap.size by omega) (.slice A0 L.length c0)
  have hR := Kd.R_far (p := ⟨w.heap.size, 0, none⟩) (Kd.R_mono (Kd.R_bound R1.out) (ok' := fun k => w.heap.size + 5 ≤ k) (fun k hk => by have := hk.2.1; rw [World.size_alloc, SW.out] at this; omega)) (fun k hk => by show k ≠ w.heap.size; omega) (.slice A0 L.length c0)
  have hB : Below w.heap.size w (w1.setCell ⟨w.heap.size, 0, none⟩ (.slice A0 L.length c0)) := (BW.out.trans ((below_alloc (Below.refl _ _) _).trans (B1.out.mono (by rw [World.size_alloc]; omega)) |>.mono (by rw [SW.out]; omega))).setCell (Nat.le_refl _) _
  rw [hL]
  generalize (w1.setCell ⟨w.heap.size, 0, none⟩ (.slice A0 L.length c0)) = w2 at *
  simp at M2
  clear L2 L4 L5 L7
  have c20 : w2.cell? ⟨w.heap.size, 0, none⟩ = _ := blk_cell M2 0
  have c21 : w2.cell? ⟨w.heap.size, 1, none⟩ = _ := blk_cell M2 1
  have c70 : w2.cell? ⟨w.heap.size + 1 + 1 + 1 + 1, 0, none⟩ = _ := blk_cell M7 0
  have c71 : w2.cell? ⟨w.heap.size + 1 + 1 + 1 + 1, 1, none⟩ = _ := blk_cell M7 1
  have c72 : w2.cell? ⟨w.heap.size + 1 + 1 + 1 + 1, 2, none⟩ = _ := blk_cell M7 2
  have f40 : w2.frozen? ⟨w.heap.size + 1, 0, none⟩ = false := blk_frozen M4 0
  have f41 : w2.frozen? ⟨w.heap.size + 1, 1, none⟩ = false := blk_frozen M4 1
  have f50 : w2.frozen? ⟨w.heap.size + 1 + 1, 0, none⟩ = false := blk_frozen M5 0
  have f51 : w2.frozen? ⟨w.heap.size + 1 + 1, 1, none⟩ = false := blk_frozen M5 1
  have f52 : w2.frozen? ⟨w.heap.size + 1 + 1, 2, none⟩ = false := blk_frozen M5 2
  have c40 : w2.cell? ⟨w.heap.size + 1, 0, none⟩ = _ := blk_cell M4 0
  have c41 : w2.cell? ⟨w.heap.size + 1, 1, none⟩ = _ := blk_cell M4 1
  have c50 : w2.cell? ⟨w.heap.size + 1 + 1, 0, none⟩ = _ := blk_cell M5 0
  have c51 : w2.cell? ⟨w.heap.size + 1 + 1, 1, none⟩ = _ := blk_cell M5 1
  have c52 : w2.cell? ⟨w.heap.size + 1 + 1, 2, none⟩ = _ := blk_cell M5 2
  simp at c20 c21 c70 c71 c72 c40 c41 c50 c51 c52
  have HH := Aside0.mk (And.intro M4 (And.intro M5 (And.intro hR hB)))
  clear M2 M4 M5 M7 hR hB s1 hL R1
  go_region
  go_wp2
  obtain ⟨m4, m5, mr, mb⟩ := HH.out
  have n4 := blk_set (blk_set m4 0 (.slice A0 L.length c0)) 1 (.int .i64 o)
  simp at n4
  have n4b := blk_far (p := ⟨w.heap.size + 1 + 1, 2, none⟩) (blk_far (p := ⟨w.heap.size + 1 + 1, 1, none⟩) (blk_far (p := ⟨w.heap.size + 1 + 1, 0, none⟩) n4 (show w.heap.size + 1 ≠ w.heap.size + 1 + 1 by omega) (.int .i64 p.f0)) (show w.heap.size + 1 ≠ w.heap.size + 1 + 1 by omega) (.string p.f1)) (show w.heap.size + 1 ≠ w.heap.size + 1 + 1 by omega) (.bool p.f2)
  have n5 := blk_set (blk_set (blk_set (blk_far (p := ⟨w.heap.size + 1, 1, none⟩) (blk_far (p := ⟨w.heap.size + 1, 0, none⟩) (show w2.heap[w.heap.size + 1 + 1]? = _ from m5) (show w.heap.size + 1 + 1 ≠ w.heap.size + 1 by omega) (.slice A0 L.length c0)) (show w.heap.size + 1 + 1 ≠ w.heap.size + 1 by omega) (.int .i64 o)) 0 (.int .i64 p.f0)) 1 (.string p.f1)) 2 (.bool p.f2)
  simp at n5
  refine bodyPost_ret (results_list (rs := [.cell 4 47, .cell 5 53, .tmp 6]) rfl (by simp) (.cell (w.heap.size + 1) 47 #[.slice A0 L.length c0, .int .i64 o] (0, 0) _ rfl n4b Try.underlying47 rfl (by kernel_rfl) (.cell (w.heap.size + 1 + 1) 53 #[.int .i64 p.f0, .string p.f1, .bool p.f2] (0, 0) _ rfl n5 Try.underlying53 rfl (by kernel_rfl) (.tmp .nil)))) rfl ?_
  have far : ∀ j, w.heap.size + 5 ≤ j → j ≠ w.heap.size + 1 ∧ j ≠ w.heap.size + 1 + 1 := fun j hj => ⟨by omega, by omega⟩
  have r1 := Kd.R_far (p := ⟨w.heap.size + 1, 0, none⟩) mr (fun k hk => (far k hk).1) (.slice A0 L.length c0)
  have r2 := Kd.R_far (p := ⟨w.heap.size + 1, 1, none⟩) r1 (fun k hk => (far k hk).1) (.int .i64 o)
  have r3 := Kd.R_far (p := ⟨w.heap.size + 1 + 1, 0, none⟩) r2 (fun k hk => (far k hk).2) (.int .i64 p.f0)
  have r4 := Kd.R_far (p := ⟨w.heap.size + 1 + 1, 1, none⟩) r3 (fun k hk => (far k hk).2) (.string p.f1)
  have r5 := Kd.R_far (p := ⟨w.heap.size + 1 + 1, 2, none⟩) r4 (fun k hk => (far k hk).2) (.bool p.f2)
  refine ⟨_, rfl, ?_, ?_⟩
  · rw [EL.out]
    exact Kd.R_lower (Kd.R_mono (Kd.R_drew r5) (fun _ _ => trivial)) (by rw [World.size_alloc, SW.out]; omega)
  · exact (((((mb.setCell (show w.heap.size ≤ w.heap.size + 1 by omega) _).setCell (show w.heap.size ≤ w.heap.size + 1 by omega) _).setCell (show w.heap.size ≤ w.heap.size + 1 + 1 by omega) _).setCell (show w.heap.size ≤ w.heap.size + 1 + 1 by omega) _).setCell (show w.heap.size ≤ w.heap.size + 1 + 1 by omega) _).drew
end Go.Proofs.Ytmcdgachfkkpeaa.ONet
