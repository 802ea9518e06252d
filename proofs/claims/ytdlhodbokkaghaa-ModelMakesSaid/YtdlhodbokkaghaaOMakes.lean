/- ModelMakes, walked by hand. Written by this session's program gmakes.py. -/
import Derived.Test.YtdlhodbokkaghaaGQx3
import Derived.Test.YtdlhodbokkaghaaGRCheck
import Derived.Test.YtdlhodbokkaghaaGTold
import Derived.Test.YtdlhodbokkaghaaGRMake
import Derived.Outline
set_option linter.unusedVariables false
set_option linter.unusedSimpArgs false
namespace Go.Proofs.Ytdlhodbokkaghaa.OMakes
open Go.RowKit Go.Proofs.YtdlhodbokkaghaaW.PrintWords Go.Proofs.YtdlhodbokkaghaaW.PrintLast Go.Proofs.YtdlhodbokkaghaaW.PrintMore Go.Proofs.Ytdlhodbokkaghaa.GQ Go.Proofs.Ytdlhodbokkaghaa.U
theorem awake_true : tillerlaw06_awake.f 50 = some true := by decide +kernel
theorem CX {α : Type} {k : Kd α} {w W : World} {A : Option Addr} {c : Nat} {l : List α} (h : k.C w A l.length l ∧ l.length ≤ c) (hb : Below w.heap.size w W) : k.C W A l.length l ∧ l.length ≤ c := ⟨Kd.C_below h.1 hb, h.2⟩
/-- The configuration and the model, cell by cell. -/
abbrev SP (w0 : World) (g0 g1 : Nat) (a0 a1 a2 a3 a4 : Int) (u0 u1 u2 u3 u4 u5 u6 u7 : Value) (W : World) : Prop :=
  (W.cell? ⟨g0, 0, none⟩ = some (.int .i64 a0) ∧ W.cell? ⟨g0, 1, none⟩ = some (.int .i64 a1) ∧ W.cell? ⟨g0, 2, none⟩ = some (.int .i64 a2) ∧ W.cell? ⟨g0, 3, none⟩ = some (.int .i64 a3) ∧ W.cell? ⟨g0, 4, none⟩ = some (.int .i64 a4)) ∧
  (W.cell? ⟨g1, 0, none⟩ = some u0 ∧ W.cell? ⟨g1, 1, none⟩ = some u1 ∧ W.cell? ⟨g1, 2, none⟩ = some u2 ∧ W.cell? ⟨g1, 3, none⟩ = some u3 ∧ W.cell? ⟨g1, 4, none⟩ = some u4 ∧ W.cell? ⟨g1, 5, none⟩ = some u5 ∧ W.cell? ⟨g1, 6, none⟩ = some u6 ∧ W.cell? ⟨g1, 7, none⟩ = some u7) ∧
  W.heap[g0]? = some (.cells (CF a0 a1 a2 a3 a4) 23 (0, 0)) ∧ W.heap[g1]? = some (.cells #[u0, u1, u2, u3, u4, u5, u6, u7] 30 (0, 0)) ∧ Below w0.heap.size w0 W
theorem SP.mk' {w0 W : World} {g0 g1 : Nat} {a0 a1 a2 a3 a4 : Int} {u0 u1 u2 u3 u4 u5 u6 u7 : Value} (h0 : W.heap[g0]? = some (.cells (CF a0 a1 a2 a3 a4) 23 (0, 0))) (h1 : W.heap[g1]? = some (.cells #[u0, u1, u2, u3, u4, u5, u6, u7] 30 (0, 0))) (hb : Below w0.heap.size w0 W) : SP w0 g0 g1 a0 a1 a2 a3 a4 u0 u1 u2 u3 u4 u5 u6 u7 W :=
  ⟨⟨blk_cell h0 0, blk_cell h0 1, blk_cell h0 2, blk_cell h0 3, blk_cell h0 4⟩, ⟨blk_cell h1 0, blk_cell h1 1, blk_cell h1 2, blk_cell h1 3, blk_cell h1 4, blk_cell h1 5, blk_cell h1 6, blk_cell h1 7⟩, h0, h1, hb⟩
theorem SP.keep {w0 W W' : World} {g0 g1 : Nat} {a0 a1 a2 a3 a4 : Int} {u0 u1 u2 u3 u4 u5 u6 u7 : Value} (h : SP w0 g0 g1 a0 a1 a2 a3 a4 u0 u1 u2 u3 u4 u5 u6 u7 W) (hb : Below W.heap.size W W') : SP w0 g0 g1 a0 a1 a2 a3 a4 u0 u1 u2 u3 u4 u5 u6 u7 W' := SP.mk' (blk_below h.2.2.1 hb) (blk_below h.2.2.2.1 hb) (h.2.2.2.2.trans (hb.mono h.2.2.2.2.size))
theorem SP.bel {w0 W : World} {g0 g1 : Nat} {a0 a1 a2 a3 a4 : Int} {u0 u1 u2 u3 u4 u5 u6 u7 : Value} (h : SP w0 g0 g1 a0 a1 a2 a3 a4 u0 u1 u2 u3 u4 u5 u6 u7 W) : Below w0.heap.size w0 W := h.2.2.2.2
theorem blk_mem (d h : Nat) : ∀ (n : Nat) (s : Int), ∀ b ∈ blksOf d h n s, ∃ s', b = blkOf s' d h
  | 0, s, b, hb => by cases hb
  | n + 1, s, b, hb => by
    rcases List.mem_cons.mp hb with rfl | hb
    · exact ⟨s, rfl⟩
    · exact blk_mem d h n _ b hb
theorem sideB_made (r c : Nat) (l : List Int) (h : l.length = r * c) (r1 : 1 ≤ r) (r2 : r ≤ 128) (c1 : 1 ≤ c) (c2 : c ≤ 128) : sideB r c l r c = true := by
  unfold sideB
  refine decide_eq_true ⟨by omega, by omega, by omega, by omega, ?_, rfl, rfl⟩
  rw [h]
  push_cast
  rfl
theorem chk_made (v d hid ly : Nat) (hs : Int) (seed s : Int) (s2 s3 : Int) (h : shp v d hs hid ly = 0) : chk v d hs hid ly v d (rowL seed 131072 (v * d)) (blksOf d hid ly s) (gainL s2 d) v d (rowL s3 65536 (v * d)) = 0 := by
  obtain ⟨⟨v0, v1⟩, ⟨d0, d1⟩, _, ⟨i0, i1⟩, ⟨l0, l1⟩⟩ := shp_ok h
  unfold chk
  rw [if_pos h, if_pos]
  refine ⟨sideB_made v d _ (rowL_length _ _ _) (by omega) (by omega) (by omega) (by omega), sideB_made v d _ (rowL_length _ _ _) (by omega) (by omega) (by omega) (by omega), by rw [gainL_length], by rw [blksLen], ?_⟩
  rw [List.all_eq_true]
  intro b hb
  obtain ⟨s', rfl⟩ := blk_mem _ _ _ _ b hb
  unfold blkB blkOf
  simp only [Bool.and_eq_true, beq_iff_eq]
  refine ⟨sideB_made d d _ (rowL_length _ _ _) (by omega) (by omega) (by omega) (by omega), sideB_made d d _ (rowL_length _ _ _) (by omega) (by omega) (by omega) (by omega), sideB_made d d _ (rowL_length _ _ _) (by omega) (by omega) (by omega) (by omega), sideB_made d d _ (rowL_length _ _ _) (by omega) (by omega) (by omega) (by omega), sideB_made hid d _ (rowL_length _ _ _) (by omega) (by omega) (by omega) (by omega), sideB_made d hid _ (rowL_length _ _ _) (by omega) (by omega) (by omega) (by omega), by rw [gainL_length], by rw [gainL_length]⟩
theorem full_calls' (LR : List BR) (r c : Int) (l2 : List Int) (l3 : List BK) (l4 : List Int) (r' c' : Int) (l7 : List Int) (A2 : Option Addr) (c2 : Nat) (A3 : Option Addr) (c3 : Nat) (A4 : Option Addr) (c4 : Nat) (A7 : Option Addr) (c7 : Nat) (w : World) (ha3 : Kd.C kB w A3 l3.length l3) (m3 : l3.length ≤ 1000) (e : LR = l3.map cvR) :
    Calls Try.prog 12 #[.agg #[.int .i64 r, .int .i64 c, .slice A2 l2.length c2, .slice A3 l3.length c3, .slice A4 l4.length c4, .int .i64 r', .int .i64 c', .slice A7 l7.length c7]] w fun e w' => ∃ A c9, e = .returned (.agg #[.int .i64 r, .int .i64 c, .slice A2 l2.length c2, (.slice A LR.length c9), .slice A4 l4.length c4, .int .i64 r', .int .i64 c', .slice A7 l7.length c7]) ∧ Kd.C kR w' A LR.length LR ∧ LR.length ≤ c9 ∧ Below w.heap.size w w' := by
  subst e
  refine (full_calls r c l2 l3 l4 r' c' l7 A2 c2 A3 c3 A4 c4 A7 c7 w ha3 m3).mono ?_
  rintro e w1 ⟨A, c9, rfl, h1, h2, h3⟩
  rw [← List.length_map (f := cvR)] at h1 h2
  exact ⟨A, c9, by rw [List.length_map], h1, h2, h3⟩
set_option maxHeartbeats 16000000 in
set_option maxRecDepth 100000 in
theorem makes_ok (v d hid ly : Nat) (hs sd : Int) (w : World) (s0 : 0 ≤ sd) (s1 : sd < 18446744073709551616) (hq : shp v d hs hid ly = 0) :
    Calls Try.prog 6 #[.agg (CF v d hs hid ly), .int .u64 sd] w fun e w' => e = .returned (.bool true) ∧ Below w.heap.size w w' := by
  obtain ⟨⟨v0, v1⟩, ⟨d0, d1⟩, _, ⟨i0, i1⟩, ⟨y0, y1⟩⟩ := shp_ok hq
  have hm := make_ok 5000 v d hid ly hs sd (Nat.le_refl _) hq
  have hrm := fun W => rmake_calls v d hid ly hs sd W s0 s1 (by omega) (by omega) (by omega) (by omega)
  have hck := chk_made v d hid ly hs sd (stI sd (v * d)) (blksSt d hid ly (stI sd (v * d))) (stI (blksSt d hid ly (stI sd (v * d))) d) hq
  have m1 : v * d ≤ 64 * 32 := Nat.mul_le_mul (show v ≤ 64 by omega) (show d ≤ 32 by omega)
  have n2 : (rowL sd 131072 (v * d)).length ≤ 100000 := by rw [rowL_length]; omega
  have n4 : (gainL (blksSt d hid ly (stI sd (v * d))) d).length ≤ 100000 := by rw [gainL_length]; omega
  have n7 : (rowL (stI (blksSt d hid ly (stI sd (v * d))) d) 65536 (v * d)).length ≤ 100000 := by rw [rowL_length]; omega
  have m3 : (blksOf d hid ly (stI sd (v * d))).length ≤ 1000 := by rw [blksLen]; omega
  have n3 : ∀ b ∈ (blksOf d hid ly (stI sd (v * d))).map cvR, b.f0.length ≤ 100000 ∧ b.f1.f2.length ≤ 100000 ∧ b.f2.f2.length ≤ 100000 ∧ b.f3.f2.length ≤ 100000 ∧ b.f4.f2.length ≤ 100000 ∧ b.f5.length ≤ 100000 ∧ b.f6.f2.length ≤ 100000 ∧ b.f7.f2.length ≤ 100000 := by
    intro b hb
    obtain ⟨b', hb', rfl⟩ := List.mem_map.mp hb
    obtain ⟨s', rfl⟩ := blk_mem _ _ _ _ b' hb'
    have h1 : d * d ≤ 32 * 32 := Nat.mul_le_mul (by omega) (by omega)
    have h2 : hid * d ≤ 64 * 32 := Nat.mul_le_mul (by omega) (by omega)
    have h3 : d * hid ≤ 32 * 64 := Nat.mul_le_mul (by omega) (by omega)
    unfold cvR blkOf
    simp only [gainL_length, rowL_length]
    omega
  have hsh := rshape_eq (v : Int) (d : Int) hs (hid : Int) (ly : Int)
  rw [hq] at hsh
  obtain ⟨l2, e2⟩ : ∃ l, rowL sd 131072 (v * d) = l := ⟨_, rfl⟩
  obtain ⟨l3, e3⟩ : ∃ l, blksOf d hid ly (stI sd (v * d)) = l := ⟨_, rfl⟩
  obtain ⟨l4, e4⟩ : ∃ l, gainL (blksSt d hid ly (stI sd (v * d))) d = l := ⟨_, rfl⟩
  obtain ⟨l7, e7⟩ : ∃ l, rowL (stI (blksSt d hid ly (stI sd (v * d))) d) 65536 (v * d) = l := ⟨_, rfl⟩
  rw [e2, e3, e4, e7] at hm hck
  simp only [e2, e3, e4, e7] at hrm
  rw [e2] at n2
  rw [e4] at n4
  rw [e7] at n7
  rw [e3] at m3 n3
  obtain ⟨LR, hLR⟩ : ∃ LR, LR = l3.map cvR := ⟨_, rfl⟩
  rw [← hLR] at n3 hrm
  obtain ⟨r, hr⟩ : ∃ r : Int, (v : Int) = r := ⟨_, rfl⟩
  obtain ⟨c, hc⟩ : ∃ c : Int, (d : Int) = c := ⟨_, rfl⟩
  obtain ⟨a3, ha3⟩ : ∃ c : Int, (hid : Int) = c := ⟨_, rfl⟩
  obtain ⟨a4, ha4⟩ : ∃ c : Int, (ly : Int) = c := ⟨_, rfl⟩
  rw [hr, hc, ha3, ha4] at hm hck hsh ⊢
  simp only [hr, hc, ha3, ha4] at hrm
  have m3' : LR.length ≤ 1000 := by rw [hLR, List.length_map]; exact m3
  have HM := Aside0.mk hm
  have HC := Aside0.mk hck
  have HRM := Aside0.mk hrm
  have HSH := Aside0.mk hsh
  have N2 := Aside0.mk n2
  have N4 := Aside0.mk n4
  have N7 := Aside0.mk n7
  have M3 := Aside0.mk m3
  have NL := Aside0.mk (And.intro n3 m3')
  have HLR := Aside0.mk hLR
  have AW := Aside0.mk awake_true
  have BW := Aside0.mk (((Below.refl w.heap.size w).alloc (Nat.le_refl _) (.cells (CF r c hs a3 a4) 23 (0, 0))))
  have KC := Aside0.mk (blk_new w (.cells (CF r c hs a3 a4) 23 (0, 0)))
  clear hm hck hrm hsh n2 n4 n7 m3 m3' n3 e2 e3 e4 e7 hLR hr hc ha3 ha4 m1 s0 s1 hq v0 v1 d0 d1 i0 i1 y0 y1
  go_enter Try.func6, Try.ntmps6
  have x0 := blk_cell KC.out 0
  have x1 := blk_cell KC.out 1
  have x2 := blk_cell KC.out 2
  have x3 := blk_cell KC.out 3
  have x4 := blk_cell KC.out 4
  simp [CF] at x0 x1 x2 x3 x4
  go_wp2_with (first
    | (go_at_call 9; go_loud (refine (model_Make.calls 5000 r c hs a3 a4 sd r c l2 l3 l4 r c l7 0 _ HM.out).mono ?_); rintro e w1 ⟨v2, v3, v4, v7, rfl, hr2, hs3, hr4, hr7, hb⟩; obtain ⟨A2, c2, rfl, e2, h2⟩ := Kd.R_reads hr2; obtain ⟨A3, c3, rfl, e3, h3⟩ := Kd.S_reads hs3; obtain ⟨A4, c4, rfl, e4, h4⟩ := Kd.R_reads hr4; obtain ⟨A7, c7, rfl, e7, h7⟩ := Kd.R_reads hr7; have MA := Aside0.mk (show (Kd.C kI w1 A2 l2.length l2 ∧ l2.length ≤ c2) ∧ (Kd.C kB w1 A3 l3.length l3 ∧ l3.length ≤ c3) ∧ (Kd.C kI w1 A4 l4.length l4 ∧ l4.length ≤ c4) ∧ (Kd.C kI w1 A7 l7.length l7 ∧ l7.length ≤ c7) from ⟨⟨h2, e2⟩, ⟨h3, e3⟩, ⟨h4, e4⟩, ⟨h7, e7⟩⟩); have KC1 := Aside0.mk (blk_below KC.out hb); have BW1 := Aside0.mk (BW.out.trans (hb.mono BW.out.size)); clear hr2 hs3 hr4 hr7 e2 h2 e3 h3 e4 h4 e7 h7 hb)
    | ((with_reducible refine gate_store (t := 30) (p := 5) rfl ?_); go_loud (refine store_new_event #[.int .i64 r, .int .i64 c, .slice A2 l2.length c2, .slice A3 l3.length c3, .slice A4 l4.length c4, .int .i64 r, .int .i64 c, .slice A7 l7.length c7] rfl rfl rfl rfl rfl (by kernel_rfl) rfl (by simp [Value.oneCell']) ?_); have B2 := Aside0.mk (below_alloc (Below.refl w1.heap.size w1) (.cells #[.int .i64 r, .int .i64 c, .slice A2 l2.length c2, .slice A3 l3.length c3, .slice A4 l4.length c4, .int .i64 r, .int .i64 c, .slice A7 l7.length c7] 30 (0, 0))); have KC2 := Aside0.mk (blk_below KC1.out B2.out); have BA2 := Aside0.mk (blk_new w1 (.cells #[.int .i64 r, .int .i64 c, .slice A2 l2.length c2, .slice A3 l3.length c3, .slice A4 l4.length c4, .int .i64 r, .int .i64 c, .slice A7 l7.length c7] 30 (0, 0))); generalize w1.alloc (.cells #[.int .i64 r, .int .i64 c, .slice A2 l2.length c2, .slice A3 l3.length c3, .slice A4 l4.length c4, .int .i64 r, .int .i64 c, .slice A7 l7.length c7] 30 (0, 0)) = w2 at B2 KC2 BA2 ⊢; have MA2 := Aside0.mk (show _ ∧ _ ∧ _ ∧ _ from ⟨CX MA.out.1 B2.out, CX MA.out.2.1 B2.out, CX MA.out.2.2.1 B2.out, CX MA.out.2.2.2 B2.out⟩); have BW2 := Aside0.mk (BW1.out.trans (B2.out.mono BW1.out.size)); clear x0 x1 x2 x3 x4; have x0 := blk_cell KC2.out 0; have x1 := blk_cell KC2.out 1; have x2 := blk_cell KC2.out 2; have x3 := blk_cell KC2.out 3; have x4 := blk_cell KC2.out 4; simp [CF] at x0 x1 x2 x3 x4)
    | (go_at_call 19; go_loud (refine (tillerref06_Shape.calls 20 r c hs a3 a4 0 _ HSH.out).mono ?_); rintro e w3 ⟨rfl, hb⟩; have B3 := Aside0.mk hb; clear hb)
    | (go_at_call 10; go_loud (refine (tillerlaw06_awake.calls 50 true _ AW.out).mono ?_); rintro e w4 ⟨rfl, hb⟩; have B4 := Aside0.mk (B3.out.trans (hb.mono B3.out.size)); clear hb))
  have sn0 : SP w2 w.heap.size w1.heap.size r c hs a3 a4 (.int .i64 r) (.int .i64 c) (.slice A2 l2.length c2) (.slice A3 l3.length c3) (.slice A4 l4.length c4) (.int .i64 r) (.int .i64 c) (.slice A7 l7.length c7) w4 := SP.mk' (blk_below KC2.out B4.out) (blk_below BA2.out B4.out) B4.out
  have sn1 := sn0.keep (Below.refl _ _).drew
  go_region_held3 (SP w2 w.heap.size w1.heap.size r c hs a3 a4 (.int .i64 r) (.int .i64 c) (.slice A2 l2.length c2) (.slice A3 l3.length c3) (.slice A4 l4.length c4) (.int .i64 r) (.int .i64 c) (.slice A7 l7.length c7))
    (first | exact sn | exact sn1 | exact sn0)
    (first
    | (go_at_call 11; (with_reducible refine (same_calls r c l2 LR l4 r c l7 A2 c2 FA fA A4 c4 A7 c7 R2 r2 R3 r3 R4 r4 R7 r7 _ (CX MA2.out.1 (SP.bel (by assumption))) XA.out (CX MA2.out.2.2.1 (SP.bel (by assumption))) (CX MA2.out.2.2.2 (SP.bel (by assumption))) XR.out.1 XR.out.2.1 XR.out.2.2.1 XR.out.2.2.2 NL.out.1 NL.out.2 N2.out N4.out N7.out).mono ?_); rintro e wc ⟨rfl, hbc⟩; have sn := SP.keep (by assumption) hbc; clear hbc)
    | (go_at_call 21; (with_reducible refine (HRM.out _).mono ?_); rintro e wc ⟨v2, v3, v4, v7, rfl, hr2, hs3, hr4, hr7, hbc⟩; obtain ⟨R2, r2, rfl, e2, h2⟩ := Kd.R_reads hr2; obtain ⟨R3, r3, rfl, e3, h3⟩ := Kd.R_reads hs3; obtain ⟨R4, r4, rfl, e4, h4⟩ := Kd.R_reads hr4; obtain ⟨R7, r7, rfl, e7, h7⟩ := Kd.R_reads hr7; have sn := SP.keep (by assumption) hbc; have XA := Aside0.mk (CX XA.out hbc); have XR := Aside0.mk (show (Kd.C kI wc R2 l2.length l2 ∧ l2.length ≤ r2) ∧ (Kd.C kR wc R3 LR.length LR ∧ LR.length ≤ r3) ∧ (Kd.C kI wc R4 l4.length l4 ∧ l4.length ≤ r4) ∧ (Kd.C kI wc R7 l7.length l7 ∧ l7.length ≤ r7) from ⟨⟨h2, e2⟩, ⟨h3, e3⟩, ⟨h4, e4⟩, ⟨h7, e7⟩⟩); clear hr2 hs3 hr4 hr7 e2 h2 e3 h3 e4 h4 e7 h7 hbc)
    | (go_at_call 12; (with_reducible refine (full_calls' LR r c l2 l3 l4 r c l7 A2 c2 A3 c3 A4 c4 A7 c7 _ (CX MA2.out.2.1 (SP.bel (by assumption))).1 M3.out HLR.out).mono ?_); rintro e wc ⟨FA, fA, rfl, hC, hf, hbc⟩; have sn := SP.keep (by assumption) hbc; have XA := Aside0.mk (And.intro hC hf); clear hC hf hbc)
    | (go_at_call 20; (with_reducible refine (check_calls r c hs a3 a4 r c l2 l3 l4 r c l7 A2 c2 A3 c3 A4 c4 A7 c7 _ (CX MA2.out.1 (SP.bel (by assumption))) (CX MA2.out.2.1 (SP.bel (by assumption))) (CX MA2.out.2.2.1 (SP.bel (by assumption))) (CX MA2.out.2.2.2 (SP.bel (by assumption))) M3.out).mono ?_); rintro e wc ⟨rfl, hbc⟩; rw [HC.out]; have sn := SP.keep (by assumption) hbc; clear hbc))
  have HS := Aside0.mk (BW2.out.trans ((SP.bel sn).mono BW2.out.size))
  clear sn sn0 sn1
  go_wp2
  go_ret
  exact ⟨rfl, HS.out⟩
set_option maxHeartbeats 8000000 in
set_option maxRecDepth 100000 in
theorem makes_bad (a0 a1 a2 a3 a4 sd er : Int) (w : World) (hm : model_Make.f 5000 a0 a1 a2 a3 a4 sd = some (0, 0, [], [], [], 0, 0, [], er)) (hsh : tillerref06_Shape.f 20 a0 a1 a2 a3 a4 = some er) (he : er ≠ 0) :
    Calls Try.prog 6 #[.agg (CF a0 a1 a2 a3 a4), .int .u64 sd] w fun e w' => e = .returned (.bool true) ∧ Below w.heap.size w w' := by
  have HM := Aside0.mk hm
  have HSH := Aside0.mk hsh
  have d1 : (er != 0) = true := bne_iff_ne.mpr he
  have d2 : (er != er) = false := by simp
  have AW := Aside0.mk awake_true
  have BW := Aside0.mk (((Below.refl w.heap.size w).alloc (Nat.le_refl _) (.cells (CF a0 a1 a2 a3 a4) 23 (0, 0))))
  have KC := Aside0.mk (blk_new w (.cells (CF a0 a1 a2 a3 a4) 23 (0, 0)))
  clear hm hsh he
  go_enter Try.func6, Try.ntmps6
  have x0 := blk_cell KC.out 0
  have x1 := blk_cell KC.out 1
  have x2 := blk_cell KC.out 2
  have x3 := blk_cell KC.out 3
  have x4 := blk_cell KC.out 4
  simp [CF] at x0 x1 x2 x3 x4
  go_wp2_with (first
    | (go_at_call 9; go_loud (refine (model_Make.calls 5000 a0 a1 a2 a3 a4 sd 0 0 [] [] [] 0 0 [] er _ HM.out).mono ?_); rintro e w1 ⟨v2, v3, v4, v7, rfl, hr2, hs3, hr4, hr7, hb⟩; obtain ⟨A2, c2, rfl, e2, h2⟩ := Kd.R_reads hr2; obtain ⟨A3, c3, rfl, e3, h3⟩ := Kd.S_reads hs3; obtain ⟨A4, c4, rfl, e4, h4⟩ := Kd.R_reads hr4; obtain ⟨A7, c7, rfl, e7, h7⟩ := Kd.R_reads hr7; have MA := Aside0.mk (show (Kd.C kI w1 A2 ([] : List Int).length [] ∧ ([] : List Int).length ≤ c2) ∧ (Kd.C kB w1 A3 ([] : List BK).length [] ∧ ([] : List BK).length ≤ c3) ∧ (Kd.C kI w1 A4 ([] : List Int).length [] ∧ ([] : List Int).length ≤ c4) ∧ (Kd.C kI w1 A7 ([] : List Int).length [] ∧ ([] : List Int).length ≤ c7) from ⟨⟨h2, e2⟩, ⟨h3, e3⟩, ⟨h4, e4⟩, ⟨h7, e7⟩⟩); have KC1 := Aside0.mk (blk_below KC.out hb); have BW1 := Aside0.mk (BW.out.trans (hb.mono BW.out.size)); clear hr2 hs3 hr4 hr7 e2 h2 e3 h3 e4 h4 e7 h7 hb)
    | ((with_reducible refine gate_store (t := 30) (p := 5) rfl ?_); go_loud (refine store_new_event #[.int .i64 0, .int .i64 0, .slice A2 0 c2, .slice A3 0 c3, .slice A4 0 c4, .int .i64 0, .int .i64 0, .slice A7 0 c7] rfl rfl rfl rfl rfl (by kernel_rfl) rfl (by simp [Value.oneCell']) ?_); have B2 := Aside0.mk (below_alloc (Below.refl w1.heap.size w1) (.cells #[.int .i64 0, .int .i64 0, .slice A2 0 c2, .slice A3 0 c3, .slice A4 0 c4, .int .i64 0, .int .i64 0, .slice A7 0 c7] 30 (0, 0))); have KC2 := Aside0.mk (blk_below KC1.out B2.out); have BA2 := Aside0.mk (blk_new w1 (.cells #[.int .i64 0, .int .i64 0, .slice A2 0 c2, .slice A3 0 c3, .slice A4 0 c4, .int .i64 0, .int .i64 0, .slice A7 0 c7] 30 (0, 0))); generalize w1.alloc (.cells #[.int .i64 0, .int .i64 0, .slice A2 0 c2, .slice A3 0 c3, .slice A4 0 c4, .int .i64 0, .int .i64 0, .slice A7 0 c7] 30 (0, 0)) = w2 at B2 KC2 BA2 ⊢; have MA2 := Aside0.mk (show _ ∧ _ ∧ _ ∧ _ from ⟨CX MA.out.1 B2.out, CX MA.out.2.1 B2.out, CX MA.out.2.2.1 B2.out, CX MA.out.2.2.2 B2.out⟩); have BW2 := Aside0.mk (BW1.out.trans (B2.out.mono BW1.out.size)); clear x0 x1 x2 x3 x4; have x0 := blk_cell KC2.out 0; have x1 := blk_cell KC2.out 1; have x2 := blk_cell KC2.out 2; have x3 := blk_cell KC2.out 3; have x4 := blk_cell KC2.out 4; simp [CF] at x0 x1 x2 x3 x4)
    | (go_at_call 19; go_loud (refine (tillerref06_Shape.calls 20 a0 a1 a2 a3 a4 er _ HSH.out).mono ?_); rintro e w3 ⟨rfl, hb⟩; have B3 := Aside0.mk hb; clear hb)
    | (go_at_call 10; go_loud (refine (tillerlaw06_awake.calls 50 true _ AW.out).mono ?_); rintro e w4 ⟨rfl, hb⟩; have B4 := Aside0.mk (B3.out.trans (hb.mono B3.out.size)); clear hb; have BA4 := Aside0.mk (blk_below BA2.out B4.out); have y0 := blk_cell BA4.out 0; have y1 := blk_cell BA4.out 1; have y2 := blk_cell BA4.out 2; have y3 := blk_cell BA4.out 3; have y4 := blk_cell BA4.out 4; have y5 := blk_cell BA4.out 5; have y6 := blk_cell BA4.out 6; have y7 := blk_cell BA4.out 7; simp at y0 y1 y2 y3 y4 y5 y6 y7)
    | (go_at_call 11; go_loud (refine (same_calls 0 0 [] [] [] 0 0 [] B2_ b2_ B3_ b3_ B4_ b4_ B7_ b7_ none 0 none 0 none 0 none 0 _ KT.out.1 KT.out.2.1 KT.out.2.2.1 KT.out.2.2.2 ⟨Kd.C_nil _ _, Nat.le_refl _⟩ ⟨Kd.C_nil _ _, Nat.le_refl _⟩ ⟨Kd.C_nil _ _, Nat.le_refl _⟩ ⟨Kd.C_nil _ _, Nat.le_refl _⟩ (fun b hb => by cases hb) (Nat.zero_le _) (Nat.zero_le _) (Nat.zero_le _) (Nat.zero_le _)).mono ?_); rintro e w6 ⟨rfl, hb⟩; have B6 := Aside0.mk (B5.out.trans (hb.mono B5.out.size)); clear hb)
    | (go_at_call 16; go_loud (refine (told_calls 0 0 [] [] [] 0 0 [] A2 c2 A3 c3 A4 c4 A7 c7 w4 (CX MA2.out.1 B4.out) (CX MA2.out.2.1 B4.out) (CX MA2.out.2.2.1 B4.out) (CX MA2.out.2.2.2 B4.out) (Nat.zero_le _) (by decide) (by decide) (by decide) (fun b hb => by cases hb)).mono ?_); rintro e w5 ⟨v2, v3, v4, v7, rfl, hr2, hs3, hr4, hr7, hb⟩; replace hr2 : kI.R NumT w5 w4.heap.size (fun _ => True) v2 [] := hr2; replace hs3 : kR.R 74 w5 w4.heap.size (fun _ => True) v3 [] := hs3; replace hr4 : kI.R NumT w5 w4.heap.size (fun _ => True) v4 [] := hr4; replace hr7 : kI.R NumT w5 w4.heap.size (fun _ => True) v7 [] := hr7; obtain ⟨B2_, b2_, rfl, e2, h2⟩ := Kd.R_reads hr2; obtain ⟨B3_, b3_, rfl, e3, h3⟩ := Kd.R_reads hs3; obtain ⟨B4_, b4_, rfl, e4, h4⟩ := Kd.R_reads hr4; obtain ⟨B7_, b7_, rfl, e7, h7⟩ := Kd.R_reads hr7; have KT := Aside0.mk (show (Kd.C kI w5 B2_ ([] : List Int).length [] ∧ ([] : List Int).length ≤ b2_) ∧ (Kd.C kR w5 B3_ ([] : List BR).length [] ∧ ([] : List BR).length ≤ b3_) ∧ (Kd.C kI w5 B4_ ([] : List Int).length [] ∧ ([] : List Int).length ≤ b4_) ∧ (Kd.C kI w5 B7_ ([] : List Int).length [] ∧ ([] : List Int).length ≤ b7_) from ⟨⟨h2, e2⟩, ⟨h3, e3⟩, ⟨h4, e4⟩, ⟨h7, e7⟩⟩); have B5 := Aside0.mk (BW2.out.trans ((B4.out.trans (hb.mono B4.out.size)).mono BW2.out.size)); clear hr2 hs3 hr4 hr7 e2 h2 e3 h3 e4 h4 e7 h7 hb))
  go_ret
  exact ⟨rfl, B6.out⟩
def tillerlaw06_ModelMakes.f (a0 a1 a2 a3 a4 sd : Int) : Option Bool := if 0 ≤ sd ∧ sd < 18446744073709551616 then some true else none
theorem tillerlaw06_ModelMakes.calls (v d hs hid ly sd : Int) (r : Bool) (w : World) (hr_ : Aside0 (r = true)) (h : tillerlaw06_ModelMakes.f v d hs hid ly sd = some r) :
    Calls Try.prog 6 #[.agg #[.int .i64 v, .int .i64 d, .int .i64 hs, .int .i64 hid, .int .i64 ly], .int .u64 sd] w fun e w' => e = .returned (.bool r) ∧ Below w.heap.size w w' := by
  have hr := hr_.out
  subst hr
  unfold tillerlaw06_ModelMakes.f at h
  split at h
  · rename_i hb
    by_cases c1 : shp v d hs hid ly = 0
    · obtain ⟨⟨v0, v1⟩, ⟨d0, d1⟩, _, ⟨i0, i1⟩, ⟨l0, l1⟩⟩ := shp_ok c1
      obtain ⟨v, rfl⟩ : ∃ n : Nat, v = (n : Int) := ⟨v.toNat, (Int.toNat_of_nonneg (by omega)).symm⟩
      obtain ⟨d, rfl⟩ : ∃ n : Nat, d = (n : Int) := ⟨d.toNat, (Int.toNat_of_nonneg (by omega)).symm⟩
      obtain ⟨hid, rfl⟩ : ∃ n : Nat, hid = (n : Int) := ⟨hid.toNat, (Int.toNat_of_nonneg (by omega)).symm⟩
      obtain ⟨ly, rfl⟩ : ∃ n : Nat, ly = (n : Int) := ⟨ly.toNat, (Int.toNat_of_nonneg (by omega)).symm⟩
      exact makes_ok v d hid ly hs sd w hb.1 hb.2 c1
    · exact makes_bad v d hs hid ly sd (shp v d hs hid ly) w (make_bad 4998 v d hs hid ly sd c1) (rshape_eq v d hs hid ly) c1
  · cases h
end Go.Proofs.Ytdlhodbokkaghaa.OMakes
