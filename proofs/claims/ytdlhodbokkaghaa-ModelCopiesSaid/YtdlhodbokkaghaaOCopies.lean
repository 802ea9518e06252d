/- ModelCopies, walked by hand. Written by this session's program gcopies.py. -/
import Derived.Test.YtdlhodbokkaghaaGQx3
import Derived.Test.YtdlhodbokkaghaaGTold
import Derived.Test.YtdlhodbokkaghaaGOf
import Derived.Test.YtdlhodbokkaghaaGCopy
import Derived.Test.YtdlhodbokkaghaaGSpoil
import Derived.Outline
set_option linter.unusedVariables false
set_option linter.unusedSimpArgs false
namespace Go.Proofs.Ytdlhodbokkaghaa.OCopies
open Go.RowKit Go.Proofs.YtdlhodbokkaghaaW.PrintWords Go.Proofs.YtdlhodbokkaghaaW.PrintLast Go.Proofs.YtdlhodbokkaghaaW.PrintMore Go.Proofs.Ytdlhodbokkaghaa.GQ Go.Proofs.Ytdlhodbokkaghaa.U
theorem awake_true : tillerlaw06_awake.f 50 = some true := by decide +kernel
theorem CX {α : Type} {k : Kd α} {w W : World} {A : Option Addr} {c : Nat} {l : List α} (h : k.C w A l.length l ∧ l.length ≤ c) (hb : Below w.heap.size w W) : k.C W A l.length l ∧ l.length ≤ c := ⟨Kd.C_below h.1 hb, h.2⟩
/-- Two boxes, cell by cell. -/
abbrev SB2 (w0 : World) (g1 g2 : Nat) (u0 u1 u2 u3 u4 u5 u6 u7 v0 v1 v2 v3 v4 v5 v6 v7 : Value) (W : World) : Prop :=
  (W.cell? ⟨g1, 0, none⟩ = some u0 ∧ W.cell? ⟨g1, 1, none⟩ = some u1 ∧ W.cell? ⟨g1, 2, none⟩ = some u2 ∧ W.cell? ⟨g1, 3, none⟩ = some u3 ∧ W.cell? ⟨g1, 4, none⟩ = some u4 ∧ W.cell? ⟨g1, 5, none⟩ = some u5 ∧ W.cell? ⟨g1, 6, none⟩ = some u6 ∧ W.cell? ⟨g1, 7, none⟩ = some u7) ∧ (W.cell? ⟨g2, 0, none⟩ = some v0 ∧ W.cell? ⟨g2, 1, none⟩ = some v1 ∧ W.cell? ⟨g2, 2, none⟩ = some v2 ∧ W.cell? ⟨g2, 3, none⟩ = some v3 ∧ W.cell? ⟨g2, 4, none⟩ = some v4 ∧ W.cell? ⟨g2, 5, none⟩ = some v5 ∧ W.cell? ⟨g2, 6, none⟩ = some v6 ∧ W.cell? ⟨g2, 7, none⟩ = some v7) ∧ W.heap[g1]? = some (.cells #[u0, u1, u2, u3, u4, u5, u6, u7] 30 (0, 0)) ∧ W.heap[g2]? = some (.cells #[v0, v1, v2, v3, v4, v5, v6, v7] 30 (0, 0)) ∧ Below w0.heap.size w0 W
theorem SB2.mk' {w0 W : World} {g1 g2 : Nat} {u0 u1 u2 u3 u4 u5 u6 u7 v0 v1 v2 v3 v4 v5 v6 v7 : Value} (h1 : W.heap[g1]? = some (.cells #[u0, u1, u2, u3, u4, u5, u6, u7] 30 (0, 0))) (h2 : W.heap[g2]? = some (.cells #[v0, v1, v2, v3, v4, v5, v6, v7] 30 (0, 0))) (hb : Below w0.heap.size w0 W) : SB2 w0 g1 g2 u0 u1 u2 u3 u4 u5 u6 u7 v0 v1 v2 v3 v4 v5 v6 v7 W := ⟨⟨blk_cell h1 0, blk_cell h1 1, blk_cell h1 2, blk_cell h1 3, blk_cell h1 4, blk_cell h1 5, blk_cell h1 6, blk_cell h1 7⟩, ⟨blk_cell h2 0, blk_cell h2 1, blk_cell h2 2, blk_cell h2 3, blk_cell h2 4, blk_cell h2 5, blk_cell h2 6, blk_cell h2 7⟩, h1, h2, hb⟩
theorem SB2.keep {w0 W W' : World} {g1 g2 : Nat} {u0 u1 u2 u3 u4 u5 u6 u7 v0 v1 v2 v3 v4 v5 v6 v7 : Value} (h : SB2 w0 g1 g2 u0 u1 u2 u3 u4 u5 u6 u7 v0 v1 v2 v3 v4 v5 v6 v7 W) (hb : Below W.heap.size W W') : SB2 w0 g1 g2 u0 u1 u2 u3 u4 u5 u6 u7 v0 v1 v2 v3 v4 v5 v6 v7 W' := SB2.mk' (blk_below h.2.2.1 hb) (blk_below h.2.2.2.1 hb) (h.2.2.2.2.trans (hb.mono h.2.2.2.2.size))
theorem SB2.bel {w0 W : World} {g1 g2 : Nat} {u0 u1 u2 u3 u4 u5 u6 u7 v0 v1 v2 v3 v4 v5 v6 v7 : Value} (h : SB2 w0 g1 g2 u0 u1 u2 u3 u4 u5 u6 u7 v0 v1 v2 v3 v4 v5 v6 v7 W) : Below w0.heap.size w0 W := h.2.2.2.2
theorem full_calls' (LR : List BR) (r c : Int) (l2 : List Int) (l3 : List BK) (l4 : List Int) (r' c' : Int) (l7 : List Int) (A2 : Option Addr) (c2 : Nat) (A3 : Option Addr) (c3 : Nat) (A4 : Option Addr) (c4 : Nat) (A7 : Option Addr) (c7 : Nat) (w : World) (ha3 : Kd.C kB w A3 l3.length l3) (m3 : l3.length ≤ 1000) (e : LR = l3.map cvR) :
    Calls Try.prog 12 #[.agg #[.int .i64 r, .int .i64 c, .slice A2 l2.length c2, .slice A3 l3.length c3, .slice A4 l4.length c4, .int .i64 r', .int .i64 c', .slice A7 l7.length c7]] w fun e w' => ∃ A c9, e = .returned (.agg #[.int .i64 r, .int .i64 c, .slice A2 l2.length c2, (.slice A LR.length c9), .slice A4 l4.length c4, .int .i64 r', .int .i64 c', .slice A7 l7.length c7]) ∧ Kd.C kR w' A LR.length LR ∧ LR.length ≤ c9 ∧ Below w.heap.size w w' := by
  subst e
  refine (full_calls r c l2 l3 l4 r' c' l7 A2 c2 A3 c3 A4 c4 A7 c7 w ha3 m3).mono ?_
  rintro e w1 ⟨A, c9, rfl, h1, h2, h3⟩
  rw [← List.length_map (f := cvR)] at h1 h2
  exact ⟨A, c9, by rw [List.length_map], h1, h2, h3⟩
theorem BT {w W8 W : World} (h : Below w.heap.size w W8) (h2 : Below W8.heap.size W8 W) : Below w.heap.size w W := h.trans (h2.mono h.size)
theorem copy_id (l : List BK) : l.map cv_copy = l := by
  conv => rhs; rw [← List.map_id l]
  exact List.map_congr_left (fun b _ => rfl)
set_option maxHeartbeats 16000000 in
set_option maxRecDepth 100000 in
theorem copies_calls (r c : Int) (l2 : List Int) (l3 : List BK) (l4 : List Int) (r' c' : Int) (l7 : List Int) (at_ : Int) (A2 : Option Addr) (c2 : Nat) (A3 : Option Addr) (c3 : Nat) (A4 : Option Addr) (c4 : Nat) (A7 : Option Addr) (c7 : Nat) (w : World)
    (h2 : Kd.C kI w A2 l2.length l2 ∧ l2.length ≤ c2) (h3 : Kd.C kB w A3 l3.length l3 ∧ l3.length ≤ c3) (h4 : Kd.C kI w A4 l4.length l4 ∧ l4.length ≤ c4) (h7 : Kd.C kI w A7 l7.length l7 ∧ l7.length ≤ c7)
    (m3 : l3.length ≤ 4611686018427387904) (n2 : l2.length < 35184372088832) (n4 : l4.length < 35184372088832) (n7 : l7.length < 35184372088832) (n3 : ∀ b ∈ l3, lensB 0 0 b.f0 b.f1.f2 b.f2.f2 b.f3.f2 b.f4.f2 b.f5 b.f6.f2 b.f7.f2) (a1 : -9223372036854775808 ≤ at_) (a2 : at_ ≤ 9223372036854775807) :
    Calls Try.prog 5 #[.agg #[.int .i64 r, .int .i64 c, .slice A2 l2.length c2, .slice A3 l3.length c3, .slice A4 l4.length c4, .int .i64 r', .int .i64 c', .slice A7 l7.length c7], .int .i64 at_] w fun e w' => e = .returned (.bool true) ∧ Below w.heap.size w w' := by
  have H2 := Aside0.mk h2
  have H3 := Aside0.mk h3
  have H4 := Aside0.mk h4
  have H7 := Aside0.mk h7
  have M3 := Aside0.mk m3
  have N2 := Aside0.mk n2
  have N4 := Aside0.mk n4
  have N7 := Aside0.mk n7
  have N3 := Aside0.mk n3
  have HAT := Aside0.mk (And.intro a1 a2)
  have AW := Aside0.mk awake_true
  obtain ⟨t2, ht2⟩ : ∃ t, l2.take 2000 = t := ⟨_, rfl⟩
  obtain ⟨t3, ht3⟩ : ∃ t, (l3.take 5).map cv_told = t := ⟨_, rfl⟩
  obtain ⟨t4, ht4⟩ : ∃ t, l4.take 100 = t := ⟨_, rfl⟩
  obtain ⟨t7, ht7⟩ : ∃ t, l7.take 2000 = t := ⟨_, rfl⟩
  obtain ⟨i2, hi2⟩ : ∃ t, t2.take 2000 = t := ⟨_, rfl⟩
  obtain ⟨i3, hi3⟩ : ∃ t, t3.map cv_of = t := ⟨_, rfl⟩
  obtain ⟨i4, hi4⟩ : ∃ t, t4.take 5000 = t := ⟨_, rfl⟩
  obtain ⟨i7, hi7⟩ : ∃ t, t7.take 2000 = t := ⟨_, rfl⟩
  obtain ⟨LR, hLR⟩ : ∃ LR, LR = i3.map cvR := ⟨_, rfl⟩
  have LN := Aside0.mk (show (t2.length < 35184372088832 ∧ t4.length < 35184372088832 ∧ t7.length < 35184372088832) ∧ t3.length ≤ 5 ∧ (∀ b ∈ t3, lensB 0 0 b.f0 b.f1.f2 b.f2.f2 b.f3.f2 b.f4.f2 b.f5 b.f6.f2 b.f7.f2) from by
    rw [← ht2, ← ht3, ← ht4, ← ht7, List.length_take, List.length_take, List.length_take, List.length_map, List.length_take]
    refine ⟨⟨by omega, by omega, by omega⟩, by omega, ?_⟩
    intro b hb
    obtain ⟨b', hb', rfl⟩ := List.mem_map.mp hb
    have := n3 b' (List.mem_of_mem_take hb')
    unfold lensB cv_told at *
    simp only [List.length_take]
    omega)
  have bB : ∀ b ∈ i3, b.f0.length ≤ 100000 ∧ b.f1.f2.length ≤ 100000 ∧ b.f2.f2.length ≤ 100000 ∧ b.f3.f2.length ≤ 100000 ∧ b.f4.f2.length ≤ 100000 ∧ b.f5.length ≤ 100000 ∧ b.f6.f2.length ≤ 100000 ∧ b.f7.f2.length ≤ 100000 := by
    intro b hb
    rw [← hi3, ← ht3] at hb
    obtain ⟨b', hb', rfl⟩ := List.mem_map.mp hb
    obtain ⟨b'', _, rfl⟩ := List.mem_map.mp hb'
    unfold cv_of cv_told
    simp only [List.length_take]
    omega
  have LI := Aside0.mk (show (i2.length ≤ 2000 ∧ i4.length ≤ 5000 ∧ i7.length ≤ 2000) ∧ i3.length ≤ 5 ∧ (∀ b ∈ i3, lensB 0 0 b.f0 b.f1.f2 b.f2.f2 b.f3.f2 b.f4.f2 b.f5 b.f6.f2 b.f7.f2) from by
    refine ⟨⟨by rw [← hi2, List.length_take]; omega, by rw [← hi4, List.length_take]; omega, by rw [← hi7, List.length_take]; omega⟩, by rw [← hi3, List.length_map]; exact LN.out.2.1, fun b hb => ?_⟩
    have := bB b hb
    unfold lensB
    omega)
  have NL := Aside0.mk (show (∀ b ∈ LR, b.f0.length ≤ 100000 ∧ b.f1.f2.length ≤ 100000 ∧ b.f2.f2.length ≤ 100000 ∧ b.f3.f2.length ≤ 100000 ∧ b.f4.f2.length ≤ 100000 ∧ b.f5.length ≤ 100000 ∧ b.f6.f2.length ≤ 100000 ∧ b.f7.f2.length ≤ 100000) ∧ LR.length ≤ 1000 from by
    rw [hLR]
    refine ⟨fun b hb => ?_, by rw [List.length_map]; have := LI.out.2.1; omega⟩
    obtain ⟨b', hb', rfl⟩ := List.mem_map.mp hb
    exact bB b' hb')
  have I2 := Aside0.mk hi2
  have I3 := Aside0.mk hi3
  have I4 := Aside0.mk hi4
  have I7 := Aside0.mk hi7
  have T2 := Aside0.mk ht2
  have T3 := Aside0.mk ht3
  have T4 := Aside0.mk ht4
  have T7 := Aside0.mk ht7
  have HLR := Aside0.mk hLR
  have K0 := Aside0.mk (blk_new w (.cells #[.int .i64 r, .int .i64 c, .slice A2 l2.length c2, .slice A3 l3.length c3, .slice A4 l4.length c4, .int .i64 r', .int .i64 c', .slice A7 l7.length c7] 30 (0, 0)))
  have B0 := Aside0.mk (below_alloc (Below.refl w.heap.size w) (.cells #[.int .i64 r, .int .i64 c, .slice A2 l2.length c2, .slice A3 l3.length c3, .slice A4 l4.length c4, .int .i64 r', .int .i64 c', .slice A7 l7.length c7] 30 (0, 0)))
  clear h2 h3 h4 h7 m3 n2 n4 n7 n3 a1 a2 bB ht2 ht3 ht4 ht7 hi2 hi3 hi4 hi7 hLR
  go_enter Try.func5, Try.ntmps5
  go_wp2_with (first
    | (go_at_call 17; go_loud ((refine (copy_calls r c i2 i3 i4 r' c' i7 D2 d2 D3 d3 D4 d4 D7 d7 w4 KI.out.1 KI.out.2.1 KI.out.2.2.1 KI.out.2.2.2 (Nat.le_trans LI.out.2.1 (by decide)) (by have := LI.out.1.1; omega) (by have := LI.out.1.2.1; omega) (by have := LI.out.1.2.2; omega) LI.out.2.2).mono ?_); rintro e4 w5 ⟨v2, v3, v4, v7, rfl, hr2, hs3, hr4, hr7, hb⟩; rw [copy_id] at hs3; obtain ⟨F2, f2, rfl⟩ := Kd.R_slice hr2; obtain ⟨F3, f3, rfl⟩ := Kd.R_slice hs3; obtain ⟨F4, f4, rfl⟩ := Kd.R_slice hr4; obtain ⟨F7, f7, rfl⟩ := Kd.R_slice hr7; have RC := Aside0.mk (And.intro hr2 (And.intro hs3 (And.intro hr4 hr7))); have K5 := Aside0.mk (blk_below K4.out hb); have KA5 := Aside0.mk (blk_below KA4.out hb); have B5 := Aside0.mk hb; clear hr2 hs3 hr4 hr7 hb))
    | (go_at_call 15; go_loud ((refine (of_calls r c t2 t3 t4 r' c' t7 E2 e2_ E3 e3_ E4 e4_ E7 e7_ w2 KT.out.1 KT.out.2.1 KT.out.2.2.1 KT.out.2.2.2 (Nat.le_trans LN.out.2.1 (by decide)) LN.out.1.1 LN.out.1.2.1 LN.out.1.2.2 LN.out.2.2).mono ?_); rintro e4 w3 ⟨v2, v3, v4, v7, rfl, hr2, hs3, hr4, hr7, hb⟩; rw [I2.out] at hr2; rw [I3.out] at hs3; rw [I4.out] at hr4; rw [I7.out] at hr7; obtain ⟨D2, d2, rfl, e2, h2⟩ := Kd.R_reads hr2; obtain ⟨D3, d3, rfl, e3, h3⟩ := Kd.R_reads hs3; obtain ⟨D4, d4, rfl, e4, h4⟩ := Kd.R_reads hr4; obtain ⟨D7, d7, rfl, e7, h7⟩ := Kd.R_reads hr7; have KI3 := Aside0.mk (show (Kd.C kI w3 D2 i2.length i2 ∧ i2.length ≤ d2) ∧ (Kd.C kB w3 D3 i3.length i3 ∧ i3.length ≤ d3) ∧ (Kd.C kI w3 D4 i4.length i4 ∧ i4.length ≤ d4) ∧ (Kd.C kI w3 D7 i7.length i7 ∧ i7.length ≤ d7) from ⟨⟨h2, e2⟩, ⟨h3, e3⟩, ⟨h4, e4⟩, ⟨h7, e7⟩⟩); have K3 := Aside0.mk (blk_below K2.out hb); have B3 := Aside0.mk (B2.out.trans (hb.mono B2.out.size)); clear hr2 hs3 hr4 hr7 e2 h2 e3 h3 e4 h4 e7 h7 hb))
    | (go_at_call 16; go_loud ((refine (told_calls r c l2 l3 l4 r' c' l7 A2 c2 A3 c3 A4 c4 A7 c7 _ (CX H2.out B0.out) (CX H3.out B0.out) (CX H4.out B0.out) (CX H7.out B0.out) M3.out N2.out N4.out N7.out N3.out).mono ?_); rintro e w2 ⟨v2, v3, v4, v7, rfl, hr2, hs3, hr4, hr7, hb⟩; rw [T2.out] at hr2; rw [T3.out] at hs3; rw [T4.out] at hr4; rw [T7.out] at hr7; obtain ⟨E2, e2_, rfl, e2, h2⟩ := Kd.R_reads hr2; obtain ⟨E3, e3_, rfl, e3, h3⟩ := Kd.R_reads hs3; obtain ⟨E4, e4_, rfl, e4, h4⟩ := Kd.R_reads hr4; obtain ⟨E7, e7_, rfl, e7, h7⟩ := Kd.R_reads hr7; have KT := Aside0.mk (show (Kd.C kI w2 E2 t2.length t2 ∧ t2.length ≤ e2_) ∧ (Kd.C kR w2 E3 t3.length t3 ∧ t3.length ≤ e3_) ∧ (Kd.C kI w2 E4 t4.length t4 ∧ t4.length ≤ e4_) ∧ (Kd.C kI w2 E7 t7.length t7 ∧ t7.length ≤ e7_) from ⟨⟨h2, e2⟩, ⟨h3, e3⟩, ⟨h4, e4⟩, ⟨h7, e7⟩⟩); have K2 := Aside0.mk (blk_below K0.out hb); have B2 := Aside0.mk (B0.out.trans (hb.mono B0.out.size)); clear hr2 hs3 hr4 hr7 e2 h2 e3 h3 e4 h4 e7 h7 hb))
    | ((with_reducible refine gate_store (t := 30) (p := 5) rfl ?_); go_loud ((refine store_new_event #[.int .i64 r, .int .i64 c, .slice D2 i2.length d2, .slice D3 i3.length d3, .slice D4 i4.length d4, .int .i64 r', .int .i64 c', .slice D7 i7.length d7] rfl rfl rfl rfl rfl (by kernel_rfl) rfl (by simp [Value.oneCell']) ?_); have hb := below_alloc (Below.refl w3.heap.size w3) (.cells #[.int .i64 r, .int .i64 c, .slice D2 i2.length d2, .slice D3 i3.length d3, .slice D4 i4.length d4, .int .i64 r', .int .i64 c', .slice D7 i7.length d7] 30 (0, 0)); have K4 := Aside0.mk (blk_below K3.out hb); have KA4 := Aside0.mk (blk_new w3 (.cells #[.int .i64 r, .int .i64 c, .slice D2 i2.length d2, .slice D3 i3.length d3, .slice D4 i4.length d4, .int .i64 r', .int .i64 c', .slice D7 i7.length d7] 30 (0, 0))); have KI := Aside0.mk (show _ ∧ _ ∧ _ ∧ _ from ⟨CX KI3.out.1 hb, CX KI3.out.2.1 hb, CX KI3.out.2.2.1 hb, CX KI3.out.2.2.2 hb⟩); have B4 := Aside0.mk (B3.out.trans (hb.mono B3.out.size)); clear hb; generalize w3.alloc (.cells #[.int .i64 r, .int .i64 c, .slice D2 i2.length d2, .slice D3 i3.length d3, .slice D4 i4.length d4, .int .i64 r', .int .i64 c', .slice D7 i7.length d7] 30 (0, 0)) = w4 at K4 KA4 KI B4 ⊢; have y0 := blk_cell KA4.out 0; have y1 := blk_cell KA4.out 1; have y2 := blk_cell KA4.out 2; have y3 := blk_cell KA4.out 3; have y4 := blk_cell KA4.out 4; have y5 := blk_cell KA4.out 5; have y6 := blk_cell KA4.out 6; have y7 := blk_cell KA4.out 7; simp at y0 y1 y2 y3 y4 y5 y6 y7))
    | ((with_reducible refine gate_store (t := 30) (p := 6) rfl ?_); go_loud ((refine store_new_event #[.int .i64 r, .int .i64 c, .slice F2 i2.length f2, .slice F3 i3.length f3, .slice F4 i4.length f4, .int .i64 r', .int .i64 c', .slice F7 i7.length f7] rfl rfl rfl rfl rfl (by kernel_rfl) rfl (by simp [Value.oneCell']) ?_); have hb := below_alloc (Below.refl w5.heap.size w5) (.cells #[.int .i64 r, .int .i64 c, .slice F2 i2.length f2, .slice F3 i3.length f3, .slice F4 i4.length f4, .int .i64 r', .int .i64 c', .slice F7 i7.length f7] 30 (0, 0)); have K6 := Aside0.mk (blk_below K5.out hb); have KA6 := Aside0.mk (blk_below KA5.out hb); have KC6 := Aside0.mk (blk_new w5 (.cells #[.int .i64 r, .int .i64 c, .slice F2 i2.length f2, .slice F3 i3.length f3, .slice F4 i4.length f4, .int .i64 r', .int .i64 c', .slice F7 i7.length f7] 30 (0, 0))); have B6 := Aside0.mk (B5.out.trans (hb.mono B5.out.size)); have RC6 := Aside0.mk (And.intro (Kd.R_below RC.out.1 hb) (And.intro (Kd.R_below RC.out.2.1 hb) (And.intro (Kd.R_below RC.out.2.2.1 hb) (Kd.R_below RC.out.2.2.2 hb)))); clear hb y0 y1 y2 y3 y4 y5 y6 y7; generalize w5.alloc (.cells #[.int .i64 r, .int .i64 c, .slice F2 i2.length f2, .slice F3 i3.length f3, .slice F4 i4.length f4, .int .i64 r', .int .i64 c', .slice F7 i7.length f7] 30 (0, 0)) = w6 at K6 KA6 KC6 B6 RC6 ⊢)))
  have KF6 := Aside0.mk (show (Kd.C kI w6 F2 i2.length i2 ∧ i2.length ≤ f2) ∧ (Kd.C kB w6 F3 i3.length i3 ∧ i3.length ≤ f3) ∧ (Kd.C kI w6 F4 i4.length i4 ∧ i4.length ≤ f4) ∧ (Kd.C kI w6 F7 i7.length i7 ∧ i7.length ≤ f7) from ⟨⟨(Kd.R_reads' RC6.out.1).2.2, (Kd.R_reads' RC6.out.1).2.1⟩, ⟨(Kd.R_reads' RC6.out.2.1).2.2, (Kd.R_reads' RC6.out.2.1).2.1⟩, ⟨(Kd.R_reads' RC6.out.2.2.1).2.2, (Kd.R_reads' RC6.out.2.2.1).2.1⟩, ⟨(Kd.R_reads' RC6.out.2.2.2).2.2, (Kd.R_reads' RC6.out.2.2.2).2.1⟩⟩)
  have KI6 := Aside0.mk (show _ ∧ _ ∧ _ ∧ _ from ⟨CX KI.out.1 B6.out, CX KI.out.2.1 B6.out, CX KI.out.2.2.1 B6.out, CX KI.out.2.2.2 B6.out⟩)
  have sn0 : SB2 w6 w5.heap.size w3.heap.size (.int .i64 r) (.int .i64 c) (.slice F2 i2.length f2) (.slice F3 i3.length f3) (.slice F4 i4.length f4) (.int .i64 r') (.int .i64 c') (.slice F7 i7.length f7) (.int .i64 r) (.int .i64 c) (.slice D2 i2.length d2) (.slice D3 i3.length d3) (.slice D4 i4.length d4) (.int .i64 r') (.int .i64 c') (.slice D7 i7.length d7) w6 := SB2.mk' KC6.out KA6.out (Below.refl _ _)
  have sn1 := sn0.keep (Below.refl _ _).drew
  go_region_held3 (SB2 w6 w5.heap.size w3.heap.size (.int .i64 r) (.int .i64 c) (.slice F2 i2.length f2) (.slice F3 i3.length f3) (.slice F4 i4.length f4) (.int .i64 r') (.int .i64 c') (.slice F7 i7.length f7) (.int .i64 r) (.int .i64 c) (.slice D2 i2.length d2) (.slice D3 i3.length d3) (.slice D4 i4.length d4) (.int .i64 r') (.int .i64 c') (.slice D7 i7.length d7))
    (first | exact sn | exact sn1 | exact sn0)
    (first
    | (go_at_call 11; (with_reducible refine (same_calls r c i2 LR i4 r' c' i7 F2 f2 FA fA F4 f4 F7 f7 D2 d2 FB fB D4 d4 D7 d7 _ (CX KF6.out.1 (SB2.bel (by assumption))) XA.out (CX KF6.out.2.2.1 (SB2.bel (by assumption))) (CX KF6.out.2.2.2 (SB2.bel (by assumption))) (CX KI6.out.1 (SB2.bel (by assumption))) XB.out (CX KI6.out.2.2.1 (SB2.bel (by assumption))) (CX KI6.out.2.2.2 (SB2.bel (by assumption))) NL.out.1 NL.out.2 (Nat.le_trans LI.out.1.1 (by decide)) (Nat.le_trans LI.out.1.2.1 (by decide)) (Nat.le_trans LI.out.1.2.2 (by decide))).mono ?_); rintro e wc ⟨rfl, hbc⟩; have sn := SB2.keep (by assumption) hbc; clear hbc)
    | (go_at_call 12; (with_reducible refine (full_calls' LR r c i2 i3 i4 r' c' i7 F2 f2 F3 f3 F4 f4 F7 f7 _ (CX KF6.out.2.1 (SB2.bel (by assumption))).1 (Nat.le_trans LI.out.2.1 (by decide)) HLR.out).mono ?_); rintro e wc ⟨FA, fA, rfl, hC, hf, hbc⟩; have sn := SB2.keep (by assumption) hbc; (try have XB := Aside0.mk (CX XB.out hbc)); have XA := Aside0.mk (And.intro hC hf); clear hC hf hbc)
    | (go_at_call 12; (with_reducible refine (full_calls' LR r c i2 i3 i4 r' c' i7 D2 d2 D3 d3 D4 d4 D7 d7 _ (CX KI6.out.2.1 (SB2.bel (by assumption))).1 (Nat.le_trans LI.out.2.1 (by decide)) HLR.out).mono ?_); rintro e wc ⟨FB, fB, rfl, hC, hf, hbc⟩; have sn := SB2.keep (by assumption) hbc; (try have XA := Aside0.mk (CX XA.out hbc)); have XB := Aside0.mk (And.intro hC hf); clear hC hf hbc))
  have HS := Aside0.mk sn
  clear sn sn0 sn1
  go_wp2_with (go_at_call 18; go_loud ((refine (spoil_calls w5.heap.size w4.heap.size r c i2 i3 i4 r' c' i7 F2 f2 F3 f3 F4 f4 F7 f7 at_ _ HS.out.2.2.1 (Kd.R_below RC6.out.1 (SB2.bel HS.out)) (Kd.R_below RC6.out.2.1 (SB2.bel HS.out)) (Kd.R_below RC6.out.2.2.1 (SB2.bel HS.out)) (Kd.R_below RC6.out.2.2.2 (SB2.bel HS.out)) LI.out.2.1 (Nat.le_trans LI.out.1.1 (by decide)) (Nat.le_trans LI.out.1.2.1 (by decide)) (Nat.le_trans LI.out.1.2.2 (by decide)) LI.out.2.2 (Nat.le_trans B6.out.size (SB2.bel HS.out).size) HAT.out.1 HAT.out.2).mono ?_); rintro e w8 ⟨⟨v, rfl⟩, hb⟩; have B8 := Aside0.mk ((B6.out.trans ((SB2.bel HS.out).mono B6.out.size)).trans hb); have KA8 := Aside0.mk ((hb.block _ (blk_lt KA4.out)).trans HS.out.2.2.2.1); have KI8 := Aside0.mk (show _ ∧ _ ∧ _ ∧ _ from ⟨CX KI.out.1 B8.out, CX KI.out.2.1 B8.out, CX KI.out.2.2.1 B8.out, CX KI.out.2.2.2 B8.out⟩); have K8 := Aside0.mk (blk_below K4.out B8.out); have BW8 := Aside0.mk (B4.out.trans (B8.out.mono B4.out.size)); clear hb))
  have sn0 : SB2 w8 w3.heap.size w.heap.size (.int .i64 r) (.int .i64 c) (.slice D2 i2.length d2) (.slice D3 i3.length d3) (.slice D4 i4.length d4) (.int .i64 r') (.int .i64 c') (.slice D7 i7.length d7) (.int .i64 r) (.int .i64 c) (.slice A2 l2.length c2) (.slice A3 l3.length c3) (.slice A4 l4.length c4) (.int .i64 r') (.int .i64 c') (.slice A7 l7.length c7) w8 := SB2.mk' KA8.out K8.out (Below.refl _ _)
  have sn1 := sn0.keep (Below.refl _ _).drew
  clear XA XB
  go_region_held3 (SB2 w8 w3.heap.size w.heap.size (.int .i64 r) (.int .i64 c) (.slice D2 i2.length d2) (.slice D3 i3.length d3) (.slice D4 i4.length d4) (.int .i64 r') (.int .i64 c') (.slice D7 i7.length d7) (.int .i64 r) (.int .i64 c) (.slice A2 l2.length c2) (.slice A3 l3.length c3) (.slice A4 l4.length c4) (.int .i64 r') (.int .i64 c') (.slice A7 l7.length c7))
    (first | exact sn | exact sn1 | exact sn0)
    (first
    | (go_at_call 10; (with_reducible refine (tillerlaw06_awake.calls 50 true _ AW.out).mono ?_); rintro e wc ⟨rfl, hbc⟩; have sn := SB2.keep (by assumption) hbc; clear hbc)
    | (go_at_call 11; (with_reducible refine (same_calls r c i2 LR i4 r' c' i7 D2 d2 FD fD D4 d4 D7 d7 G2 g2_ FE fE G4 g4_ G7 g7_ _ (CX KI8.out.1 (SB2.bel (by assumption))) XD.out (CX KI8.out.2.2.1 (SB2.bel (by assumption))) (CX KI8.out.2.2.2 (SB2.bel (by assumption))) KG.out.1 XE.out KG.out.2.2.1 KG.out.2.2.2 NL.out.1 NL.out.2 (Nat.le_trans LI.out.1.1 (by decide)) (Nat.le_trans LI.out.1.2.1 (by decide)) (Nat.le_trans LI.out.1.2.2 (by decide))).mono ?_); rintro e wc ⟨rfl, hbc⟩; have sn := SB2.keep (by assumption) hbc; clear hbc)
    | (go_at_call 12; (with_reducible refine (full_calls' LR r c i2 i3 i4 r' c' i7 D2 d2 D3 d3 D4 d4 D7 d7 _ (CX KI8.out.2.1 (SB2.bel (by assumption))).1 (Nat.le_trans LI.out.2.1 (by decide)) HLR.out).mono ?_); rintro e wc ⟨FD, fD, rfl, hC, hf, hbc⟩; have sn := SB2.keep (by assumption) hbc; have XD := Aside0.mk (And.intro hC hf); clear hC hf hbc)
    | (go_at_call 12; (with_reducible refine (full_calls' LR r c i2 i3 i4 r' c' i7 G2 g2_ G3 g3_ G4 g4_ G7 g7_ _ KG.out.2.1.1 (Nat.le_trans LI.out.2.1 (by decide)) HLR.out).mono ?_); rintro e wc ⟨FE, fE, rfl, hC, hf, hbc⟩; have sn := SB2.keep (by assumption) hbc; have XD := Aside0.mk (CX XD.out hbc); have XE := Aside0.mk (And.intro hC hf); have KG := Aside0.mk (show _ ∧ _ ∧ _ ∧ _ from ⟨CX KG.out.1 hbc, CX KG.out.2.1 hbc, CX KG.out.2.2.1 hbc, CX KG.out.2.2.2 hbc⟩); clear hC hf hbc)
    | (go_at_call 15; (with_reducible refine (of_calls r c t2 t3 t4 r' c' t7 P2 p2_ P3 p3_ P4 p4_ P7 p7_ _ KP.out.1 KP.out.2.1 KP.out.2.2.1 KP.out.2.2.2 (Nat.le_trans LN.out.2.1 (by decide)) LN.out.1.1 LN.out.1.2.1 LN.out.1.2.2 LN.out.2.2).mono ?_); rintro e4 wc ⟨v2, v3, v4, v7, rfl, hr2, hs3, hr4, hr7, hbc⟩; rw [I2.out] at hr2; rw [I3.out] at hs3; rw [I4.out] at hr4; rw [I7.out] at hr7; obtain ⟨G2, g2_, rfl, e2, h2⟩ := Kd.R_reads hr2; obtain ⟨G3, g3_, rfl, e3, h3⟩ := Kd.R_reads hs3; obtain ⟨G4, g4_, rfl, e4, h4⟩ := Kd.R_reads hr4; obtain ⟨G7, g7_, rfl, e7, h7⟩ := Kd.R_reads hr7; have KG := Aside0.mk (show (Kd.C kI wc G2 i2.length i2 ∧ i2.length ≤ g2_) ∧ (Kd.C kB wc G3 i3.length i3 ∧ i3.length ≤ g3_) ∧ (Kd.C kI wc G4 i4.length i4 ∧ i4.length ≤ g4_) ∧ (Kd.C kI wc G7 i7.length i7 ∧ i7.length ≤ g7_) from ⟨⟨h2, e2⟩, ⟨h3, e3⟩, ⟨h4, e4⟩, ⟨h7, e7⟩⟩); have sn := SB2.keep (by assumption) hbc; have XD := Aside0.mk (CX XD.out hbc); clear hr2 hs3 hr4 hr7 e2 h2 e3 h3 e4 h4 e7 h7 hbc)
    | (go_at_call 16; (with_reducible refine (told_calls r c l2 l3 l4 r' c' l7 A2 c2 A3 c3 A4 c4 A7 c7 _ (CX H2.out (BT BW8.out (SB2.bel (by assumption)))) (CX H3.out (BT BW8.out (SB2.bel (by assumption)))) (CX H4.out (BT BW8.out (SB2.bel (by assumption)))) (CX H7.out (BT BW8.out (SB2.bel (by assumption)))) M3.out N2.out N4.out N7.out N3.out).mono ?_); rintro e wc ⟨v2, v3, v4, v7, rfl, hr2, hs3, hr4, hr7, hbc⟩; rw [T2.out] at hr2; rw [T3.out] at hs3; rw [T4.out] at hr4; rw [T7.out] at hr7; obtain ⟨P2, p2_, rfl, e2, h2⟩ := Kd.R_reads hr2; obtain ⟨P3, p3_, rfl, e3, h3⟩ := Kd.R_reads hs3; obtain ⟨P4, p4_, rfl, e4, h4⟩ := Kd.R_reads hr4; obtain ⟨P7, p7_, rfl, e7, h7⟩ := Kd.R_reads hr7; have KP := Aside0.mk (show (Kd.C kI wc P2 t2.length t2 ∧ t2.length ≤ p2_) ∧ (Kd.C kR wc P3 t3.length t3 ∧ t3.length ≤ p3_) ∧ (Kd.C kI wc P4 t4.length t4 ∧ t4.length ≤ p4_) ∧ (Kd.C kI wc P7 t7.length t7 ∧ t7.length ≤ p7_) from ⟨⟨h2, e2⟩, ⟨h3, e3⟩, ⟨h4, e4⟩, ⟨h7, e7⟩⟩); have sn := SB2.keep (by assumption) hbc; have XD := Aside0.mk (CX XD.out hbc); clear hr2 hs3 hr4 hr7 e2 h2 e3 h3 e4 h4 e7 h7 hbc))
  have HE := Aside0.mk (BT BW8.out (SB2.bel sn))
  clear sn sn0 sn1
  go_wp2
  go_ret
  exact ⟨rfl, HE.out⟩
open Classical in
noncomputable def tillerlaw06_ModelCopies.f (r c : Int) (l2 : List Int) (l3 : List BK) (l4 : List Int) (r' c' : Int) (l7 : List Int) (at_ : Int) : Option Bool :=
  if l3.length ≤ 4611686018427387904 ∧ l2.length < 35184372088832 ∧ l4.length < 35184372088832 ∧ l7.length < 35184372088832 ∧ (∀ b ∈ l3, lensB 0 0 b.f0 b.f1.f2 b.f2.f2 b.f3.f2 b.f4.f2 b.f5 b.f6.f2 b.f7.f2) ∧ -9223372036854775808 ≤ at_ ∧ at_ ≤ 9223372036854775807 then some true else none
theorem tillerlaw06_ModelCopies.calls (r c : Int) (A2 : Option Addr) (c2 : Nat) (l2 : List Int) (A3 : Option Addr) (c3 : Nat) (l3 : List BK) (A4 : Option Addr) (c4 : Nat) (l4 : List Int) (r' c' : Int) (A7 : Option Addr) (c7 : Nat) (l7 : List Int) (at_ : Int) (x : Bool) (w : World)
    (h2 : Kd.C kI w A2 l2.length l2) (e2 : l2.length ≤ c2) (h3 : Kd.C kB w A3 l3.length l3) (e3 : l3.length ≤ c3) (h4 : Kd.C kI w A4 l4.length l4) (e4 : l4.length ≤ c4) (h7 : Kd.C kI w A7 l7.length l7) (e7 : l7.length ≤ c7)
    (hr_ : Aside0 (x = true)) (h : tillerlaw06_ModelCopies.f r c l2 l3 l4 r' c' l7 at_ = some x) :
    Calls Try.prog 5 #[.agg #[.int .i64 r, .int .i64 c, .slice A2 l2.length c2, .slice A3 l3.length c3, .slice A4 l4.length c4, .int .i64 r', .int .i64 c', .slice A7 l7.length c7], .int .i64 at_] w fun e w' => e = .returned (.bool x) ∧ Below w.heap.size w w' := by
  have hr := hr_.out
  subst hr
  unfold tillerlaw06_ModelCopies.f at h
  split at h
  · rename_i hb
    obtain ⟨m3, n2, n4, n7, n3, a1, a2⟩ := hb
    exact copies_calls r c l2 l3 l4 r' c' l7 at_ A2 c2 A3 c3 A4 c4 A7 c7 w ⟨h2, e2⟩ ⟨h3, e3⟩ ⟨h4, e4⟩ ⟨h7, e7⟩ m3 n2 n4 n7 n3 a1 a2
  · cases h
end Go.Proofs.Ytdlhodbokkaghaa.OCopies
