/- ModelChecks, walked by hand. Written by this session's program gchecks.py. -/
import Derived.Test.YtdlhodbokkaghaaGQx3
import Derived.Test.YtdlhodbokkaghaaGQx18
import Derived.Test.YtdlhodbokkaghaaGRCheck
import Derived.Test.YtdlhodbokkaghaaGTold
import Derived.Test.YtdlhodbokkaghaaGOf
import Derived.Outline
set_option linter.unusedVariables false
set_option linter.unusedSimpArgs false
namespace Go.Proofs.Ytdlhodbokkaghaa.OChecks
open Go.RowKit Go.Proofs.YtdlhodbokkaghaaW.PrintWords Go.Proofs.YtdlhodbokkaghaaW.PrintLast Go.Proofs.YtdlhodbokkaghaaW.PrintMore Go.Proofs.Ytdlhodbokkaghaa.GQ Go.Proofs.Ytdlhodbokkaghaa.U
theorem awake_true : tillerlaw06_awake.f 50 = some true := by decide +kernel
/-! Plain facts. -/
theorem prompt_l0 (l : List Int) (v d hs hid ly : Int) : ∀ (k : Nat) (n i : Int), model_Prompt.l0 k l n i v d hs hid ly = tillerref06_Prompt.l0 k l n i v d hs hid ly := by
  intro k
  induction k with
  | zero => intro n i; rfl
  | succ k ih => intro n i; simp only [model_Prompt.l0, tillerref06_Prompt.l0, ih]
theorem prompt_run (l : List Int) (v d hs hid ly : Int) (hl : l.length ≤ 200) : ∀ (n i k : Nat), i + n = l.length → n < k → ∃ p, model_Prompt.l0 k l (l.length : Int) (i : Int) v d hs hid ly = some p := by
  intro n
  induction n with
  | zero =>
    intro i k hi hk
    obtain ⟨k, rfl⟩ := succ_of_lt (show 0 < k by omega)
    simp only [model_Prompt.l0]
    exact ⟨0, by rw [if_neg (by omega)]⟩
  | succ n ih =>
    intro i k hi hk
    obtain ⟨k, rfl⟩ := succ_of_lt (show 0 < k by omega)
    simp only [model_Prompt.l0]
    rw [if_pos (by omega), if_pos (by omega), if_pos (by omega)]
    by_cases c1 : rd l (i : Int) < 0
    · exact ⟨7, by rw [if_pos c1]⟩
    · rw [if_neg c1]
      by_cases c2 : rd l (i : Int) ≥ v
      · exact ⟨7, by rw [if_pos c2]⟩
      · rw [if_neg c2, w64 (by omega) (by omega), ← Int.natCast_one, ← Int.natCast_add]
        exact ih (i + 1) k (by omega) (by omega)
theorem prompt_eq (l : List Int) (v d hs hid ly : Int) (hl : l.length ≤ 200) : ∃ p, model_Prompt.f 300 v d hs hid ly l = some p ∧ tillerref06_Prompt.f 300 v d hs hid ly l = some p := by
  obtain ⟨p, hp⟩ := prompt_run l v d hs hid ly hl l.length 0 300 (by omega) (by omega)
  unfold model_Prompt.f tillerref06_Prompt.f
  by_cases c1 : (l.length : Int) = 0
  · exact ⟨8, by rw [if_pos c1], by rw [if_pos (by omega)]⟩
  · rw [if_neg c1, if_neg (show ¬ (l.length : Int) < 1 by omega)]
    by_cases c2 : (l.length : Int) > 128
    · exact ⟨2, by rw [if_pos c2], by rw [if_pos c2]⟩
    · rw [if_neg c2, if_neg c2]
      exact ⟨p, hp, by rw [← prompt_l0]; exact hp⟩
theorem blk_same (d h : Int) (b : BK) : blkB d h (cv_of (cv_told b)) = rblkB d h (cv_told b) := by
  unfold blkB rblkB cv_of cv_told
  simp only [List.take_take, Nat.min_self, show min 5000 100 = 100 from rfl]
theorem chk_same (v d hs hid ly r c : Int) (l2 : List Int) (l3 : List BK) (l4 : List Int) (r' c' : Int) (l7 : List Int) :
    chk v d hs hid ly r c ((l2.take 2000).take 2000) (((l3.take 5).map cv_told).map cv_of) ((l4.take 100).take 5000) r' c' ((l7.take 2000).take 2000) = rchk v d hs hid ly r c (l2.take 2000) ((l3.take 5).map cv_told) (l4.take 100) r' c' (l7.take 2000) := by
  unfold chk rchk
  have e1 : (((l3.take 5).map cv_told).map cv_of).all (blkB d hid) = ((l3.take 5).map cv_told).all (rblkB d hid) := by
    rw [List.all_map, List.all_map, List.all_map]
    congr 1
    funext b
    exact blk_same d hid b
  rw [e1]
  simp only [List.take_take, Nat.min_self, show min 5000 100 = 100 from rfl, List.length_map]
/-- The law's boxes: the configuration, what came, what it is told as, and what is made of that. -/
structure Bc (w W : World) (cf m0 m1 m2 : Array Value) (g1 g2 : Nat) : Prop where
  c : W.heap[w.heap.size]? = some (.cells cf 23 (0, 0))
  b : W.heap[g1]? = some (.cells m1 41 (0, 0))
  a : W.heap[g2]? = some (.cells m2 30 (0, 0))
  bel : Below w.heap.size w W
abbrev SC (w0 : World) (g0 g1 g2 : Nat) (a0 a1 a2 a3 a4 : Int) (u0 u1 u2 u3 u4 u5 u6 u7 v0 v1 v2 v3 v4 v5 v6 v7 : Value) (W : World) : Prop :=
  (W.cell? ⟨g0, 0, none⟩ = some (.int .i64 a0) ∧ W.cell? ⟨g0, 1, none⟩ = some (.int .i64 a1) ∧ W.cell? ⟨g0, 2, none⟩ = some (.int .i64 a2) ∧ W.cell? ⟨g0, 3, none⟩ = some (.int .i64 a3) ∧ W.cell? ⟨g0, 4, none⟩ = some (.int .i64 a4)) ∧
  (W.cell? ⟨g1, 0, none⟩ = some u0 ∧ W.cell? ⟨g1, 1, none⟩ = some u1 ∧ W.cell? ⟨g1, 2, none⟩ = some u2 ∧ W.cell? ⟨g1, 3, none⟩ = some u3 ∧ W.cell? ⟨g1, 4, none⟩ = some u4 ∧ W.cell? ⟨g1, 5, none⟩ = some u5 ∧ W.cell? ⟨g1, 6, none⟩ = some u6 ∧ W.cell? ⟨g1, 7, none⟩ = some u7) ∧
  (W.cell? ⟨g2, 0, none⟩ = some v0 ∧ W.cell? ⟨g2, 1, none⟩ = some v1 ∧ W.cell? ⟨g2, 2, none⟩ = some v2 ∧ W.cell? ⟨g2, 3, none⟩ = some v3 ∧ W.cell? ⟨g2, 4, none⟩ = some v4 ∧ W.cell? ⟨g2, 5, none⟩ = some v5 ∧ W.cell? ⟨g2, 6, none⟩ = some v6 ∧ W.cell? ⟨g2, 7, none⟩ = some v7) ∧
  W.heap[g0]? = some (.cells (CF a0 a1 a2 a3 a4) 23 (0, 0)) ∧ W.heap[g1]? = some (.cells #[u0, u1, u2, u3, u4, u5, u6, u7] 41 (0, 0)) ∧ W.heap[g2]? = some (.cells #[v0, v1, v2, v3, v4, v5, v6, v7] 30 (0, 0)) ∧ Below w0.heap.size w0 W
theorem SC.mk' {w0 W : World} {g0 g1 g2 : Nat} {a0 a1 a2 a3 a4 : Int} {u0 u1 u2 u3 u4 u5 u6 u7 v0 v1 v2 v3 v4 v5 v6 v7 : Value} (h0 : W.heap[g0]? = some (.cells (CF a0 a1 a2 a3 a4) 23 (0, 0))) (h1 : W.heap[g1]? = some (.cells #[u0, u1, u2, u3, u4, u5, u6, u7] 41 (0, 0))) (h2 : W.heap[g2]? = some (.cells #[v0, v1, v2, v3, v4, v5, v6, v7] 30 (0, 0))) (hb : Below w0.heap.size w0 W) : SC w0 g0 g1 g2 a0 a1 a2 a3 a4 u0 u1 u2 u3 u4 u5 u6 u7 v0 v1 v2 v3 v4 v5 v6 v7 W :=
  ⟨⟨blk_cell h0 0, blk_cell h0 1, blk_cell h0 2, blk_cell h0 3, blk_cell h0 4⟩, ⟨blk_cell h1 0, blk_cell h1 1, blk_cell h1 2, blk_cell h1 3, blk_cell h1 4, blk_cell h1 5, blk_cell h1 6, blk_cell h1 7⟩, ⟨blk_cell h2 0, blk_cell h2 1, blk_cell h2 2, blk_cell h2 3, blk_cell h2 4, blk_cell h2 5, blk_cell h2 6, blk_cell h2 7⟩, h0, h1, h2, hb⟩
theorem SC.keep {w0 W W' : World} {g0 g1 g2 : Nat} {a0 a1 a2 a3 a4 : Int} {u0 u1 u2 u3 u4 u5 u6 u7 v0 v1 v2 v3 v4 v5 v6 v7 : Value} (h : SC w0 g0 g1 g2 a0 a1 a2 a3 a4 u0 u1 u2 u3 u4 u5 u6 u7 v0 v1 v2 v3 v4 v5 v6 v7 W) (hb : Below W.heap.size W W') : SC w0 g0 g1 g2 a0 a1 a2 a3 a4 u0 u1 u2 u3 u4 u5 u6 u7 v0 v1 v2 v3 v4 v5 v6 v7 W' :=
  SC.mk' (blk_below h.2.2.2.1 hb) (blk_below h.2.2.2.2.1 hb) (blk_below h.2.2.2.2.2.1 hb) (h.2.2.2.2.2.2.trans (hb.mono h.2.2.2.2.2.2.size))
theorem SC.bel {w0 W : World} {g0 g1 g2 : Nat} {a0 a1 a2 a3 a4 : Int} {u0 u1 u2 u3 u4 u5 u6 u7 v0 v1 v2 v3 v4 v5 v6 v7 : Value} (h : SC w0 g0 g1 g2 a0 a1 a2 a3 a4 u0 u1 u2 u3 u4 u5 u6 u7 v0 v1 v2 v3 v4 v5 v6 v7 W) : Below w0.heap.size w0 W := h.2.2.2.2.2.2
theorem prompt_calls (v d hs hid ly : Int) (l : List Int) (p : Int) (A : Option Addr) (c : Nat) (w : World) (h : Kd.C (Kd.int .i64) w A l.length l ∧ l.length ≤ c) (hp : model_Prompt.f 300 v d hs hid ly l = some p) :
    Calls Try.prog 24 #[.agg #[.int .i64 v, .int .i64 d, .int .i64 hs, .int .i64 hid, .int .i64 ly], .slice A l.length c] w fun e w' => e = .returned (.int .i64 p) ∧ Below w.heap.size w w' := model_Prompt.calls 300 v d hs hid ly A c l p w h.1 h.2 hp
theorem rprompt_calls (v d hs hid ly : Int) (l : List Int) (p : Int) (A : Option Addr) (c : Nat) (w : World) (h : Kd.C (Kd.int .i64) w A l.length l ∧ l.length ≤ c) (hp : tillerref06_Prompt.f 300 v d hs hid ly l = some p) :
    Calls Try.prog 25 #[.agg #[.int .i64 v, .int .i64 d, .int .i64 hs, .int .i64 hid, .int .i64 ly], .slice A l.length c] w fun e w' => e = .returned (.int .i64 p) ∧ Below w.heap.size w w' := tillerref06_Prompt.calls 300 v d hs hid ly A c l p w h.1 h.2 hp
theorem CJ {w W : World} {A : Option Addr} {c : Nat} {l : List Int} (h : Kd.C (Kd.int .i64) w A l.length l ∧ l.length ≤ c) (hb : Below w.heap.size w W) : Kd.C (Kd.int .i64) W A l.length l ∧ l.length ≤ c := ⟨Kd.C_below h.1 hb, h.2⟩
theorem CX {α : Type} {k : Kd α} {w W : World} {A : Option Addr} {c : Nat} {l : List α} (h : k.C w A l.length l ∧ l.length ≤ c) (hb : Below w.heap.size w W) : k.C W A l.length l ∧ l.length ≤ c := ⟨Kd.C_below h.1 hb, h.2⟩
set_option maxHeartbeats 16000000 in
set_option maxRecDepth 100000 in
theorem checks_calls (v d hs hid ly r c : Int) (l2 : List Int) (l3 : List BK) (l4 : List Int) (r' c' : Int) (l7 : List Int) (lt : List Int) (A2 : Option Addr) (c2 : Nat) (A3 : Option Addr) (c3 : Nat) (A4 : Option Addr) (c4 : Nat) (A7 : Option Addr) (c7 : Nat) (A9 : Option Addr) (c9 : Nat) (w : World)
    (h2 : Kd.C kI w A2 l2.length l2 ∧ l2.length ≤ c2) (h3 : Kd.C kB w A3 l3.length l3 ∧ l3.length ≤ c3) (h4 : Kd.C kI w A4 l4.length l4 ∧ l4.length ≤ c4) (h7 : Kd.C kI w A7 l7.length l7 ∧ l7.length ≤ c7) (h9 : Kd.C (Kd.int .i64) w A9 lt.length lt ∧ lt.length ≤ c9)
    (m3 : l3.length ≤ 4611686018427387904) (n2 : l2.length < 35184372088832) (n4 : l4.length < 35184372088832) (n7 : l7.length < 35184372088832) (n3 : ∀ b ∈ l3, lensB 0 0 b.f0 b.f1.f2 b.f2.f2 b.f3.f2 b.f4.f2 b.f5 b.f6.f2 b.f7.f2) (n9 : lt.length ≤ 140737488351232) :
    Calls Try.prog 8 #[.agg #[.int .i64 v, .int .i64 d, .int .i64 hs, .int .i64 hid, .int .i64 ly], .agg #[.int .i64 r, .int .i64 c, .slice A2 l2.length c2, .slice A3 l3.length c3, .slice A4 l4.length c4, .int .i64 r', .int .i64 c', .slice A7 l7.length c7], .slice A9 lt.length c9] w fun e w' => e = .returned (.bool true) ∧ Below w.heap.size w w' := by
  have H2 := Aside0.mk h2
  have H3 := Aside0.mk h3
  have H4 := Aside0.mk h4
  have H7 := Aside0.mk h7
  have H9 := Aside0.mk h9
  have M3 := Aside0.mk m3
  have N2 := Aside0.mk n2
  have N4 := Aside0.mk n4
  have N7 := Aside0.mk n7
  have N3 := Aside0.mk n3
  have SN := Aside0.mk (SK.start (w := w) (a0 := v) (a1 := d) (a2 := hs) (a3 := hid) (a4 := ly) (u0 := .int .i64 r) (u1 := .int .i64 c) (u2 := .slice A2 l2.length c2) (u3 := .slice A3 l3.length c3) (u4 := .slice A4 l4.length c4) (u5 := .int .i64 r') (u6 := .int .i64 c') (u7 := .slice A7 l7.length c7))
  obtain ⟨LT, hLT⟩ : ∃ LT, lt.take 200 = LT := ⟨_, rfl⟩
  have N9 := Aside0.mk n9
  have HLT := Aside0.mk hLT
  clear h2 h3 h4 h7 h9 m3 n2 n4 n7 n3 n9 hLT
  go_enter Try.func8, Try.ntmps8
  go_upto_if 11 with fail
  go_cut [2] (fun s2 wx => s2 = .slice A9 LT.length c9 ∧ Aside0 (SK w w.heap.size v d hs hid ly (.int .i64 r) (.int .i64 c) (.slice A2 l2.length c2) (.slice A3 l3.length c3) (.slice A4 l4.length c4) (.int .i64 r') (.int .i64 c') (.slice A7 l7.length c7) wx))
  case first =>
    have n9 := N9.out
    have hc9 := H9.out.2
    by_cases hc : 200 < lt.length
    · have b1 : decide ((200 : Int) < (lt.length : Int)) = true := decide_eq_true (by omega)
      have hl : LT.length = 200 := by rw [← HLT.out, List.length_take]; omega
      have q1 : (200 : Int) ≤ (c9 : Int) := by omega
      have q2 : 200 ≤ c9 := by omega
      have HL := Aside0.mk hl
      clear hc n9 hc9 hl
      rw [b1]
      go_wp2
      go_meet
      exact ⟨by rw [HL.out], SN⟩
    · have b1 : decide ((200 : Int) < (lt.length : Int)) = false := decide_eq_false (by omega)
      have hl : LT = lt := by rw [← HLT.out, List.take_of_length_le (by omega)]
      subst hl
      clear hc n9 hc9
      rw [b1]
      go_wp2
      go_meet
      exact ⟨rfl, SN⟩
  case rest =>
    clear SN
    obtain ⟨rfl, SN⟩ := hcut
    have K9 := Aside0.mk (show Kd.C (Kd.int .i64) w A9 LT.length LT ∧ LT.length ≤ c9 by
      have hl := HLT.out
      by_cases hc : 200 ≤ lt.length
      · have h := Kd.C_take H9.out.1 hc
        rw [hl] at h
        refine ⟨h, ?_⟩
        have := H9.out.2
        rw [← hl, List.length_take]
        omega
      · rw [← hl, List.take_of_length_le (by omega)]
        exact H9.out)
    obtain ⟨p, hp1, hp2⟩ := prompt_eq LT v d hs hid ly (by rw [← HLT.out, List.length_take]; omega)
    have P1 := Aside0.mk hp1
    have P2 := Aside0.mk hp2
    clear hp1 hp2
    have AW := Aside0.mk awake_true
    have hs1 := Aside0.mk (shape_eq 0 v d hs hid ly)
    have hs2 := Aside0.mk (rshape_eq v d hs hid ly)
    obtain ⟨sv, hsv⟩ : ∃ s, shp v d hs hid ly = s := ⟨_, rfl⟩
    have S1 := Aside0.mk (show model_Shape.f 2 v d hs hid ly = some sv by rw [← hsv]; exact hs1.out)
    have S2 := Aside0.mk (show tillerref06_Shape.f 20 v d hs hid ly = some sv by rw [← hsv]; exact hs2.out)
    clear hs1 hs2 hsv
    obtain ⟨⟨x0, x1, x2, x3, x4, y0, y1, y2, y3, y4, y5, y6, y7⟩, _⟩ := SN.out
    obtain ⟨t2, ht2⟩ : ∃ t, l2.take 2000 = t := ⟨_, rfl⟩
    obtain ⟨t3, ht3⟩ : ∃ t, (l3.take 5).map cv_told = t := ⟨_, rfl⟩
    obtain ⟨t4, ht4⟩ : ∃ t, l4.take 100 = t := ⟨_, rfl⟩
    obtain ⟨t7, ht7⟩ : ∃ t, l7.take 2000 = t := ⟨_, rfl⟩
    obtain ⟨i2, hi2⟩ : ∃ t, t2.take 2000 = t := ⟨_, rfl⟩
    obtain ⟨i3, hi3⟩ : ∃ t, t3.map cv_of = t := ⟨_, rfl⟩
    obtain ⟨i4, hi4⟩ : ∃ t, t4.take 5000 = t := ⟨_, rfl⟩
    obtain ⟨i7, hi7⟩ : ∃ t, t7.take 2000 = t := ⟨_, rfl⟩
    have hck := chk_same v d hs hid ly r c l2 l3 l4 r' c' l7
    rw [ht2, ht3, ht4, ht7, hi2, hi3, hi4, hi7] at hck
    obtain ⟨e, he⟩ : ∃ e, rchk v d hs hid ly r c t2 t3 t4 r' c' t7 = e := ⟨_, rfl⟩
    rw [he] at hck
    have R1 := Aside0.mk hck
    have R2 := Aside0.mk he
    have LN := Aside0.mk (show (t2.length < 35184372088832 ∧ t4.length < 35184372088832 ∧ t7.length < 35184372088832) ∧ t3.length ≤ 5 ∧ (∀ b ∈ t3, lensB 0 0 b.f0 b.f1.f2 b.f2.f2 b.f3.f2 b.f4.f2 b.f5 b.f6.f2 b.f7.f2) ∧ i3.length ≤ 5 by
      rw [← hi3, List.length_map, ← ht2, ← ht3, ← ht4, ← ht7, List.length_take, List.length_take, List.length_take, List.length_map, List.length_take]
      refine ⟨⟨by omega, by omega, by omega⟩, by omega, ?_, by omega⟩
      intro b hb
      obtain ⟨b', hb', rfl⟩ := List.mem_map.mp hb
      have := N3.out b' (List.mem_of_mem_take hb')
      unfold lensB cv_told at *
      simp only [List.length_take]
      omega)
    have I2 := Aside0.mk hi2
    have I3 := Aside0.mk hi3
    have I4 := Aside0.mk hi4
    have I7 := Aside0.mk hi7
    have T2 := Aside0.mk ht2
    have T3 := Aside0.mk ht3
    have T4 := Aside0.mk ht4
    have T7 := Aside0.mk ht7
    clear ht2 ht3 ht4 ht7 hi2 hi3 hi4 hi7 hck he
    go_wp2_with (first
      | (go_at_call 15; go_loud (refine (of_calls r c t2 t3 t4 r' c' t7 B2 b2 B3 b3 B4 b4 B7 b7 w3 (CX KT.out.1 B3b.out) (CX KT.out.2.1 B3b.out) (CX KT.out.2.2.1 B3b.out) (CX KT.out.2.2.2 B3b.out) (Nat.le_trans LN.out.2.1 (by decide)) LN.out.1.1 LN.out.1.2.1 LN.out.1.2.2 LN.out.2.2.1).mono ?_); rintro e4 w4 ⟨v2, v3, v4, v7, rfl, hr2, hs3, hr4, hr7, hb⟩; rw [I2.out] at hr2; rw [I3.out] at hs3; rw [I4.out] at hr4; rw [I7.out] at hr7; obtain ⟨D2, d2, rfl, e2, h2⟩ := Kd.R_reads hr2; obtain ⟨D3, d3, rfl, e3, h3⟩ := Kd.R_reads hs3; obtain ⟨D4, d4, rfl, e4, h4⟩ := Kd.R_reads hr4; obtain ⟨D7, d7, rfl, e7, h7⟩ := Kd.R_reads hr7; have KI := Aside0.mk (show (Kd.C kI w4 D2 i2.length i2 ∧ i2.length ≤ d2) ∧ (Kd.C kB w4 D3 i3.length i3 ∧ i3.length ≤ d3) ∧ (Kd.C kI w4 D4 i4.length i4 ∧ i4.length ≤ d4) ∧ (Kd.C kI w4 D7 i7.length i7 ∧ i7.length ≤ d7) from ⟨⟨h2, e2⟩, ⟨h3, e3⟩, ⟨h4, e4⟩, ⟨h7, e7⟩⟩); have KG4 := Aside0.mk (blk_below KG3.out hb); have BT4 := Aside0.mk (blk_below BT3.out hb); have B4b := Aside0.mk hb; clear hr2 hs3 hr4 hr7 e2 h2 e3 h3 e4 h4 e7 h7 hb)
      | (go_at_call 16; go_loud (refine (told_calls r c l2 l3 l4 r' c' l7 A2 c2 A3 c3 A4 c4 A7 c7 wc (CX H2.out SN.out.2.2.2) (CX H3.out SN.out.2.2.2) (CX H4.out SN.out.2.2.2) (CX H7.out SN.out.2.2.2) M3.out N2.out N4.out N7.out N3.out).mono ?_); rintro e w2 ⟨v2, v3, v4, v7, rfl, hr2, hs3, hr4, hr7, hb⟩; rw [T2.out] at hr2; rw [T3.out] at hs3; rw [T4.out] at hr4; rw [T7.out] at hr7; obtain ⟨B2, b2, rfl, e2, h2⟩ := Kd.R_reads hr2; obtain ⟨B3, b3, rfl, e3, h3⟩ := Kd.R_reads hs3; obtain ⟨B4, b4, rfl, e4, h4⟩ := Kd.R_reads hr4; obtain ⟨B7, b7, rfl, e7, h7⟩ := Kd.R_reads hr7; have KT := Aside0.mk (show (Kd.C kI w2 B2 t2.length t2 ∧ t2.length ≤ b2) ∧ (Kd.C kR w2 B3 t3.length t3 ∧ t3.length ≤ b3) ∧ (Kd.C kI w2 B4 t4.length t4 ∧ t4.length ≤ b4) ∧ (Kd.C kI w2 B7 t7.length t7 ∧ t7.length ≤ b7) from ⟨⟨h2, e2⟩, ⟨h3, e3⟩, ⟨h4, e4⟩, ⟨h7, e7⟩⟩); have KG2 := Aside0.mk (blk_below SN.out.2.1 hb); have B2b := Aside0.mk (SN.out.2.2.2.trans (hb.mono SN.out.2.2.2.size)); clear hr2 hs3 hr4 hr7 e2 h2 e3 h3 e4 h4 e7 h7 hb x0 x1 x2 x3 x4 y0 y1 y2 y3 y4 y5 y6 y7)
      | ((with_reducible refine gate_store (t := 41) (p := 7) rfl ?_); go_loud (refine store_new_event #[.int .i64 r, .int .i64 c, .slice B2 t2.length b2, .slice B3 t3.length b3, .slice B4 t4.length b4, .int .i64 r', .int .i64 c', .slice B7 t7.length b7] rfl rfl rfl rfl rfl (by kernel_rfl) rfl (by simp [Value.oneCell']) ?_); have B3b := Aside0.mk (below_alloc (Below.refl w2.heap.size w2) (.cells #[.int .i64 r, .int .i64 c, .slice B2 t2.length b2, .slice B3 t3.length b3, .slice B4 t4.length b4, .int .i64 r', .int .i64 c', .slice B7 t7.length b7] 41 (0, 0))); have KG3 := Aside0.mk (blk_alloc KG2.out (.cells #[.int .i64 r, .int .i64 c, .slice B2 t2.length b2, .slice B3 t3.length b3, .slice B4 t4.length b4, .int .i64 r', .int .i64 c', .slice B7 t7.length b7] 41 (0, 0))); have BT3 := Aside0.mk (blk_new w2 (.cells #[.int .i64 r, .int .i64 c, .slice B2 t2.length b2, .slice B3 t3.length b3, .slice B4 t4.length b4, .int .i64 r', .int .i64 c', .slice B7 t7.length b7] 41 (0, 0))); generalize w2.alloc (.cells #[.int .i64 r, .int .i64 c, .slice B2 t2.length b2, .slice B3 t3.length b3, .slice B4 t4.length b4, .int .i64 r', .int .i64 c', .slice B7 t7.length b7] 41 (0, 0)) = w3 at B3b KG3 BT3 ⊢; have y0 := blk_cell BT3.out 0; have y1 := blk_cell BT3.out 1; have y2 := blk_cell BT3.out 2; have y3 := blk_cell BT3.out 3; have y4 := blk_cell BT3.out 4; have y5 := blk_cell BT3.out 5; have y6 := blk_cell BT3.out 6; have y7 := blk_cell BT3.out 7; simp at y0 y1 y2 y3 y4 y5 y6 y7)
      | ((with_reducible refine gate_store (t := 30) (p := 8) rfl ?_); go_loud (refine store_new_event #[.int .i64 r, .int .i64 c, .slice D2 i2.length d2, .slice D3 i3.length d3, .slice D4 i4.length d4, .int .i64 r', .int .i64 c', .slice D7 i7.length d7] rfl rfl rfl rfl rfl (by kernel_rfl) rfl (by simp [Value.oneCell']) ?_); have B5b := Aside0.mk (below_alloc (Below.refl w4.heap.size w4) (.cells #[.int .i64 r, .int .i64 c, .slice D2 i2.length d2, .slice D3 i3.length d3, .slice D4 i4.length d4, .int .i64 r', .int .i64 c', .slice D7 i7.length d7] 30 (0, 0))); have KG5 := Aside0.mk (blk_alloc KG4.out (.cells #[.int .i64 r, .int .i64 c, .slice D2 i2.length d2, .slice D3 i3.length d3, .slice D4 i4.length d4, .int .i64 r', .int .i64 c', .slice D7 i7.length d7] 30 (0, 0))); have BT5 := Aside0.mk (blk_alloc BT4.out (.cells #[.int .i64 r, .int .i64 c, .slice D2 i2.length d2, .slice D3 i3.length d3, .slice D4 i4.length d4, .int .i64 r', .int .i64 c', .slice D7 i7.length d7] 30 (0, 0))); have BI5 := Aside0.mk (blk_new w4 (.cells #[.int .i64 r, .int .i64 c, .slice D2 i2.length d2, .slice D3 i3.length d3, .slice D4 i4.length d4, .int .i64 r', .int .i64 c', .slice D7 i7.length d7] 30 (0, 0))); generalize w4.alloc (.cells #[.int .i64 r, .int .i64 c, .slice D2 i2.length d2, .slice D3 i3.length d3, .slice D4 i4.length d4, .int .i64 r', .int .i64 c', .slice D7 i7.length d7] 30 (0, 0)) = w5 at B5b KG5 BT5 BI5 ⊢; clear y0 y1 y2 y3 y4 y5 y6 y7))
    have LB := Aside0.mk (B2b.out.trans ((B3b.out.trans ((B4b.out.trans (B5b.out.mono B4b.out.size)).mono B3b.out.size)).mono B2b.out.size))
    have KT5 := Aside0.mk (show _ ∧ _ ∧ _ ∧ _ from ⟨CX (CX (CX KT.out.1 B3b.out) B4b.out) B5b.out, CX (CX (CX KT.out.2.1 B3b.out) B4b.out) B5b.out, CX (CX (CX KT.out.2.2.1 B3b.out) B4b.out) B5b.out, CX (CX (CX KT.out.2.2.2 B3b.out) B4b.out) B5b.out⟩)
    have KI5 := Aside0.mk (show _ ∧ _ ∧ _ ∧ _ from ⟨CX KI.out.1 B5b.out, CX KI.out.2.1 B5b.out, CX KI.out.2.2.1 B5b.out, CX KI.out.2.2.2 B5b.out⟩)
    have K95 := Aside0.mk (CX K9.out LB.out)
    have sn0 : SC w5 w.heap.size w2.heap.size w4.heap.size v d hs hid ly (.int .i64 r) (.int .i64 c) (.slice B2 t2.length b2) (.slice B3 t3.length b3) (.slice B4 t4.length b4) (.int .i64 r') (.int .i64 c') (.slice B7 t7.length b7) (.int .i64 r) (.int .i64 c) (.slice D2 i2.length d2) (.slice D3 i3.length d3) (.slice D4 i4.length d4) (.int .i64 r') (.int .i64 c') (.slice D7 i7.length d7) w5 := SC.mk' KG5.out BT5.out BI5.out (Below.refl _ _)
    have sn1 := sn0.keep (Below.refl _ _).drew
    go_region_held3 (SC w5 w.heap.size w2.heap.size w4.heap.size v d hs hid ly (.int .i64 r) (.int .i64 c) (.slice B2 t2.length b2) (.slice B3 t3.length b3) (.slice B4 t4.length b4) (.int .i64 r') (.int .i64 c') (.slice B7 t7.length b7) (.int .i64 r) (.int .i64 c) (.slice D2 i2.length d2) (.slice D3 i3.length d3) (.slice D4 i4.length d4) (.int .i64 r') (.int .i64 c') (.slice D7 i7.length d7))
      (first | exact sn | exact sn1 | exact sn0)
      (first
      | (go_at_call 10; (with_reducible refine (tillerlaw06_awake.calls 50 true _ AW.out).mono ?_); rintro e wc ⟨rfl, hbc⟩; have sn := SC.keep (by assumption) hbc; clear hbc)
      | (go_at_call 22; (with_reducible refine (model_Shape.calls 2 v d hs hid ly sv _ S1.out).mono ?_); rintro e wc ⟨rfl, hbc⟩; have sn := SC.keep (by assumption) hbc; clear hbc)
      | (go_at_call 19; (with_reducible refine (tillerref06_Shape.calls 20 v d hs hid ly sv _ S2.out).mono ?_); rintro e wc ⟨rfl, hbc⟩; have sn := SC.keep (by assumption) hbc; clear hbc)
      | (go_at_call 20; (with_reducible refine (check_calls v d hs hid ly r c i2 i3 i4 r' c' i7 D2 d2 D3 d3 D4 d4 D7 d7 _ (CX KI5.out.1 (SC.bel (by assumption))) (CX KI5.out.2.1 (SC.bel (by assumption))) (CX KI5.out.2.2.1 (SC.bel (by assumption))) (CX KI5.out.2.2.2 (SC.bel (by assumption))) (Nat.le_trans LN.out.2.2.2 (by decide))).mono ?_); rintro e wc ⟨rfl, hbc⟩; rw [R1.out]; have sn := SC.keep (by assumption) hbc; clear hbc)
      | (go_at_call 23; (with_reducible refine (rcheck_calls v d hs hid ly r c t2 t3 t4 r' c' t7 B2 b2 B3 b3 B4 b4 B7 b7 _ (CX KT5.out.1 (SC.bel (by assumption))) (CX KT5.out.2.1 (SC.bel (by assumption))) (CX KT5.out.2.2.1 (SC.bel (by assumption))) (CX KT5.out.2.2.2 (SC.bel (by assumption))) (Nat.le_trans LN.out.2.1 (by decide))).mono ?_); rintro e wc ⟨rfl, hbc⟩; rw [R2.out]; have sn := SC.keep (by assumption) hbc; clear hbc)
      | (go_at_call 24; (with_reducible refine (prompt_calls v d hs hid ly LT p A9 c9 _ (CJ K95.out (SC.bel (by assumption))) P1.out).mono ?_); rintro e wc ⟨rfl, hbc⟩; have sn := SC.keep (by assumption) hbc; clear hbc)
      | (go_at_call 25; (with_reducible refine (rprompt_calls v d hs hid ly LT p A9 c9 _ (CJ K95.out (SC.bel (by assumption))) P2.out).mono ?_); rintro e wc ⟨rfl, hbc⟩; have sn := SC.keep (by assumption) hbc; clear hbc))
    have HS := Aside0.mk (LB.out.trans ((SC.bel sn).mono LB.out.size))
    clear sn sn0 sn1
    go_wp2
    go_ret
    exact ⟨rfl, HS.out⟩
open Classical in
noncomputable def tillerlaw06_ModelChecks.f (a0 a1 a2 a3 a4 : Int) (r c : Int) (l2 : List Int) (l3 : List BK) (l4 : List Int) (r' c' : Int) (l7 : List Int) (lt : List Int) : Option Bool :=
  if l3.length ≤ 4611686018427387904 ∧ l2.length < 35184372088832 ∧ l4.length < 35184372088832 ∧ l7.length < 35184372088832 ∧ (∀ b ∈ l3, lensB 0 0 b.f0 b.f1.f2 b.f2.f2 b.f3.f2 b.f4.f2 b.f5 b.f6.f2 b.f7.f2) ∧ lt.length ≤ 140737488351232 then some true else none
theorem tillerlaw06_ModelChecks.calls (a0 a1 a2 a3 a4 : Int) (r c : Int) (A2 : Option Addr) (c2 : Nat) (l2 : List Int) (A3 : Option Addr) (c3 : Nat) (l3 : List BK) (A4 : Option Addr) (c4 : Nat) (l4 : List Int) (r' c' : Int) (A7 : Option Addr) (c7 : Nat) (l7 : List Int) (A9 : Option Addr) (c9 : Nat) (lt : List Int) (x : Bool) (w : World)
    (h2 : Kd.C kI w A2 l2.length l2) (e2 : l2.length ≤ c2) (h3 : Kd.C kB w A3 l3.length l3) (e3 : l3.length ≤ c3) (h4 : Kd.C kI w A4 l4.length l4) (e4 : l4.length ≤ c4) (h7 : Kd.C kI w A7 l7.length l7) (e7 : l7.length ≤ c7) (h9 : Kd.C (Kd.int .i64) w A9 lt.length lt) (e9 : lt.length ≤ c9)
    (hr_ : Aside0 (x = true)) (h : tillerlaw06_ModelChecks.f a0 a1 a2 a3 a4 r c l2 l3 l4 r' c' l7 lt = some x) :
    Calls Try.prog 8 #[.agg #[.int .i64 a0, .int .i64 a1, .int .i64 a2, .int .i64 a3, .int .i64 a4], .agg #[.int .i64 r, .int .i64 c, .slice A2 l2.length c2, .slice A3 l3.length c3, .slice A4 l4.length c4, .int .i64 r', .int .i64 c', .slice A7 l7.length c7], .slice A9 lt.length c9] w fun e w' => e = .returned (.bool x) ∧ Below w.heap.size w w' := by
  have hr := hr_.out
  subst hr
  unfold tillerlaw06_ModelChecks.f at h
  split at h
  · rename_i hb
    obtain ⟨m3, n2, n4, n7, n3, n9⟩ := hb
    exact checks_calls a0 a1 a2 a3 a4 r c l2 l3 l4 r' c' l7 lt A2 c2 A3 c3 A4 c4 A7 c7 A9 c9 w ⟨h2, e2⟩ ⟨h3, e3⟩ ⟨h4, e4⟩ ⟨h7, e7⟩ ⟨h9, e9⟩ m3 n2 n4 n7 n3 n9
  · cases h

end Go.Proofs.Ytdlhodbokkaghaa.OChecks
