/- tillerref06.Check, walked by hand. -/
import Derived.Test.YtdlhodbokkaghaaGQx13
import Derived.Test.YtdlhodbokkaghaaGQx17
import Derived.Test.YtdlhodbokkaghaaGCheck
set_option linter.unusedVariables false
set_option linter.unusedSimpArgs false
namespace Go.Proofs.Ytdlhodbokkaghaa.GQ
open Go.RowKit Go.Proofs.YtdlhodbokkaghaaW.PrintWords Go.Proofs.YtdlhodbokkaghaaW.PrintLast Go.Proofs.YtdlhodbokkaghaaW.PrintMore Go.Proofs.Ytdlhodbokkaghaa.U
theorem fits_f (r c : Int) (l : List Int) (a b : Int) : tillerref06_fits.f 3 r c l a b = some (sideB r c l a b) := by
  unfold tillerref06_fits.f tillerref04_Check.f
  by_cases c6 : r = a
  · rw [if_pos c6]
    by_cases c7 : c = b
    · rw [if_pos c7]
      by_cases c1 : r < 1
      · rw [if_pos c1]
        simp only [tillerref04_Check.j0]
        rw [if_pos trivial, Option.bind_some]
        exact congrArg some (decide_eq_false (by omega)).symm
      · rw [if_neg c1]
        by_cases c2 : c < 1
        · rw [decide_eq_true c2]
          simp only [tillerref04_Check.j0]
          rw [if_pos trivial, Option.bind_some]
          exact congrArg some (decide_eq_false (by omega)).symm
        · rw [decide_eq_false c2]
          simp only [tillerref04_Check.j0]
          rw [if_neg (by decide)]
          by_cases c3 : r > 128
          · rw [if_pos c3]
            simp only [tillerref04_Check.j1]
            rw [if_pos trivial, Option.bind_some]
            exact congrArg some (decide_eq_false (by omega)).symm
          · rw [if_neg c3]
            by_cases c4 : c > 128
            · rw [decide_eq_true c4]
              simp only [tillerref04_Check.j1]
              rw [if_pos trivial, Option.bind_some]
              exact congrArg some (decide_eq_false (by omega)).symm
            · rw [decide_eq_false c4]
              simp only [tillerref04_Check.j1]
              rw [if_neg (by decide)]
              have hm := mul_bound (A := 128) (B := 128) (a := r) (b := c) (by omega) (by omega) (by omega) (by omega) (by omega)
              rw [w64 (by omega) (by omega)]
              by_cases c5 : (l.length : Int) = r * c
              · rw [if_pos c5, Option.bind_some]
                exact congrArg some (decide_eq_true (by refine ⟨?_, ?_, ?_, ?_, c5, c6, c7⟩ <;> omega)).symm
              · rw [if_neg c5, Option.bind_some]
                exact congrArg some (decide_eq_false (by rintro ⟨_, _, _, _, h, _⟩; exact c5 h)).symm
    · rw [if_neg c7]
      exact congrArg some (decide_eq_false (by rintro ⟨_, _, _, _, _, _, h⟩; exact c7 h)).symm
  · rw [if_neg c6]
    exact congrArg some (decide_eq_false (by rintro ⟨_, _, _, _, _, h, _⟩; exact c6 h)).symm
theorem fits_calls (r c : Int) (l : List Int) (a b : Int) (x : Bool) (A : Option Addr) (cc : Nat) (w : World) (hx : sideB r c l a b = x) (h : Kd.C kI w A l.length l ∧ l.length ≤ cc) :
    Calls Try.prog 37 #[.agg #[.int .i64 r, .int .i64 c, .slice A l.length cc], .int .i64 a, .int .i64 b] w fun e w' => e = .returned (.bool x) ∧ Below w.heap.size w w' :=
  tillerref06_fits.calls 3 r c A cc l a b x w h.1 h.2 (by rw [fits_f, hx])
theorem rshape_eq (v d hs hid ly : Int) : tillerref06_Shape.f 20 v d hs hid ly = some (shp v d hs hid ly) := by
  unfold tillerref06_Shape.f shp
  simp only [Option.bind_some]
  by_cases c1 : v < 2
  · simp [tillerref06_Shape.l0, rd, wrap64, c1]
  by_cases c2 : d < 1
  · simp [tillerref06_Shape.l0, rd, wrap64, c1, c2]
  by_cases c3 : hs < 1
  · simp [tillerref06_Shape.l0, rd, wrap64, c1, c2, c3]
  by_cases c4 : hid < 1
  · simp [tillerref06_Shape.l0, rd, wrap64, c1, c2, c3, c4]
  by_cases c5 : ly < 1
  · simp [tillerref06_Shape.l0, rd, wrap64, c1, c2, c3, c4, c5]
  by_cases d1 : v > 64
  · simp [tillerref06_Shape.l0, tillerref06_Shape.l1, rd, wrap64, c1, c2, c3, c4, c5, d1]
  by_cases d2 : d > 32
  · simp [tillerref06_Shape.l0, tillerref06_Shape.l1, rd, wrap64, c1, c2, c3, c4, c5, d1, d2]
  by_cases d3 : hs > 4
  · simp [tillerref06_Shape.l0, tillerref06_Shape.l1, rd, wrap64, c1, c2, c3, c4, c5, d1, d2, d3]
  by_cases d4 : hid > 64
  · simp [tillerref06_Shape.l0, tillerref06_Shape.l1, rd, wrap64, c1, c2, c3, c4, c5, d1, d2, d3, d4]
  by_cases d5 : ly > 4
  · simp [tillerref06_Shape.l0, tillerref06_Shape.l1, rd, wrap64, c1, c2, c3, c4, c5, d1, d2, d3, d4, d5]
  have h0 : ¬ hs = 0 := by omega
  have hm : Int.tmod d hs = d % hs := Int.tmod_eq_emod_of_nonneg (by omega)
  have hn : 0 ≤ d % hs := Int.emod_nonneg _ h0
  simp [tillerref06_Shape.l0, tillerref06_Shape.l1, rd, wrap64, c1, c2, c3, c4, c5, d1, d2, d3, d4, d5, h0, hm]
  by_cases e : d % hs = 0
  · simp [e]
  · rw [if_pos (by omega), if_neg e]
/-! the walk -/
/-- Both boxes, cell by cell (the document's). -/
abbrev SKR (w : World) (g : Nat) (a0 a1 a2 a3 a4 : Int) (u0 u1 u2 u3 u4 u5 u6 u7 : Value) (W : World) : Prop :=
  (W.cell? ⟨g, 0, none⟩ = some (.int .i64 a0) ∧ W.cell? ⟨g, 1, none⟩ = some (.int .i64 a1) ∧ W.cell? ⟨g, 2, none⟩ = some (.int .i64 a2) ∧ W.cell? ⟨g, 3, none⟩ = some (.int .i64 a3) ∧ W.cell? ⟨g, 4, none⟩ = some (.int .i64 a4) ∧ W.cell? ⟨g + 1, 0, none⟩ = some u0 ∧ W.cell? ⟨g + 1, 1, none⟩ = some u1 ∧ W.cell? ⟨g + 1, 2, none⟩ = some u2 ∧ W.cell? ⟨g + 1, 3, none⟩ = some u3 ∧ W.cell? ⟨g + 1, 4, none⟩ = some u4 ∧ W.cell? ⟨g + 1, 5, none⟩ = some u5 ∧ W.cell? ⟨g + 1, 6, none⟩ = some u6 ∧ W.cell? ⟨g + 1, 7, none⟩ = some u7) ∧ W.heap[g]? = some (.cells (CF a0 a1 a2 a3 a4) 23 (0, 0)) ∧ W.heap[g + 1]? = some (.cells #[u0, u1, u2, u3, u4, u5, u6, u7] 41 (0, 0)) ∧ Below w.heap.size w W
theorem SKR.mk' {w W : World} {g : Nat} {a0 a1 a2 a3 a4 : Int} {u0 u1 u2 u3 u4 u5 u6 u7 : Value} (h0 : W.heap[g]? = some (.cells (CF a0 a1 a2 a3 a4) 23 (0, 0))) (h1 : W.heap[g + 1]? = some (.cells #[u0, u1, u2, u3, u4, u5, u6, u7] 41 (0, 0))) (hb : Below w.heap.size w W) : SKR w g a0 a1 a2 a3 a4 u0 u1 u2 u3 u4 u5 u6 u7 W :=
  ⟨⟨blk_cell h0 0, blk_cell h0 1, blk_cell h0 2, blk_cell h0 3, blk_cell h0 4, blk_cell h1 0, blk_cell h1 1, blk_cell h1 2, blk_cell h1 3, blk_cell h1 4, blk_cell h1 5, blk_cell h1 6, blk_cell h1 7⟩, h0, h1, hb⟩
theorem SKR.keep {w W W' : World} {g : Nat} {a0 a1 a2 a3 a4 : Int} {u0 u1 u2 u3 u4 u5 u6 u7 : Value} (h : SKR w g a0 a1 a2 a3 a4 u0 u1 u2 u3 u4 u5 u6 u7 W) (hb : Below W.heap.size W W') : SKR w g a0 a1 a2 a3 a4 u0 u1 u2 u3 u4 u5 u6 u7 W' := SKR.mk' (blk_below h.2.1 hb) (blk_below h.2.2.1 hb) (h.2.2.2.trans (hb.mono h.2.2.2.size))
theorem SKR.start {w : World} {a0 a1 a2 a3 a4 : Int} {u0 u1 u2 u3 u4 u5 u6 u7 : Value} : SKR w w.heap.size a0 a1 a2 a3 a4 u0 u1 u2 u3 u4 u5 u6 u7 ((w.alloc (.cells (CF a0 a1 a2 a3 a4) 23 (0, 0))).alloc (.cells #[u0, u1, u2, u3, u4, u5, u6, u7] 41 (0, 0))) := by
  have e1 : (w.alloc (.cells (CF a0 a1 a2 a3 a4) 23 (0, 0))).heap.size = w.heap.size + 1 := World.size_alloc _ _
  refine SKR.mk' (blk_alloc (blk_new _ _) _) ?_ ((below_alloc (Below.refl _ _) _).alloc (by rw [e1]; omega) _)
  have h := blk_new (w.alloc (.cells (CF a0 a1 a2 a3 a4) 23 (0, 0))) (.cells #[u0, u1, u2, u3, u4, u5, u6, u7] 41 (0, 0))
  rwa [e1] at h
theorem SKR.bel' {w w5 W : World} {g : Nat} {a0 a1 a2 a3 a4 : Int} {u0 u1 u2 u3 u4 u5 u6 u7 : Value} (h : SKR w g a0 a1 a2 a3 a4 u0 u1 u2 u3 u4 u5 u6 u7 w5) (hb : Below w5.heap.size w5 W) : Below w.heap.size w W := h.2.2.2.trans (hb.mono h.2.2.2.size)
/-- The configuration, a block, and its row of four matrices, cell by cell. -/
abbrev SY (w5 : World) (g0 g gm : Nat) (a0 a1 a2 a3 a4 : Int) (u0 u1 u2 u3 u4 u5 u6 u7 u8 u9 u10 u11 u12 u13 u14 u15 u16 u17 u18 u19 v0 v1 v2 v3 v4 v5 v6 v7 v8 v9 v10 v11 : Value) (W : World) : Prop :=
  (W.cell? ⟨g0, 0, none⟩ = some (.int .i64 a0) ∧ W.cell? ⟨g0, 1, none⟩ = some (.int .i64 a1) ∧ W.cell? ⟨g0, 2, none⟩ = some (.int .i64 a2) ∧ W.cell? ⟨g0, 3, none⟩ = some (.int .i64 a3) ∧ W.cell? ⟨g0, 4, none⟩ = some (.int .i64 a4) ∧ W.cell? ⟨g, 0, none⟩ = some u0 ∧ W.cell? ⟨g, 1, none⟩ = some u1 ∧ W.cell? ⟨g, 2, none⟩ = some u2 ∧ W.cell? ⟨g, 3, none⟩ = some u3 ∧ W.cell? ⟨g, 4, none⟩ = some u4 ∧ W.cell? ⟨g, 5, none⟩ = some u5 ∧ W.cell? ⟨g, 6, none⟩ = some u6 ∧ W.cell? ⟨g, 7, none⟩ = some u7 ∧ W.cell? ⟨g, 8, none⟩ = some u8 ∧ W.cell? ⟨g, 9, none⟩ = some u9 ∧ W.cell? ⟨g, 10, none⟩ = some u10 ∧ W.cell? ⟨g, 11, none⟩ = some u11 ∧ W.cell? ⟨g, 12, none⟩ = some u12 ∧ W.cell? ⟨g, 13, none⟩ = some u13 ∧ W.cell? ⟨g, 14, none⟩ = some u14 ∧ W.cell? ⟨g, 15, none⟩ = some u15 ∧ W.cell? ⟨g, 16, none⟩ = some u16 ∧ W.cell? ⟨g, 17, none⟩ = some u17 ∧ W.cell? ⟨g, 18, none⟩ = some u18 ∧ W.cell? ⟨g, 19, none⟩ = some u19 ∧ W.cell? ⟨gm, 0, none⟩ = some v0 ∧ W.cell? ⟨gm, 1, none⟩ = some v1 ∧ W.cell? ⟨gm, 2, none⟩ = some v2 ∧ W.cell? ⟨gm, 3, none⟩ = some v3 ∧ W.cell? ⟨gm, 4, none⟩ = some v4 ∧ W.cell? ⟨gm, 5, none⟩ = some v5 ∧ W.cell? ⟨gm, 6, none⟩ = some v6 ∧ W.cell? ⟨gm, 7, none⟩ = some v7 ∧ W.cell? ⟨gm, 8, none⟩ = some v8 ∧ W.cell? ⟨gm, 9, none⟩ = some v9 ∧ W.cell? ⟨gm, 10, none⟩ = some v10 ∧ W.cell? ⟨gm, 11, none⟩ = some v11) ∧ W.heap[g0]? = some (.cells (CF a0 a1 a2 a3 a4) 23 (0, 0)) ∧ W.heap[g]? = some (.cells #[u0, u1, u2, u3, u4, u5, u6, u7, u8, u9, u10, u11, u12, u13, u14, u15, u16, u17, u18, u19] 74 (0, 0)) ∧ W.heap[gm]? = some (.cells #[v0, v1, v2, v3, v4, v5, v6, v7, v8, v9, v10, v11] 27 (0, 0)) ∧ Below w5.heap.size w5 W
theorem SY.mk' {w5 W : World} {g0 g gm : Nat} {a0 a1 a2 a3 a4 : Int} {u0 u1 u2 u3 u4 u5 u6 u7 u8 u9 u10 u11 u12 u13 u14 u15 u16 u17 u18 u19 v0 v1 v2 v3 v4 v5 v6 v7 v8 v9 v10 v11 : Value} (h0 : W.heap[g0]? = some (.cells (CF a0 a1 a2 a3 a4) 23 (0, 0))) (h1 : W.heap[g]? = some (.cells #[u0, u1, u2, u3, u4, u5, u6, u7, u8, u9, u10, u11, u12, u13, u14, u15, u16, u17, u18, u19] 74 (0, 0))) (h2 : W.heap[gm]? = some (.cells #[v0, v1, v2, v3, v4, v5, v6, v7, v8, v9, v10, v11] 27 (0, 0))) (hb : Below w5.heap.size w5 W) : SY w5 g0 g gm a0 a1 a2 a3 a4 u0 u1 u2 u3 u4 u5 u6 u7 u8 u9 u10 u11 u12 u13 u14 u15 u16 u17 u18 u19 v0 v1 v2 v3 v4 v5 v6 v7 v8 v9 v10 v11 W :=
  ⟨⟨blk_cell h0 0, blk_cell h0 1, blk_cell h0 2, blk_cell h0 3, blk_cell h0 4, blk_cell h1 0, blk_cell h1 1, blk_cell h1 2, blk_cell h1 3, blk_cell h1 4, blk_cell h1 5, blk_cell h1 6, blk_cell h1 7, blk_cell h1 8, blk_cell h1 9, blk_cell h1 10, blk_cell h1 11, blk_cell h1 12, blk_cell h1 13, blk_cell h1 14, blk_cell h1 15, blk_cell h1 16, blk_cell h1 17, blk_cell h1 18, blk_cell h1 19, blk_cell h2 0, blk_cell h2 1, blk_cell h2 2, blk_cell h2 3, blk_cell h2 4, blk_cell h2 5, blk_cell h2 6, blk_cell h2 7, blk_cell h2 8, blk_cell h2 9, blk_cell h2 10, blk_cell h2 11⟩, h0, h1, h2, hb⟩
theorem SY.keep {w5 W W' : World} {g0 g gm : Nat} {a0 a1 a2 a3 a4 : Int} {u0 u1 u2 u3 u4 u5 u6 u7 u8 u9 u10 u11 u12 u13 u14 u15 u16 u17 u18 u19 v0 v1 v2 v3 v4 v5 v6 v7 v8 v9 v10 v11 : Value} (h : SY w5 g0 g gm a0 a1 a2 a3 a4 u0 u1 u2 u3 u4 u5 u6 u7 u8 u9 u10 u11 u12 u13 u14 u15 u16 u17 u18 u19 v0 v1 v2 v3 v4 v5 v6 v7 v8 v9 v10 v11 W) (hb : Below W.heap.size W W') : SY w5 g0 g gm a0 a1 a2 a3 a4 u0 u1 u2 u3 u4 u5 u6 u7 u8 u9 u10 u11 u12 u13 u14 u15 u16 u17 u18 u19 v0 v1 v2 v3 v4 v5 v6 v7 v8 v9 v10 v11 W' := SY.mk' (blk_below h.2.1 hb) (blk_below h.2.2.1 hb) (blk_below h.2.2.2.1 hb) (h.2.2.2.2.trans (hb.mono h.2.2.2.2.size))
theorem SY.bel {w5 W : World} {g0 g gm : Nat} {a0 a1 a2 a3 a4 : Int} {u0 u1 u2 u3 u4 u5 u6 u7 u8 u9 u10 u11 u12 u13 u14 u15 u16 u17 u18 u19 v0 v1 v2 v3 v4 v5 v6 v7 v8 v9 v10 v11 : Value} (h : SY w5 g0 g gm a0 a1 a2 a3 a4 u0 u1 u2 u3 u4 u5 u6 u7 u8 u9 u10 u11 u12 u13 u14 u15 u16 u17 u18 u19 v0 v1 v2 v3 v4 v5 v6 v7 v8 v9 v10 v11 W) : Below w5.heap.size w5 W := h.2.2.2.2
def rblkB (d h : Int) (b : BR) : Bool := sideB b.f1.f0 b.f1.f1 b.f1.f2 d d && (sideB b.f2.f0 b.f2.f1 b.f2.f2 d d && (sideB b.f3.f0 b.f3.f1 b.f3.f2 d d && (sideB b.f4.f0 b.f4.f1 b.f4.f2 d d && (sideB b.f6.f0 b.f6.f1 b.f6.f2 h d && (sideB b.f7.f0 b.f7.f1 b.f7.f2 d h && (((b.f0.length : Int) == d) && ((b.f5.length : Int) == d)))))))
def rchk (v d hs hid ly r c : Int) (l2 : List Int) (l3 : List BR) (l4 : List Int) (r' c' : Int) (l7 : List Int) : Int :=
  if shp v d hs hid ly = 0 then (if sideB r c l2 v d = true ∧ sideB r' c' l7 v d = true ∧ (l4.length : Int) = d ∧ (l3.length : Int) = ly ∧ l3.all (rblkB d hid) = true then 0 else 4) else shp v d hs hid ly
/-- What is left to be looked at, of four answers. -/
def restB (s1 s2 s3 s4 : Bool) (j : Int) : Bool := if j = 0 then s1 && (s2 && (s3 && s4)) else if j = 1 then s2 && (s3 && s4) else if j = 2 then s3 && s4 else if j = 3 then s4 else true
theorem elem_atR {w : World} {A : Option Addr} {xs : List BR} (h : Kd.C kR w A xs.length xs) (i : Nat) (hi : i < xs.length) : ∃ ad cs, A = some ad ∧ kR.K w (rd_T74 xs (i : Int)) cs ∧ ∀ j u, cs[j]? = some u → w.cell? ((ad.add (i * 20)).add j) = some u := elem_at h i hi
set_option maxHeartbeats 16000000 in
set_option maxRecDepth 100000 in
theorem rcheck_calls (v d hs hid ly r c : Int) (l2 : List Int) (l3 : List BR) (l4 : List Int) (r' c' : Int) (l7 : List Int) (A2 : Option Addr) (c2 : Nat) (A3 : Option Addr) (c3 : Nat) (A4 : Option Addr) (c4 : Nat) (A7 : Option Addr) (c7 : Nat) (w : World)
    (h2 : Kd.C kI w A2 l2.length l2 ∧ l2.length ≤ c2) (h3 : Kd.C kR w A3 l3.length l3 ∧ l3.length ≤ c3) (h4 : Kd.C kI w A4 l4.length l4 ∧ l4.length ≤ c4) (h7 : Kd.C kI w A7 l7.length l7 ∧ l7.length ≤ c7) (m3 : l3.length ≤ 1000) :
    Calls Try.prog 23 #[.agg #[.int .i64 v, .int .i64 d, .int .i64 hs, .int .i64 hid, .int .i64 ly], .agg #[.int .i64 r, .int .i64 c, .slice A2 l2.length c2, .slice A3 l3.length c3, .slice A4 l4.length c4, .int .i64 r', .int .i64 c', .slice A7 l7.length c7]] w fun e w' => e = .returned (.int .i64 (rchk v d hs hid ly r c l2 l3 l4 r' c' l7)) ∧ Below w.heap.size w w' := by
  have H2 := Aside0.mk h2
  have H3 := Aside0.mk h3
  have H7 := Aside0.mk h7
  have M3 := Aside0.mk m3
  have SN := Aside0.mk (SKR.start (w := w) (a0 := v) (a1 := d) (a2 := hs) (a3 := hid) (a4 := ly) (u0 := (Value.int .i64 r)) (u1 := (Value.int .i64 c)) (u2 := (Value.slice A2 l2.length c2)) (u3 := (Value.slice A3 l3.length c3)) (u4 := (Value.slice A4 l4.length c4)) (u5 := (Value.int .i64 r')) (u6 := (Value.int .i64 c')) (u7 := (Value.slice A7 l7.length c7)))
  clear h2 h3 h4 h7 m3
  have hs0 := rshape_eq v d hs hid ly
  by_cases q0 : shp v d hs hid ly = 0
  · rw [q0] at hs0
    have HS := Aside0.mk hs0
    unfold rchk
    rw [if_pos q0]
    clear q0 hs0
    obtain ⟨x, hx⟩ : ∃ x : Bool, decide (sideB r c l2 v d = true ∧ sideB r' c' l7 v d = true ∧ (l4.length : Int) = d ∧ (l3.length : Int) = ly ∧ l3.all (rblkB d hid) = true) = x := ⟨_, rfl⟩
    rw [show (if sideB r c l2 v d = true ∧ sideB r' c' l7 v d = true ∧ (l4.length : Int) = d ∧ (l3.length : Int) = ly ∧ l3.all (rblkB d hid) = true then (0 : Int) else 4) = if x = true then 0 else 4 by rw [← hx]; simp only [decide_eq_true_eq]]
    obtain ⟨g0, hg0⟩ : ∃ g0 : Bool, (sideB r c l2 v d && (sideB r' c' l7 v d && (((l4.length : Int) == d) && ((l3.length : Int) == ly)))) = g0 := ⟨_, rfl⟩
    have hx2 : (g0 && l3.all (rblkB d hid)) = x := by
      rw [← hx, ← hg0]
      cases sideB r c l2 v d <;> cases sideB r' c' l7 v d <;> by_cases e3 : (l4.length : Int) = d <;> by_cases e4 : (l3.length : Int) = ly <;> cases l3.all (rblkB d hid) <;> simp [e3, e4]
    have HX := Aside0.mk hx2
    have HG := Aside0.mk hg0
    clear hx hg0 hx2
    go_enter Try.func23, Try.ntmps23
    obtain ⟨z0, z1, z2, z3, z4, y0, y1, y2, y3, y4, y5, y6, y7⟩ := SN.out.1
    go_upto_region 4 with (go_at_call 19; go_loud (refine (tillerref06_Shape.calls 20 v d hs hid ly 0 _ HS.out).mono ?_); rintro e wc ⟨rfl, hbc⟩; have SN := Aside0.mk (SKR.keep SN.out hbc); clear z0 z1 z2 z3 z4 y0 y1 y2 y3 y4 y5 y6 y7; obtain ⟨z0, z1, z2, z3, z4, y0, y1, y2, y3, y4, y5, y6, y7⟩ := SN.out.1; clear hbc)
    go_cut [6] (fun s6 wx => s6 = .bool g0 ∧ Aside0 (SKR w w.heap.size v d hs hid ly (Value.int .i64 r) (Value.int .i64 c) (Value.slice A2 l2.length c2) (Value.slice A3 l3.length c3) (Value.slice A4 l4.length c4) (Value.int .i64 r') (Value.int .i64 c') (Value.slice A7 l7.length c7) wx))
    case first =>
      by_cases q1 : sideB r c l2 v d = true
      · have E1 := Aside0.mk q1
        clear q1
        by_cases q2 : sideB r' c' l7 v d = true
        · have E2 := Aside0.mk q2
          clear q2
          by_cases q3 : (l4.length : Int) = d
          · have E3 := Aside0.mk q3
            have e3 : ((l4.length : Int) == d) = true := by simp [q3]
            clear q3
            by_cases q4 : (l3.length : Int) = ly
            · have E4 := Aside0.mk q4
              have e4 : ((l3.length : Int) == ly) = true := by simp [q4]
              clear q4
              have eg : g0 = true := by rw [← HG.out]; simp [E1.out, E2.out, E3.out, E4.out]
              subst eg
              go_wp2_with (first | (go_at_call 37; (with_reducible refine (fits_calls r c l2 v d true A2 c2 _ E1.out (CB H2.out SN.out.2.2.2)).mono ?_); rintro e wc ⟨rfl, hbc⟩; have SN := Aside0.mk (SKR.keep SN.out hbc); clear z0 z1 z2 z3 z4 y0 y1 y2 y3 y4 y5 y6 y7; obtain ⟨z0, z1, z2, z3, z4, y0, y1, y2, y3, y4, y5, y6, y7⟩ := SN.out.1; clear hbc) | (go_at_call 37; (with_reducible refine (fits_calls r' c' l7 v d true A7 c7 _ E2.out (CB H7.out SN.out.2.2.2)).mono ?_); rintro e wc ⟨rfl, hbc⟩; have SN := Aside0.mk (SKR.keep SN.out hbc); clear z0 z1 z2 z3 z4 y0 y1 y2 y3 y4 y5 y6 y7; obtain ⟨z0, z1, z2, z3, z4, y0, y1, y2, y3, y4, y5, y6, y7⟩ := SN.out.1; clear hbc))
              go_meet
              exact ⟨rfl, SN⟩
            · have E4 := Aside0.mk q4
              have e4 : ((l3.length : Int) == ly) = false := by simpa using q4
              clear q4
              have eg : g0 = false := by rw [← HG.out]; simp [E1.out, E2.out, E3.out, E4.out]
              subst eg
              go_wp2_with (first | (go_at_call 37; (with_reducible refine (fits_calls r c l2 v d true A2 c2 _ E1.out (CB H2.out SN.out.2.2.2)).mono ?_); rintro e wc ⟨rfl, hbc⟩; have SN := Aside0.mk (SKR.keep SN.out hbc); clear z0 z1 z2 z3 z4 y0 y1 y2 y3 y4 y5 y6 y7; obtain ⟨z0, z1, z2, z3, z4, y0, y1, y2, y3, y4, y5, y6, y7⟩ := SN.out.1; clear hbc) | (go_at_call 37; (with_reducible refine (fits_calls r' c' l7 v d true A7 c7 _ E2.out (CB H7.out SN.out.2.2.2)).mono ?_); rintro e wc ⟨rfl, hbc⟩; have SN := Aside0.mk (SKR.keep SN.out hbc); clear z0 z1 z2 z3 z4 y0 y1 y2 y3 y4 y5 y6 y7; obtain ⟨z0, z1, z2, z3, z4, y0, y1, y2, y3, y4, y5, y6, y7⟩ := SN.out.1; clear hbc))
              go_meet
              exact ⟨rfl, SN⟩
          · have E3 := Aside0.mk q3
            have e3 : ((l4.length : Int) == d) = false := by simpa using q3
            clear q3
            have eg : g0 = false := by rw [← HG.out]; simp [E1.out, E2.out, E3.out]
            subst eg
            go_wp2_with (first | (go_at_call 37; (with_reducible refine (fits_calls r c l2 v d true A2 c2 _ E1.out (CB H2.out SN.out.2.2.2)).mono ?_); rintro e wc ⟨rfl, hbc⟩; have SN := Aside0.mk (SKR.keep SN.out hbc); clear z0 z1 z2 z3 z4 y0 y1 y2 y3 y4 y5 y6 y7; obtain ⟨z0, z1, z2, z3, z4, y0, y1, y2, y3, y4, y5, y6, y7⟩ := SN.out.1; clear hbc) | (go_at_call 37; (with_reducible refine (fits_calls r' c' l7 v d true A7 c7 _ E2.out (CB H7.out SN.out.2.2.2)).mono ?_); rintro e wc ⟨rfl, hbc⟩; have SN := Aside0.mk (SKR.keep SN.out hbc); clear z0 z1 z2 z3 z4 y0 y1 y2 y3 y4 y5 y6 y7; obtain ⟨z0, z1, z2, z3, z4, y0, y1, y2, y3, y4, y5, y6, y7⟩ := SN.out.1; clear hbc))
            go_meet
            exact ⟨rfl, SN⟩
        · have E2 := Aside0.mk (Bool.eq_false_iff.mpr q2)
          clear q2
          have eg : g0 = false := by rw [← HG.out]; simp [E1.out, E2.out]
          subst eg
          go_wp2_with (first | (go_at_call 37; (with_reducible refine (fits_calls r c l2 v d true A2 c2 _ E1.out (CB H2.out SN.out.2.2.2)).mono ?_); rintro e wc ⟨rfl, hbc⟩; have SN := Aside0.mk (SKR.keep SN.out hbc); clear z0 z1 z2 z3 z4 y0 y1 y2 y3 y4 y5 y6 y7; obtain ⟨z0, z1, z2, z3, z4, y0, y1, y2, y3, y4, y5, y6, y7⟩ := SN.out.1; clear hbc) | (go_at_call 37; (with_reducible refine (fits_calls r' c' l7 v d false A7 c7 _ E2.out (CB H7.out SN.out.2.2.2)).mono ?_); rintro e wc ⟨rfl, hbc⟩; have SN := Aside0.mk (SKR.keep SN.out hbc); clear z0 z1 z2 z3 z4 y0 y1 y2 y3 y4 y5 y6 y7; obtain ⟨z0, z1, z2, z3, z4, y0, y1, y2, y3, y4, y5, y6, y7⟩ := SN.out.1; clear hbc))
          go_meet
          exact ⟨rfl, SN⟩
      · have E1 := Aside0.mk (Bool.eq_false_iff.mpr q1)
        clear q1
        have eg : g0 = false := by rw [← HG.out]; simp [E1.out]
        subst eg
        go_wp2_with (first | (go_at_call 37; (with_reducible refine (fits_calls r c l2 v d false A2 c2 _ E1.out (CB H2.out SN.out.2.2.2)).mono ?_); rintro e wc ⟨rfl, hbc⟩; have SN := Aside0.mk (SKR.keep SN.out hbc); clear z0 z1 z2 z3 z4 y0 y1 y2 y3 y4 y5 y6 y7; obtain ⟨z0, z1, z2, z3, z4, y0, y1, y2, y3, y4, y5, y6, y7⟩ := SN.out.1; clear hbc))
        go_meet
        exact ⟨rfl, SN⟩
    case rest =>
      clear z0 z1 z2 z3 z4 y0 y1 y2 y3 y4 y5 y6 y7 SN
      obtain ⟨rfl, SN⟩ := hcut
      obtain ⟨z0, z1, z2, z3, z4, y0, y1, y2, y3, y4, y5, y6, y7⟩ := SN.out.1
      go_wp2
      clear z0 z1 z2 z3 z4 y0 y1 y2 y3 y4 y5 y6 y7
      have SL := Aside0.mk SN.out
      go_loopg [51, 6] l3.length (fun kq v51 v6 w' => ∃ (i : Nat) (g : Bool), v51 = .int .i64 (i : Int) ∧ v6 = .bool g ∧ Aside0 (i + kq = l3.length) ∧ Aside0 ((g && (l3.drop i).all (rblkB d hid)) = x) ∧ Aside0 (SKR w w.heap.size v d hs hid ly (Value.int .i64 r) (Value.int .i64 c) (Value.slice A2 l2.length c2) (Value.slice A3 l3.length c3) (Value.slice A4 l4.length c4) (Value.int .i64 r') (Value.int .i64 c') (Value.slice A7 l7.length c7) w'))
      case atStart => exact ⟨0, g0, rfl, rfl, ⟨Nat.zero_add _⟩, ⟨by rw [List.drop_zero]; exact HX.out⟩, SL⟩
      case round =>
        clear SL
        obtain ⟨i, g, rfl, rfl, HI, HA, SQ⟩ := hrel
        have hi := HI.out
        have hm := M3.out
        cases gk with
        | succ q =>
          have b1 : decide (i < l3.length) = true := decide_eq_true (by omega)
          have p1 : 0 ≤ (i : Int) := by omega
          have q1 : (i : Int) < (l3.length : Int) := by omega
          have i2 : (i : Int) + 1 ≤ 1000 := by omega
          obtain ⟨ax, csx, e1, hKx, hcx⟩ := elem_atR H3.out.1 i (by omega)
          subst e1
          have HD := Aside0.mk (show l3.drop i = rd_T74 l3 (i : Int) :: l3.drop (i + 1) by unfold rd_T74; rw [Int.toNat_natCast, List.getD_eq_getElem?_getD, List.getElem?_eq_getElem (by omega)]; exact List.drop_eq_getElem_cons (by omega))
          obtain ⟨X, hX⟩ : ∃ X, rd_T74 l3 (i : Int) = X := ⟨_, rfl⟩
          rw [hX] at hKx HD
          obtain ⟨x0, c_0, x1, c_1, x2, c_2, x3, c_3, x4, c_4, x5, c_5, x6, c_6, x7, c_7, rfl, l_0, g_0, l_1, g_1, l_2, g_2, l_3, g_3, l_4, g_4, l_5, g_5, l_6, g_6, l_7, g_7⟩ := k74_open hKx
          have CX := Aside0.mk (fun j u hj => (SQ.out.2.2.2.cell (World.block_lt_of_cell? w _ (hcx j u hj))).trans (hcx j u hj))
          have G0 := Aside0.mk (CB ⟨g_1, l_1⟩ SQ.out.2.2.2)
          have G1 := Aside0.mk (CB ⟨g_2, l_2⟩ SQ.out.2.2.2)
          have G2 := Aside0.mk (CB ⟨g_3, l_3⟩ SQ.out.2.2.2)
          have G3 := Aside0.mk (CB ⟨g_4, l_4⟩ SQ.out.2.2.2)
          have G4 := Aside0.mk (CB ⟨g_6, l_6⟩ SQ.out.2.2.2)
          have G5 := Aside0.mk (CB ⟨g_7, l_7⟩ SQ.out.2.2.2)
          clear hX hKx hcx hi hm l_0 g_0 l_1 g_1 l_2 g_2 l_3 g_3 l_4 g_4 l_5 g_5 l_6 g_6 l_7 g_7
          go_wp2_with (first
            | ((with_reducible refine gate_dst (N := 54) rfl ?_); go_loud (refine load_any_event [(Value.slice x0 X.f0.length c_0), (Value.int .i64 X.f1.f0), (Value.int .i64 X.f1.f1), (Value.slice x1 X.f1.f2.length c_1), (Value.int .i64 X.f2.f0), (Value.int .i64 X.f2.f1), (Value.slice x2 X.f2.f2.length c_2), (Value.int .i64 X.f3.f0), (Value.int .i64 X.f3.f1), (Value.slice x3 X.f3.f2.length c_3), (Value.int .i64 X.f4.f0), (Value.int .i64 X.f4.f1), (Value.slice x4 X.f4.f2.length c_4), (Value.slice x5 X.f5.length c_5), (Value.int .i64 X.f6.f0), (Value.int .i64 X.f6.f1), (Value.slice x6 X.f6.f2.length c_6), (Value.int .i64 X.f7.f0), (Value.int .i64 X.f7.f1), (Value.slice x7 X.f7.f2.length c_7)] rfl rfl rfl rfl CX.out Try.underlying74 rfl (by kernel_rfl) ?_))
            | ((with_reducible refine gate_store (t := 74) (p := 8) rfl ?_); go_loud (refine store_new_event [(Value.slice x0 X.f0.length c_0), (Value.int .i64 X.f1.f0), (Value.int .i64 X.f1.f1), (Value.slice x1 X.f1.f2.length c_1), (Value.int .i64 X.f2.f0), (Value.int .i64 X.f2.f1), (Value.slice x2 X.f2.f2.length c_2), (Value.int .i64 X.f3.f0), (Value.int .i64 X.f3.f1), (Value.slice x3 X.f3.f2.length c_3), (Value.int .i64 X.f4.f0), (Value.int .i64 X.f4.f1), (Value.slice x4 X.f4.f2.length c_4), (Value.slice x5 X.f5.length c_5), (Value.int .i64 X.f6.f0), (Value.int .i64 X.f6.f1), (Value.slice x6 X.f6.f2.length c_6), (Value.int .i64 X.f7.f0), (Value.int .i64 X.f7.f1), (Value.slice x7 X.f7.f2.length c_7)].toArray rfl rfl rfl rfl rfl (by kernel_rfl) rfl (by simp [Value.oneCell']) ?_); have B5 := below_alloc (Below.refl wr.heap.size wr) (.cells [(Value.slice x0 X.f0.length c_0), (Value.int .i64 X.f1.f0), (Value.int .i64 X.f1.f1), (Value.slice x1 X.f1.f2.length c_1), (Value.int .i64 X.f2.f0), (Value.int .i64 X.f2.f1), (Value.slice x2 X.f2.f2.length c_2), (Value.int .i64 X.f3.f0), (Value.int .i64 X.f3.f1), (Value.slice x3 X.f3.f2.length c_3), (Value.int .i64 X.f4.f0), (Value.int .i64 X.f4.f1), (Value.slice x4 X.f4.f2.length c_4), (Value.slice x5 X.f5.length c_5), (Value.int .i64 X.f6.f0), (Value.int .i64 X.f6.f1), (Value.slice x6 X.f6.f2.length c_6), (Value.int .i64 X.f7.f0), (Value.int .i64 X.f7.f1), (Value.slice x7 X.f7.f2.length c_7)].toArray 74 (0, 0)); have KX5 := Aside0.mk (blk_new wr (.cells [(Value.slice x0 X.f0.length c_0), (Value.int .i64 X.f1.f0), (Value.int .i64 X.f1.f1), (Value.slice x1 X.f1.f2.length c_1), (Value.int .i64 X.f2.f0), (Value.int .i64 X.f2.f1), (Value.slice x2 X.f2.f2.length c_2), (Value.int .i64 X.f3.f0), (Value.int .i64 X.f3.f1), (Value.slice x3 X.f3.f2.length c_3), (Value.int .i64 X.f4.f0), (Value.int .i64 X.f4.f1), (Value.slice x4 X.f4.f2.length c_4), (Value.slice x5 X.f5.length c_5), (Value.int .i64 X.f6.f0), (Value.int .i64 X.f6.f1), (Value.slice x6 X.f6.f2.length c_6), (Value.int .i64 X.f7.f0), (Value.int .i64 X.f7.f1), (Value.slice x7 X.f7.f2.length c_7)].toArray 74 (0, 0))); have SQ5 := Aside0.mk (SKR.keep SQ.out B5); have G0 := Aside0.mk (CB G0.out B5); have G1 := Aside0.mk (CB G1.out B5); have G2 := Aside0.mk (CB G2.out B5); have G3 := Aside0.mk (CB G3.out B5); have G4 := Aside0.mk (CB G4.out B5); have G5 := Aside0.mk (CB G5.out B5); clear B5; generalize wr.alloc (.cells [(Value.slice x0 X.f0.length c_0), (Value.int .i64 X.f1.f0), (Value.int .i64 X.f1.f1), (Value.slice x1 X.f1.f2.length c_1), (Value.int .i64 X.f2.f0), (Value.int .i64 X.f2.f1), (Value.slice x2 X.f2.f2.length c_2), (Value.int .i64 X.f3.f0), (Value.int .i64 X.f3.f1), (Value.slice x3 X.f3.f2.length c_3), (Value.int .i64 X.f4.f0), (Value.int .i64 X.f4.f1), (Value.slice x4 X.f4.f2.length c_4), (Value.slice x5 X.f5.length c_5), (Value.int .i64 X.f6.f0), (Value.int .i64 X.f6.f1), (Value.slice x6 X.f6.f2.length c_6), (Value.int .i64 X.f7.f0), (Value.int .i64 X.f7.f1), (Value.slice x7 X.f7.f2.length c_7)].toArray 74 (0, 0)) = w5 at KX5 SQ5 G0 G1 G2 G3 G4 G5 ⊢; have k0 := blk_cell KX5.out 0; have k1 := blk_cell KX5.out 1; have k2 := blk_cell KX5.out 2; have k3 := blk_cell KX5.out 3; have k4 := blk_cell KX5.out 4; have k5 := blk_cell KX5.out 5; have k6 := blk_cell KX5.out 6; have k7 := blk_cell KX5.out 7; have k8 := blk_cell KX5.out 8; have k9 := blk_cell KX5.out 9; have k10 := blk_cell KX5.out 10; have k11 := blk_cell KX5.out 11; have k12 := blk_cell KX5.out 12; have k13 := blk_cell KX5.out 13; have k14 := blk_cell KX5.out 14; have k15 := blk_cell KX5.out 15; have k16 := blk_cell KX5.out 16; have k17 := blk_cell KX5.out 17; have k18 := blk_cell KX5.out 18; have k19 := blk_cell KX5.out 19; simp at k0 k1 k2 k3 k4 k5 k6 k7 k8 k9 k10 k11 k12 k13 k14 k15 k16 k17 k18 k19))
          have B6 := below_alloc (Below.refl w5.heap.size w5) (.cells #[(Value.int .i64 X.f1.f0), (Value.int .i64 X.f1.f1), (Value.slice x1 X.f1.f2.length c_1), (Value.int .i64 X.f2.f0), (Value.int .i64 X.f2.f1), (Value.slice x2 X.f2.f2.length c_2), (Value.int .i64 X.f3.f0), (Value.int .i64 X.f3.f1), (Value.slice x3 X.f3.f2.length c_3), (Value.int .i64 X.f4.f0), (Value.int .i64 X.f4.f1), (Value.slice x4 X.f4.f2.length c_4)] 27 (0, 0))
          have KX6 := Aside0.mk (blk_below KX5.out B6)
          have KM6 := Aside0.mk (blk_new w5 (.cells #[(Value.int .i64 X.f1.f0), (Value.int .i64 X.f1.f1), (Value.slice x1 X.f1.f2.length c_1), (Value.int .i64 X.f2.f0), (Value.int .i64 X.f2.f1), (Value.slice x2 X.f2.f2.length c_2), (Value.int .i64 X.f3.f0), (Value.int .i64 X.f3.f1), (Value.slice x3 X.f3.f2.length c_3), (Value.int .i64 X.f4.f0), (Value.int .i64 X.f4.f1), (Value.slice x4 X.f4.f2.length c_4)] 27 (0, 0)))
          have SQ6 := Aside0.mk (SKR.keep SQ5.out B6)
          have G0 := Aside0.mk (CB G0.out B6); have G1 := Aside0.mk (CB G1.out B6); have G2 := Aside0.mk (CB G2.out B6); have G3 := Aside0.mk (CB G3.out B6); have G4 := Aside0.mk (CB G4.out B6); have G5 := Aside0.mk (CB G5.out B6)
          clear B6 k0 k1 k2 k3 k4 k5 k6 k7 k8 k9 k10 k11 k12 k13 k14 k15 k16 k17 k18 k19
          generalize w5.alloc (.cells #[(Value.int .i64 X.f1.f0), (Value.int .i64 X.f1.f1), (Value.slice x1 X.f1.f2.length c_1), (Value.int .i64 X.f2.f0), (Value.int .i64 X.f2.f1), (Value.slice x2 X.f2.f2.length c_2), (Value.int .i64 X.f3.f0), (Value.int .i64 X.f3.f1), (Value.slice x3 X.f3.f2.length c_3), (Value.int .i64 X.f4.f0), (Value.int .i64 X.f4.f1), (Value.slice x4 X.f4.f2.length c_4)] 27 (0, 0)) = w6 at KX6 KM6 SQ6 G0 G1 G2 G3 G4 G5 ⊢
          have SL := Aside0.mk (show SY w6 w.heap.size wr.heap.size w5.heap.size v d hs hid ly (Value.slice x0 X.f0.length c_0) (Value.int .i64 X.f1.f0) (Value.int .i64 X.f1.f1) (Value.slice x1 X.f1.f2.length c_1) (Value.int .i64 X.f2.f0) (Value.int .i64 X.f2.f1) (Value.slice x2 X.f2.f2.length c_2) (Value.int .i64 X.f3.f0) (Value.int .i64 X.f3.f1) (Value.slice x3 X.f3.f2.length c_3) (Value.int .i64 X.f4.f0) (Value.int .i64 X.f4.f1) (Value.slice x4 X.f4.f2.length c_4) (Value.slice x5 X.f5.length c_5) (Value.int .i64 X.f6.f0) (Value.int .i64 X.f6.f1) (Value.slice x6 X.f6.f2.length c_6) (Value.int .i64 X.f7.f0) (Value.int .i64 X.f7.f1) (Value.slice x7 X.f7.f2.length c_7) (Value.int .i64 X.f1.f0) (Value.int .i64 X.f1.f1) (Value.slice x1 X.f1.f2.length c_1) (Value.int .i64 X.f2.f0) (Value.int .i64 X.f2.f1) (Value.slice x2 X.f2.f2.length c_2) (Value.int .i64 X.f3.f0) (Value.int .i64 X.f3.f1) (Value.slice x3 X.f3.f2.length c_3) (Value.int .i64 X.f4.f0) (Value.int .i64 X.f4.f1) (Value.slice x4 X.f4.f2.length c_4) w6 from SY.mk' SQ6.out.2.1 KX6.out KM6.out (Below.refl _ _))
          obtain ⟨s1, h1⟩ : ∃ s, sideB X.f1.f0 X.f1.f1 X.f1.f2 d d = s := ⟨_, rfl⟩
          obtain ⟨s2, h2⟩ : ∃ s, sideB X.f2.f0 X.f2.f1 X.f2.f2 d d = s := ⟨_, rfl⟩
          obtain ⟨s3, h3⟩ : ∃ s, sideB X.f3.f0 X.f3.f1 X.f3.f2 d d = s := ⟨_, rfl⟩
          obtain ⟨s4, h4⟩ : ∃ s, sideB X.f4.f0 X.f4.f1 X.f4.f2 d d = s := ⟨_, rfl⟩
          obtain ⟨s5, h5⟩ : ∃ s, sideB X.f6.f0 X.f6.f1 X.f6.f2 hid d = s := ⟨_, rfl⟩
          obtain ⟨s6, h6⟩ : ∃ s, sideB X.f7.f0 X.f7.f1 X.f7.f2 d hid = s := ⟨_, rfl⟩
          have HB := Aside0.mk (show rblkB d hid X = (s1 && (s2 && (s3 && (s4 && (s5 && (s6 && (((X.f0.length : Int) == d) && ((X.f5.length : Int) == d)))))))) by unfold rblkB; rw [h1, h2, h3, h4, h5, h6])
          have P0 := Aside0.mk h1
          have P1 := Aside0.mk h2
          have P2 := Aside0.mk h3
          have P3 := Aside0.mk h4
          have P4 := Aside0.mk h5
          have P5 := Aside0.mk h6
          clear h1 h2 h3 h4 h5 h6
          go_loopg [65, 6] 4 (fun kq v65 v6 w' => ∃ (j : Int) (g' : Bool), v65 = .int .i64 j ∧ v6 = .bool g' ∧ Aside0 (0 ≤ j ∧ j + (kq : Int) = 4) ∧ Aside0 ((g' && restB s1 s2 s3 s4 j) = (g && restB s1 s2 s3 s4 0)) ∧ Aside0 (SY w6 w.heap.size wr.heap.size w5.heap.size v d hs hid ly (Value.slice x0 X.f0.length c_0) (Value.int .i64 X.f1.f0) (Value.int .i64 X.f1.f1) (Value.slice x1 X.f1.f2.length c_1) (Value.int .i64 X.f2.f0) (Value.int .i64 X.f2.f1) (Value.slice x2 X.f2.f2.length c_2) (Value.int .i64 X.f3.f0) (Value.int .i64 X.f3.f1) (Value.slice x3 X.f3.f2.length c_3) (Value.int .i64 X.f4.f0) (Value.int .i64 X.f4.f1) (Value.slice x4 X.f4.f2.length c_4) (Value.slice x5 X.f5.length c_5) (Value.int .i64 X.f6.f0) (Value.int .i64 X.f6.f1) (Value.slice x6 X.f6.f2.length c_6) (Value.int .i64 X.f7.f0) (Value.int .i64 X.f7.f1) (Value.slice x7 X.f7.f2.length c_7) (Value.int .i64 X.f1.f0) (Value.int .i64 X.f1.f1) (Value.slice x1 X.f1.f2.length c_1) (Value.int .i64 X.f2.f0) (Value.int .i64 X.f2.f1) (Value.slice x2 X.f2.f2.length c_2) (Value.int .i64 X.f3.f0) (Value.int .i64 X.f3.f1) (Value.slice x3 X.f3.f2.length c_3) (Value.int .i64 X.f4.f0) (Value.int .i64 X.f4.f1) (Value.slice x4 X.f4.f2.length c_4) w'))
          case atStart => exact ⟨0, g, rfl, rfl, ⟨by omega⟩, ⟨rfl⟩, SL⟩
          case round =>
            clear SL
            obtain ⟨j, g', rfl, rfl, HJ, HR, SP⟩ := hrel
            obtain ⟨z0, z1, z2, z3, z4, k0, k1, k2, k3, k4, k5, k6, k7, k8, k9, k10, k11, k12, k13, k14, k15, k16, k17, k18, k19, m0, m1, m2, m3, m4, m5, m6, m7, m8, m9, m10, m11⟩ := SP.out.1
            have hj := HJ.out
            cases gk with
            | succ q' =>
              have b2 : decide (j < 4) = true := decide_eq_true (by omega)
              have hj4 : j = 0 ∨ j = 1 ∨ j = 2 ∨ j = 3 := by omega
              rcases hj4 with rfl | rfl | rfl | rfl
              · obtain ⟨wI, hwI⟩ : ∃ wI : World, wI = wr := ⟨_, rfl⟩
                subst hwI
                clear b2 hj
                cases g' with
                | false =>
                  go_wp2_with (first | ((with_reducible refine gate_store (t := 27) (p := 10) rfl ?_); go_loud (refine store_new_event #[.int .i64 X.f1.f0, .int .i64 X.f1.f1, .slice x1 X.f1.f2.length c_1] rfl rfl rfl rfl rfl (by kernel_rfl) rfl (by simp [Value.oneCell']) ?_); have B7 := below_alloc (Below.refl wI.heap.size wI) (.cells #[.int .i64 X.f1.f0, .int .i64 X.f1.f1, .slice x1 X.f1.f2.length c_1] 27 (0, 0)); have KN := Aside0.mk (blk_new wI (.cells #[.int .i64 X.f1.f0, .int .i64 X.f1.f1, .slice x1 X.f1.f2.length c_1] 27 (0, 0))); have SP := Aside0.mk (SY.keep SP.out B7); clear B7; generalize wI.alloc (.cells #[.int .i64 X.f1.f0, .int .i64 X.f1.f1, .slice x1 X.f1.f2.length c_1] 27 (0, 0)) = w7 at KN SP ⊢; clear z0 z1 z2 z3 z4 k0 k1 k2 k3 k4 k5 k6 k7 k8 k9 k10 k11 k12 k13 k14 k15 k16 k17 k18 k19 m0 m1 m2 m3 m4 m5 m6 m7 m8 m9 m10 m11; obtain ⟨z0, z1, z2, z3, z4, k0, k1, k2, k3, k4, k5, k6, k7, k8, k9, k10, k11, k12, k13, k14, k15, k16, k17, k18, k19, m0, m1, m2, m3, m4, m5, m6, m7, m8, m9, m10, m11⟩ := SP.out.1; have n0 := blk_cell KN.out 0; have n1 := blk_cell KN.out 1; have n2 := blk_cell KN.out 2; simp at n0 n1 n2))
                  go_roundg q'
                  case measure => omega
                  case rel => exact ⟨1, false, by first | rfl | go_num, rfl, ⟨by have := HJ.out; omega⟩, ⟨by rw [← HR.out]; rfl⟩, SP⟩
                | true =>
                  cases s1 with
                  | true =>
                    go_wp2_with (first | ((with_reducible refine gate_store (t := 27) (p := 10) rfl ?_); go_loud (refine store_new_event #[.int .i64 X.f1.f0, .int .i64 X.f1.f1, .slice x1 X.f1.f2.length c_1] rfl rfl rfl rfl rfl (by kernel_rfl) rfl (by simp [Value.oneCell']) ?_); have B7 := below_alloc (Below.refl wI.heap.size wI) (.cells #[.int .i64 X.f1.f0, .int .i64 X.f1.f1, .slice x1 X.f1.f2.length c_1] 27 (0, 0)); have KN := Aside0.mk (blk_new wI (.cells #[.int .i64 X.f1.f0, .int .i64 X.f1.f1, .slice x1 X.f1.f2.length c_1] 27 (0, 0))); have SP := Aside0.mk (SY.keep SP.out B7); clear B7; generalize wI.alloc (.cells #[.int .i64 X.f1.f0, .int .i64 X.f1.f1, .slice x1 X.f1.f2.length c_1] 27 (0, 0)) = w7 at KN SP ⊢; clear z0 z1 z2 z3 z4 k0 k1 k2 k3 k4 k5 k6 k7 k8 k9 k10 k11 k12 k13 k14 k15 k16 k17 k18 k19 m0 m1 m2 m3 m4 m5 m6 m7 m8 m9 m10 m11; obtain ⟨z0, z1, z2, z3, z4, k0, k1, k2, k3, k4, k5, k6, k7, k8, k9, k10, k11, k12, k13, k14, k15, k16, k17, k18, k19, m0, m1, m2, m3, m4, m5, m6, m7, m8, m9, m10, m11⟩ := SP.out.1; have n0 := blk_cell KN.out 0; have n1 := blk_cell KN.out 1; have n2 := blk_cell KN.out 2; simp at n0 n1 n2) | (go_at_call 37; (with_reducible refine (fits_calls X.f1.f0 X.f1.f1 X.f1.f2 d d true x1 c_1 _ P0.out (CB G0.out SP.out.2.2.2.2)).mono ?_); rintro e wc ⟨rfl, hbc⟩; have SP := Aside0.mk (SY.keep SP.out hbc); clear z0 z1 z2 z3 z4 k0 k1 k2 k3 k4 k5 k6 k7 k8 k9 k10 k11 k12 k13 k14 k15 k16 k17 k18 k19 m0 m1 m2 m3 m4 m5 m6 m7 m8 m9 m10 m11; obtain ⟨z0, z1, z2, z3, z4, k0, k1, k2, k3, k4, k5, k6, k7, k8, k9, k10, k11, k12, k13, k14, k15, k16, k17, k18, k19, m0, m1, m2, m3, m4, m5, m6, m7, m8, m9, m10, m11⟩ := SP.out.1; clear hbc))
                    go_roundg q'
                    case measure => omega
                    case rel => exact ⟨1, true, by first | rfl | go_num, rfl, ⟨by have := HJ.out; omega⟩, ⟨by rw [← HR.out]; simp [restB]⟩, SP⟩
                  | false =>
                    go_wp2_with (first | ((with_reducible refine gate_store (t := 27) (p := 10) rfl ?_); go_loud (refine store_new_event #[.int .i64 X.f1.f0, .int .i64 X.f1.f1, .slice x1 X.f1.f2.length c_1] rfl rfl rfl rfl rfl (by kernel_rfl) rfl (by simp [Value.oneCell']) ?_); have B7 := below_alloc (Below.refl wI.heap.size wI) (.cells #[.int .i64 X.f1.f0, .int .i64 X.f1.f1, .slice x1 X.f1.f2.length c_1] 27 (0, 0)); have KN := Aside0.mk (blk_new wI (.cells #[.int .i64 X.f1.f0, .int .i64 X.f1.f1, .slice x1 X.f1.f2.length c_1] 27 (0, 0))); have SP := Aside0.mk (SY.keep SP.out B7); clear B7; generalize wI.alloc (.cells #[.int .i64 X.f1.f0, .int .i64 X.f1.f1, .slice x1 X.f1.f2.length c_1] 27 (0, 0)) = w7 at KN SP ⊢; clear z0 z1 z2 z3 z4 k0 k1 k2 k3 k4 k5 k6 k7 k8 k9 k10 k11 k12 k13 k14 k15 k16 k17 k18 k19 m0 m1 m2 m3 m4 m5 m6 m7 m8 m9 m10 m11; obtain ⟨z0, z1, z2, z3, z4, k0, k1, k2, k3, k4, k5, k6, k7, k8, k9, k10, k11, k12, k13, k14, k15, k16, k17, k18, k19, m0, m1, m2, m3, m4, m5, m6, m7, m8, m9, m10, m11⟩ := SP.out.1; have n0 := blk_cell KN.out 0; have n1 := blk_cell KN.out 1; have n2 := blk_cell KN.out 2; simp at n0 n1 n2) | (go_at_call 37; (with_reducible refine (fits_calls X.f1.f0 X.f1.f1 X.f1.f2 d d false x1 c_1 _ P0.out (CB G0.out SP.out.2.2.2.2)).mono ?_); rintro e wc ⟨rfl, hbc⟩; have SP := Aside0.mk (SY.keep SP.out hbc); clear z0 z1 z2 z3 z4 k0 k1 k2 k3 k4 k5 k6 k7 k8 k9 k10 k11 k12 k13 k14 k15 k16 k17 k18 k19 m0 m1 m2 m3 m4 m5 m6 m7 m8 m9 m10 m11; obtain ⟨z0, z1, z2, z3, z4, k0, k1, k2, k3, k4, k5, k6, k7, k8, k9, k10, k11, k12, k13, k14, k15, k16, k17, k18, k19, m0, m1, m2, m3, m4, m5, m6, m7, m8, m9, m10, m11⟩ := SP.out.1; clear hbc))
                    go_roundg q'
                    case measure => omega
                    case rel => exact ⟨1, false, by first | rfl | go_num, rfl, ⟨by have := HJ.out; omega⟩, ⟨by rw [← HR.out]; simp [restB]⟩, SP⟩
              · obtain ⟨wI, hwI⟩ : ∃ wI : World, wI = wr := ⟨_, rfl⟩
                subst hwI
                clear b2 hj
                cases g' with
                | false =>
                  go_wp2_with (first | ((with_reducible refine gate_store (t := 27) (p := 10) rfl ?_); go_loud (refine store_new_event #[.int .i64 X.f2.f0, .int .i64 X.f2.f1, .slice x2 X.f2.f2.length c_2] rfl rfl rfl rfl rfl (by kernel_rfl) rfl (by simp [Value.oneCell']) ?_); have B7 := below_alloc (Below.refl wI.heap.size wI) (.cells #[.int .i64 X.f2.f0, .int .i64 X.f2.f1, .slice x2 X.f2.f2.length c_2] 27 (0, 0)); have KN := Aside0.mk (blk_new wI (.cells #[.int .i64 X.f2.f0, .int .i64 X.f2.f1, .slice x2 X.f2.f2.length c_2] 27 (0, 0))); have SP := Aside0.mk (SY.keep SP.out B7); clear B7; generalize wI.alloc (.cells #[.int .i64 X.f2.f0, .int .i64 X.f2.f1, .slice x2 X.f2.f2.length c_2] 27 (0, 0)) = w7 at KN SP ⊢; clear z0 z1 z2 z3 z4 k0 k1 k2 k3 k4 k5 k6 k7 k8 k9 k10 k11 k12 k13 k14 k15 k16 k17 k18 k19 m0 m1 m2 m3 m4 m5 m6 m7 m8 m9 m10 m11; obtain ⟨z0, z1, z2, z3, z4, k0, k1, k2, k3, k4, k5, k6, k7, k8, k9, k10, k11, k12, k13, k14, k15, k16, k17, k18, k19, m0, m1, m2, m3, m4, m5, m6, m7, m8, m9, m10, m11⟩ := SP.out.1; have n0 := blk_cell KN.out 0; have n1 := blk_cell KN.out 1; have n2 := blk_cell KN.out 2; simp at n0 n1 n2))
                  go_roundg q'
                  case measure => omega
                  case rel => exact ⟨2, false, by first | rfl | go_num, rfl, ⟨by have := HJ.out; omega⟩, ⟨by rw [← HR.out]; rfl⟩, SP⟩
                | true =>
                  cases s2 with
                  | true =>
                    go_wp2_with (first | ((with_reducible refine gate_store (t := 27) (p := 10) rfl ?_); go_loud (refine store_new_event #[.int .i64 X.f2.f0, .int .i64 X.f2.f1, .slice x2 X.f2.f2.length c_2] rfl rfl rfl rfl rfl (by kernel_rfl) rfl (by simp [Value.oneCell']) ?_); have B7 := below_alloc (Below.refl wI.heap.size wI) (.cells #[.int .i64 X.f2.f0, .int .i64 X.f2.f1, .slice x2 X.f2.f2.length c_2] 27 (0, 0)); have KN := Aside0.mk (blk_new wI (.cells #[.int .i64 X.f2.f0, .int .i64 X.f2.f1, .slice x2 X.f2.f2.length c_2] 27 (0, 0))); have SP := Aside0.mk (SY.keep SP.out B7); clear B7; generalize wI.alloc (.cells #[.int .i64 X.f2.f0, .int .i64 X.f2.f1, .slice x2 X.f2.f2.length c_2] 27 (0, 0)) = w7 at KN SP ⊢; clear z0 z1 z2 z3 z4 k0 k1 k2 k3 k4 k5 k6 k7 k8 k9 k10 k11 k12 k13 k14 k15 k16 k17 k18 k19 m0 m1 m2 m3 m4 m5 m6 m7 m8 m9 m10 m11; obtain ⟨z0, z1, z2, z3, z4, k0, k1, k2, k3, k4, k5, k6, k7, k8, k9, k10, k11, k12, k13, k14, k15, k16, k17, k18, k19, m0, m1, m2, m3, m4, m5, m6, m7, m8, m9, m10, m11⟩ := SP.out.1; have n0 := blk_cell KN.out 0; have n1 := blk_cell KN.out 1; have n2 := blk_cell KN.out 2; simp at n0 n1 n2) | (go_at_call 37; (with_reducible refine (fits_calls X.f2.f0 X.f2.f1 X.f2.f2 d d true x2 c_2 _ P1.out (CB G1.out SP.out.2.2.2.2)).mono ?_); rintro e wc ⟨rfl, hbc⟩; have SP := Aside0.mk (SY.keep SP.out hbc); clear z0 z1 z2 z3 z4 k0 k1 k2 k3 k4 k5 k6 k7 k8 k9 k10 k11 k12 k13 k14 k15 k16 k17 k18 k19 m0 m1 m2 m3 m4 m5 m6 m7 m8 m9 m10 m11; obtain ⟨z0, z1, z2, z3, z4, k0, k1, k2, k3, k4, k5, k6, k7, k8, k9, k10, k11, k12, k13, k14, k15, k16, k17, k18, k19, m0, m1, m2, m3, m4, m5, m6, m7, m8, m9, m10, m11⟩ := SP.out.1; clear hbc))
                    go_roundg q'
                    case measure => omega
                    case rel => exact ⟨2, true, by first | rfl | go_num, rfl, ⟨by have := HJ.out; omega⟩, ⟨by rw [← HR.out]; simp [restB]⟩, SP⟩
                  | false =>
                    go_wp2_with (first | ((with_reducible refine gate_store (t := 27) (p := 10) rfl ?_); go_loud (refine store_new_event #[.int .i64 X.f2.f0, .int .i64 X.f2.f1, .slice x2 X.f2.f2.length c_2] rfl rfl rfl rfl rfl (by kernel_rfl) rfl (by simp [Value.oneCell']) ?_); have B7 := below_alloc (Below.refl wI.heap.size wI) (.cells #[.int .i64 X.f2.f0, .int .i64 X.f2.f1, .slice x2 X.f2.f2.length c_2] 27 (0, 0)); have KN := Aside0.mk (blk_new wI (.cells #[.int .i64 X.f2.f0, .int .i64 X.f2.f1, .slice x2 X.f2.f2.length c_2] 27 (0, 0))); have SP := Aside0.mk (SY.keep SP.out B7); clear B7; generalize wI.alloc (.cells #[.int .i64 X.f2.f0, .int .i64 X.f2.f1, .slice x2 X.f2.f2.length c_2] 27 (0, 0)) = w7 at KN SP ⊢; clear z0 z1 z2 z3 z4 k0 k1 k2 k3 k4 k5 k6 k7 k8 k9 k10 k11 k12 k13 k14 k15 k16 k17 k18 k19 m0 m1 m2 m3 m4 m5 m6 m7 m8 m9 m10 m11; obtain ⟨z0, z1, z2, z3, z4, k0, k1, k2, k3, k4, k5, k6, k7, k8, k9, k10, k11, k12, k13, k14, k15, k16, k17, k18, k19, m0, m1, m2, m3, m4, m5, m6, m7, m8, m9, m10, m11⟩ := SP.out.1; have n0 := blk_cell KN.out 0; have n1 := blk_cell KN.out 1; have n2 := blk_cell KN.out 2; simp at n0 n1 n2) | (go_at_call 37; (with_reducible refine (fits_calls X.f2.f0 X.f2.f1 X.f2.f2 d d false x2 c_2 _ P1.out (CB G1.out SP.out.2.2.2.2)).mono ?_); rintro e wc ⟨rfl, hbc⟩; have SP := Aside0.mk (SY.keep SP.out hbc); clear z0 z1 z2 z3 z4 k0 k1 k2 k3 k4 k5 k6 k7 k8 k9 k10 k11 k12 k13 k14 k15 k16 k17 k18 k19 m0 m1 m2 m3 m4 m5 m6 m7 m8 m9 m10 m11; obtain ⟨z0, z1, z2, z3, z4, k0, k1, k2, k3, k4, k5, k6, k7, k8, k9, k10, k11, k12, k13, k14, k15, k16, k17, k18, k19, m0, m1, m2, m3, m4, m5, m6, m7, m8, m9, m10, m11⟩ := SP.out.1; clear hbc))
                    go_roundg q'
                    case measure => omega
                    case rel => exact ⟨2, false, by first | rfl | go_num, rfl, ⟨by have := HJ.out; omega⟩, ⟨by rw [← HR.out]; simp [restB]⟩, SP⟩
              · obtain ⟨wI, hwI⟩ : ∃ wI : World, wI = wr := ⟨_, rfl⟩
                subst hwI
                clear b2 hj
                cases g' with
                | false =>
                  go_wp2_with (first | ((with_reducible refine gate_store (t := 27) (p := 10) rfl ?_); go_loud (refine store_new_event #[.int .i64 X.f3.f0, .int .i64 X.f3.f1, .slice x3 X.f3.f2.length c_3] rfl rfl rfl rfl rfl (by kernel_rfl) rfl (by simp [Value.oneCell']) ?_); have B7 := below_alloc (Below.refl wI.heap.size wI) (.cells #[.int .i64 X.f3.f0, .int .i64 X.f3.f1, .slice x3 X.f3.f2.length c_3] 27 (0, 0)); have KN := Aside0.mk (blk_new wI (.cells #[.int .i64 X.f3.f0, .int .i64 X.f3.f1, .slice x3 X.f3.f2.length c_3] 27 (0, 0))); have SP := Aside0.mk (SY.keep SP.out B7); clear B7; generalize wI.alloc (.cells #[.int .i64 X.f3.f0, .int .i64 X.f3.f1, .slice x3 X.f3.f2.length c_3] 27 (0, 0)) = w7 at KN SP ⊢; clear z0 z1 z2 z3 z4 k0 k1 k2 k3 k4 k5 k6 k7 k8 k9 k10 k11 k12 k13 k14 k15 k16 k17 k18 k19 m0 m1 m2 m3 m4 m5 m6 m7 m8 m9 m10 m11; obtain ⟨z0, z1, z2, z3, z4, k0, k1, k2, k3, k4, k5, k6, k7, k8, k9, k10, k11, k12, k13, k14, k15, k16, k17, k18, k19, m0, m1, m2, m3, m4, m5, m6, m7, m8, m9, m10, m11⟩ := SP.out.1; have n0 := blk_cell KN.out 0; have n1 := blk_cell KN.out 1; have n2 := blk_cell KN.out 2; simp at n0 n1 n2))
                  go_roundg q'
                  case measure => omega
                  case rel => exact ⟨3, false, by first | rfl | go_num, rfl, ⟨by have := HJ.out; omega⟩, ⟨by rw [← HR.out]; rfl⟩, SP⟩
                | true =>
                  cases s3 with
                  | true =>
                    go_wp2_with (first | ((with_reducible refine gate_store (t := 27) (p := 10) rfl ?_); go_loud (refine store_new_event #[.int .i64 X.f3.f0, .int .i64 X.f3.f1, .slice x3 X.f3.f2.length c_3] rfl rfl rfl rfl rfl (by kernel_rfl) rfl (by simp [Value.oneCell']) ?_); have B7 := below_alloc (Below.refl wI.heap.size wI) (.cells #[.int .i64 X.f3.f0, .int .i64 X.f3.f1, .slice x3 X.f3.f2.length c_3] 27 (0, 0)); have KN := Aside0.mk (blk_new wI (.cells #[.int .i64 X.f3.f0, .int .i64 X.f3.f1, .slice x3 X.f3.f2.length c_3] 27 (0, 0))); have SP := Aside0.mk (SY.keep SP.out B7); clear B7; generalize wI.alloc (.cells #[.int .i64 X.f3.f0, .int .i64 X.f3.f1, .slice x3 X.f3.f2.length c_3] 27 (0, 0)) = w7 at KN SP ⊢; clear z0 z1 z2 z3 z4 k0 k1 k2 k3 k4 k5 k6 k7 k8 k9 k10 k11 k12 k13 k14 k15 k16 k17 k18 k19 m0 m1 m2 m3 m4 m5 m6 m7 m8 m9 m10 m11; obtain ⟨z0, z1, z2, z3, z4, k0, k1, k2, k3, k4, k5, k6, k7, k8, k9, k10, k11, k12, k13, k14, k15, k16, k17, k18, k19, m0, m1, m2, m3, m4, m5, m6, m7, m8, m9, m10, m11⟩ := SP.out.1; have n0 := blk_cell KN.out 0; have n1 := blk_cell KN.out 1; have n2 := blk_cell KN.out 2; simp at n0 n1 n2) | (go_at_call 37; (with_reducible refine (fits_calls X.f3.f0 X.f3.f1 X.f3.f2 d d true x3 c_3 _ P2.out (CB G2.out SP.out.2.2.2.2)).mono ?_); rintro e wc ⟨rfl, hbc⟩; have SP := Aside0.mk (SY.keep SP.out hbc); clear z0 z1 z2 z3 z4 k0 k1 k2 k3 k4 k5 k6 k7 k8 k9 k10 k11 k12 k13 k14 k15 k16 k17 k18 k19 m0 m1 m2 m3 m4 m5 m6 m7 m8 m9 m10 m11; obtain ⟨z0, z1, z2, z3, z4, k0, k1, k2, k3, k4, k5, k6, k7, k8, k9, k10, k11, k12, k13, k14, k15, k16, k17, k18, k19, m0, m1, m2, m3, m4, m5, m6, m7, m8, m9, m10, m11⟩ := SP.out.1; clear hbc))
                    go_roundg q'
                    case measure => omega
                    case rel => exact ⟨3, true, by first | rfl | go_num, rfl, ⟨by have := HJ.out; omega⟩, ⟨by rw [← HR.out]; simp [restB]⟩, SP⟩
                  | false =>
                    go_wp2_with (first | ((with_reducible refine gate_store (t := 27) (p := 10) rfl ?_); go_loud (refine store_new_event #[.int .i64 X.f3.f0, .int .i64 X.f3.f1, .slice x3 X.f3.f2.length c_3] rfl rfl rfl rfl rfl (by kernel_rfl) rfl (by simp [Value.oneCell']) ?_); have B7 := below_alloc (Below.refl wI.heap.size wI) (.cells #[.int .i64 X.f3.f0, .int .i64 X.f3.f1, .slice x3 X.f3.f2.length c_3] 27 (0, 0)); have KN := Aside0.mk (blk_new wI (.cells #[.int .i64 X.f3.f0, .int .i64 X.f3.f1, .slice x3 X.f3.f2.length c_3] 27 (0, 0))); have SP := Aside0.mk (SY.keep SP.out B7); clear B7; generalize wI.alloc (.cells #[.int .i64 X.f3.f0, .int .i64 X.f3.f1, .slice x3 X.f3.f2.length c_3] 27 (0, 0)) = w7 at KN SP ⊢; clear z0 z1 z2 z3 z4 k0 k1 k2 k3 k4 k5 k6 k7 k8 k9 k10 k11 k12 k13 k14 k15 k16 k17 k18 k19 m0 m1 m2 m3 m4 m5 m6 m7 m8 m9 m10 m11; obtain ⟨z0, z1, z2, z3, z4, k0, k1, k2, k3, k4, k5, k6, k7, k8, k9, k10, k11, k12, k13, k14, k15, k16, k17, k18, k19, m0, m1, m2, m3, m4, m5, m6, m7, m8, m9, m10, m11⟩ := SP.out.1; have n0 := blk_cell KN.out 0; have n1 := blk_cell KN.out 1; have n2 := blk_cell KN.out 2; simp at n0 n1 n2) | (go_at_call 37; (with_reducible refine (fits_calls X.f3.f0 X.f3.f1 X.f3.f2 d d false x3 c_3 _ P2.out (CB G2.out SP.out.2.2.2.2)).mono ?_); rintro e wc ⟨rfl, hbc⟩; have SP := Aside0.mk (SY.keep SP.out hbc); clear z0 z1 z2 z3 z4 k0 k1 k2 k3 k4 k5 k6 k7 k8 k9 k10 k11 k12 k13 k14 k15 k16 k17 k18 k19 m0 m1 m2 m3 m4 m5 m6 m7 m8 m9 m10 m11; obtain ⟨z0, z1, z2, z3, z4, k0, k1, k2, k3, k4, k5, k6, k7, k8, k9, k10, k11, k12, k13, k14, k15, k16, k17, k18, k19, m0, m1, m2, m3, m4, m5, m6, m7, m8, m9, m10, m11⟩ := SP.out.1; clear hbc))
                    go_roundg q'
                    case measure => omega
                    case rel => exact ⟨3, false, by first | rfl | go_num, rfl, ⟨by have := HJ.out; omega⟩, ⟨by rw [← HR.out]; simp [restB]⟩, SP⟩
              · obtain ⟨wI, hwI⟩ : ∃ wI : World, wI = wr := ⟨_, rfl⟩
                subst hwI
                clear b2 hj
                cases g' with
                | false =>
                  go_wp2_with (first | ((with_reducible refine gate_store (t := 27) (p := 10) rfl ?_); go_loud (refine store_new_event #[.int .i64 X.f4.f0, .int .i64 X.f4.f1, .slice x4 X.f4.f2.length c_4] rfl rfl rfl rfl rfl (by kernel_rfl) rfl (by simp [Value.oneCell']) ?_); have B7 := below_alloc (Below.refl wI.heap.size wI) (.cells #[.int .i64 X.f4.f0, .int .i64 X.f4.f1, .slice x4 X.f4.f2.length c_4] 27 (0, 0)); have KN := Aside0.mk (blk_new wI (.cells #[.int .i64 X.f4.f0, .int .i64 X.f4.f1, .slice x4 X.f4.f2.length c_4] 27 (0, 0))); have SP := Aside0.mk (SY.keep SP.out B7); clear B7; generalize wI.alloc (.cells #[.int .i64 X.f4.f0, .int .i64 X.f4.f1, .slice x4 X.f4.f2.length c_4] 27 (0, 0)) = w7 at KN SP ⊢; clear z0 z1 z2 z3 z4 k0 k1 k2 k3 k4 k5 k6 k7 k8 k9 k10 k11 k12 k13 k14 k15 k16 k17 k18 k19 m0 m1 m2 m3 m4 m5 m6 m7 m8 m9 m10 m11; obtain ⟨z0, z1, z2, z3, z4, k0, k1, k2, k3, k4, k5, k6, k7, k8, k9, k10, k11, k12, k13, k14, k15, k16, k17, k18, k19, m0, m1, m2, m3, m4, m5, m6, m7, m8, m9, m10, m11⟩ := SP.out.1; have n0 := blk_cell KN.out 0; have n1 := blk_cell KN.out 1; have n2 := blk_cell KN.out 2; simp at n0 n1 n2))
                  go_roundg q'
                  case measure => omega
                  case rel => exact ⟨4, false, by first | rfl | go_num, rfl, ⟨by have := HJ.out; omega⟩, ⟨by rw [← HR.out]; rfl⟩, SP⟩
                | true =>
                  cases s4 with
                  | true =>
                    go_wp2_with (first | ((with_reducible refine gate_store (t := 27) (p := 10) rfl ?_); go_loud (refine store_new_event #[.int .i64 X.f4.f0, .int .i64 X.f4.f1, .slice x4 X.f4.f2.length c_4] rfl rfl rfl rfl rfl (by kernel_rfl) rfl (by simp [Value.oneCell']) ?_); have B7 := below_alloc (Below.refl wI.heap.size wI) (.cells #[.int .i64 X.f4.f0, .int .i64 X.f4.f1, .slice x4 X.f4.f2.length c_4] 27 (0, 0)); have KN := Aside0.mk (blk_new wI (.cells #[.int .i64 X.f4.f0, .int .i64 X.f4.f1, .slice x4 X.f4.f2.length c_4] 27 (0, 0))); have SP := Aside0.mk (SY.keep SP.out B7); clear B7; generalize wI.alloc (.cells #[.int .i64 X.f4.f0, .int .i64 X.f4.f1, .slice x4 X.f4.f2.length c_4] 27 (0, 0)) = w7 at KN SP ⊢; clear z0 z1 z2 z3 z4 k0 k1 k2 k3 k4 k5 k6 k7 k8 k9 k10 k11 k12 k13 k14 k15 k16 k17 k18 k19 m0 m1 m2 m3 m4 m5 m6 m7 m8 m9 m10 m11; obtain ⟨z0, z1, z2, z3, z4, k0, k1, k2, k3, k4, k5, k6, k7, k8, k9, k10, k11, k12, k13, k14, k15, k16, k17, k18, k19, m0, m1, m2, m3, m4, m5, m6, m7, m8, m9, m10, m11⟩ := SP.out.1; have n0 := blk_cell KN.out 0; have n1 := blk_cell KN.out 1; have n2 := blk_cell KN.out 2; simp at n0 n1 n2) | (go_at_call 37; (with_reducible refine (fits_calls X.f4.f0 X.f4.f1 X.f4.f2 d d true x4 c_4 _ P3.out (CB G3.out SP.out.2.2.2.2)).mono ?_); rintro e wc ⟨rfl, hbc⟩; have SP := Aside0.mk (SY.keep SP.out hbc); clear z0 z1 z2 z3 z4 k0 k1 k2 k3 k4 k5 k6 k7 k8 k9 k10 k11 k12 k13 k14 k15 k16 k17 k18 k19 m0 m1 m2 m3 m4 m5 m6 m7 m8 m9 m10 m11; obtain ⟨z0, z1, z2, z3, z4, k0, k1, k2, k3, k4, k5, k6, k7, k8, k9, k10, k11, k12, k13, k14, k15, k16, k17, k18, k19, m0, m1, m2, m3, m4, m5, m6, m7, m8, m9, m10, m11⟩ := SP.out.1; clear hbc))
                    go_roundg q'
                    case measure => omega
                    case rel => exact ⟨4, true, by first | rfl | go_num, rfl, ⟨by have := HJ.out; omega⟩, ⟨by rw [← HR.out]; simp [restB]⟩, SP⟩
                  | false =>
                    go_wp2_with (first | ((with_reducible refine gate_store (t := 27) (p := 10) rfl ?_); go_loud (refine store_new_event #[.int .i64 X.f4.f0, .int .i64 X.f4.f1, .slice x4 X.f4.f2.length c_4] rfl rfl rfl rfl rfl (by kernel_rfl) rfl (by simp [Value.oneCell']) ?_); have B7 := below_alloc (Below.refl wI.heap.size wI) (.cells #[.int .i64 X.f4.f0, .int .i64 X.f4.f1, .slice x4 X.f4.f2.length c_4] 27 (0, 0)); have KN := Aside0.mk (blk_new wI (.cells #[.int .i64 X.f4.f0, .int .i64 X.f4.f1, .slice x4 X.f4.f2.length c_4] 27 (0, 0))); have SP := Aside0.mk (SY.keep SP.out B7); clear B7; generalize wI.alloc (.cells #[.int .i64 X.f4.f0, .int .i64 X.f4.f1, .slice x4 X.f4.f2.length c_4] 27 (0, 0)) = w7 at KN SP ⊢; clear z0 z1 z2 z3 z4 k0 k1 k2 k3 k4 k5 k6 k7 k8 k9 k10 k11 k12 k13 k14 k15 k16 k17 k18 k19 m0 m1 m2 m3 m4 m5 m6 m7 m8 m9 m10 m11; obtain ⟨z0, z1, z2, z3, z4, k0, k1, k2, k3, k4, k5, k6, k7, k8, k9, k10, k11, k12, k13, k14, k15, k16, k17, k18, k19, m0, m1, m2, m3, m4, m5, m6, m7, m8, m9, m10, m11⟩ := SP.out.1; have n0 := blk_cell KN.out 0; have n1 := blk_cell KN.out 1; have n2 := blk_cell KN.out 2; simp at n0 n1 n2) | (go_at_call 37; (with_reducible refine (fits_calls X.f4.f0 X.f4.f1 X.f4.f2 d d false x4 c_4 _ P3.out (CB G3.out SP.out.2.2.2.2)).mono ?_); rintro e wc ⟨rfl, hbc⟩; have SP := Aside0.mk (SY.keep SP.out hbc); clear z0 z1 z2 z3 z4 k0 k1 k2 k3 k4 k5 k6 k7 k8 k9 k10 k11 k12 k13 k14 k15 k16 k17 k18 k19 m0 m1 m2 m3 m4 m5 m6 m7 m8 m9 m10 m11; obtain ⟨z0, z1, z2, z3, z4, k0, k1, k2, k3, k4, k5, k6, k7, k8, k9, k10, k11, k12, k13, k14, k15, k16, k17, k18, k19, m0, m1, m2, m3, m4, m5, m6, m7, m8, m9, m10, m11⟩ := SP.out.1; clear hbc))
                    go_roundg q'
                    case measure => omega
                    case rel => exact ⟨4, false, by first | rfl | go_num, rfl, ⟨by have := HJ.out; omega⟩, ⟨by rw [← HR.out]; simp [restB]⟩, SP⟩
            | zero =>
              have b2 : decide (j < 4) = false := decide_eq_false (by omega)
              have hj4 : j = 4 := by omega
              subst hj4
              have HR2 := Aside0.mk (show g' = (g && restB s1 s2 s3 s4 0) by have := HR.out; simpa [restB] using this)
              clear hj
              cases g' with
              | false =>
                go_wp2
                go_roundg q
                case measure => omega
                case rel => exact ⟨i + 1, false, by go_num, rfl, ⟨by have := HI.out; omega⟩, ⟨by have h := HA.out; rw [HD.out, List.all_cons, HB.out] at h; rw [← h]; have e := HR2.out; (cases g <;> cases s1 <;> cases s2 <;> cases s3 <;> cases s4 <;> simp [restB] at e ⊢)⟩, ⟨SKR.keep SQ6.out SP.out.2.2.2.2⟩⟩
              | true =>
                cases s5 with
                | false =>
                  go_wp2_with (first | (go_at_call 37; (with_reducible refine (fits_calls X.f6.f0 X.f6.f1 X.f6.f2 hid d false x6 c_6 _ P4.out (CB G4.out SP.out.2.2.2.2)).mono ?_); rintro e wc ⟨rfl, hbc⟩; have SP := Aside0.mk (SY.keep SP.out hbc); clear z0 z1 z2 z3 z4 k0 k1 k2 k3 k4 k5 k6 k7 k8 k9 k10 k11 k12 k13 k14 k15 k16 k17 k18 k19 m0 m1 m2 m3 m4 m5 m6 m7 m8 m9 m10 m11; obtain ⟨z0, z1, z2, z3, z4, k0, k1, k2, k3, k4, k5, k6, k7, k8, k9, k10, k11, k12, k13, k14, k15, k16, k17, k18, k19, m0, m1, m2, m3, m4, m5, m6, m7, m8, m9, m10, m11⟩ := SP.out.1; clear hbc))
                  go_roundg q
                  case measure => omega
                  case rel => exact ⟨i + 1, false, by go_num, rfl, ⟨by have := HI.out; omega⟩, ⟨by have h := HA.out; rw [HD.out, List.all_cons, HB.out] at h; rw [← h]; have e := HR2.out; (cases g <;> cases s1 <;> cases s2 <;> cases s3 <;> cases s4 <;> simp [restB] at e ⊢)⟩, ⟨SKR.keep SQ6.out SP.out.2.2.2.2⟩⟩
                | true =>
                  cases s6 with
                  | false =>
                    go_wp2_with (first | (go_at_call 37; (with_reducible refine (fits_calls X.f6.f0 X.f6.f1 X.f6.f2 hid d true x6 c_6 _ P4.out (CB G4.out SP.out.2.2.2.2)).mono ?_); rintro e wc ⟨rfl, hbc⟩; have SP := Aside0.mk (SY.keep SP.out hbc); clear z0 z1 z2 z3 z4 k0 k1 k2 k3 k4 k5 k6 k7 k8 k9 k10 k11 k12 k13 k14 k15 k16 k17 k18 k19 m0 m1 m2 m3 m4 m5 m6 m7 m8 m9 m10 m11; obtain ⟨z0, z1, z2, z3, z4, k0, k1, k2, k3, k4, k5, k6, k7, k8, k9, k10, k11, k12, k13, k14, k15, k16, k17, k18, k19, m0, m1, m2, m3, m4, m5, m6, m7, m8, m9, m10, m11⟩ := SP.out.1; clear hbc) | (go_at_call 37; (with_reducible refine (fits_calls X.f7.f0 X.f7.f1 X.f7.f2 d hid false x7 c_7 _ P5.out (CB G5.out SP.out.2.2.2.2)).mono ?_); rintro e wc ⟨rfl, hbc⟩; have SP := Aside0.mk (SY.keep SP.out hbc); clear z0 z1 z2 z3 z4 k0 k1 k2 k3 k4 k5 k6 k7 k8 k9 k10 k11 k12 k13 k14 k15 k16 k17 k18 k19 m0 m1 m2 m3 m4 m5 m6 m7 m8 m9 m10 m11; obtain ⟨z0, z1, z2, z3, z4, k0, k1, k2, k3, k4, k5, k6, k7, k8, k9, k10, k11, k12, k13, k14, k15, k16, k17, k18, k19, m0, m1, m2, m3, m4, m5, m6, m7, m8, m9, m10, m11⟩ := SP.out.1; clear hbc))
                    go_roundg q
                    case measure => omega
                    case rel => exact ⟨i + 1, false, by go_num, rfl, ⟨by have := HI.out; omega⟩, ⟨by have h := HA.out; rw [HD.out, List.all_cons, HB.out] at h; rw [← h]; have e := HR2.out; (cases g <;> cases s1 <;> cases s2 <;> cases s3 <;> cases s4 <;> simp [restB] at e ⊢)⟩, ⟨SKR.keep SQ6.out SP.out.2.2.2.2⟩⟩
                  | true =>
                    by_cases t1 : (X.f0.length : Int) = d
                    · have u1 : ((X.f0.length : Int) == d) = true := by simp [t1]
                      have T1 := Aside0.mk u1
                      clear t1
                      by_cases t2 : (X.f5.length : Int) = d
                      · have u2 : ((X.f5.length : Int) == d) = true := by simp [t2]
                        have T2 := Aside0.mk u2
                        clear t2
                        go_wp2_with (first | (go_at_call 37; (with_reducible refine (fits_calls X.f6.f0 X.f6.f1 X.f6.f2 hid d true x6 c_6 _ P4.out (CB G4.out SP.out.2.2.2.2)).mono ?_); rintro e wc ⟨rfl, hbc⟩; have SP := Aside0.mk (SY.keep SP.out hbc); clear z0 z1 z2 z3 z4 k0 k1 k2 k3 k4 k5 k6 k7 k8 k9 k10 k11 k12 k13 k14 k15 k16 k17 k18 k19 m0 m1 m2 m3 m4 m5 m6 m7 m8 m9 m10 m11; obtain ⟨z0, z1, z2, z3, z4, k0, k1, k2, k3, k4, k5, k6, k7, k8, k9, k10, k11, k12, k13, k14, k15, k16, k17, k18, k19, m0, m1, m2, m3, m4, m5, m6, m7, m8, m9, m10, m11⟩ := SP.out.1; clear hbc) | (go_at_call 37; (with_reducible refine (fits_calls X.f7.f0 X.f7.f1 X.f7.f2 d hid true x7 c_7 _ P5.out (CB G5.out SP.out.2.2.2.2)).mono ?_); rintro e wc ⟨rfl, hbc⟩; have SP := Aside0.mk (SY.keep SP.out hbc); clear z0 z1 z2 z3 z4 k0 k1 k2 k3 k4 k5 k6 k7 k8 k9 k10 k11 k12 k13 k14 k15 k16 k17 k18 k19 m0 m1 m2 m3 m4 m5 m6 m7 m8 m9 m10 m11; obtain ⟨z0, z1, z2, z3, z4, k0, k1, k2, k3, k4, k5, k6, k7, k8, k9, k10, k11, k12, k13, k14, k15, k16, k17, k18, k19, m0, m1, m2, m3, m4, m5, m6, m7, m8, m9, m10, m11⟩ := SP.out.1; clear hbc))
                        go_roundg q
                        case measure => omega
                        case rel => exact ⟨i + 1, true, by go_num, rfl, ⟨by have := HI.out; omega⟩, ⟨by have h := HA.out; rw [HD.out, List.all_cons, HB.out] at h; rw [← h]; have e := HR2.out; (rw [T1.out, T2.out]; cases g <;> cases s1 <;> cases s2 <;> cases s3 <;> cases s4 <;> simp [restB] at e ⊢)⟩, ⟨SKR.keep SQ6.out SP.out.2.2.2.2⟩⟩
                      · have u2 : ((X.f5.length : Int) == d) = false := by simpa using t2
                        have T2 := Aside0.mk u2
                        clear t2
                        go_wp2_with (first | (go_at_call 37; (with_reducible refine (fits_calls X.f6.f0 X.f6.f1 X.f6.f2 hid d true x6 c_6 _ P4.out (CB G4.out SP.out.2.2.2.2)).mono ?_); rintro e wc ⟨rfl, hbc⟩; have SP := Aside0.mk (SY.keep SP.out hbc); clear z0 z1 z2 z3 z4 k0 k1 k2 k3 k4 k5 k6 k7 k8 k9 k10 k11 k12 k13 k14 k15 k16 k17 k18 k19 m0 m1 m2 m3 m4 m5 m6 m7 m8 m9 m10 m11; obtain ⟨z0, z1, z2, z3, z4, k0, k1, k2, k3, k4, k5, k6, k7, k8, k9, k10, k11, k12, k13, k14, k15, k16, k17, k18, k19, m0, m1, m2, m3, m4, m5, m6, m7, m8, m9, m10, m11⟩ := SP.out.1; clear hbc) | (go_at_call 37; (with_reducible refine (fits_calls X.f7.f0 X.f7.f1 X.f7.f2 d hid true x7 c_7 _ P5.out (CB G5.out SP.out.2.2.2.2)).mono ?_); rintro e wc ⟨rfl, hbc⟩; have SP := Aside0.mk (SY.keep SP.out hbc); clear z0 z1 z2 z3 z4 k0 k1 k2 k3 k4 k5 k6 k7 k8 k9 k10 k11 k12 k13 k14 k15 k16 k17 k18 k19 m0 m1 m2 m3 m4 m5 m6 m7 m8 m9 m10 m11; obtain ⟨z0, z1, z2, z3, z4, k0, k1, k2, k3, k4, k5, k6, k7, k8, k9, k10, k11, k12, k13, k14, k15, k16, k17, k18, k19, m0, m1, m2, m3, m4, m5, m6, m7, m8, m9, m10, m11⟩ := SP.out.1; clear hbc))
                        go_roundg q
                        case measure => omega
                        case rel => exact ⟨i + 1, false, by go_num, rfl, ⟨by have := HI.out; omega⟩, ⟨by have h := HA.out; rw [HD.out, List.all_cons, HB.out] at h; rw [← h]; have e := HR2.out; (rw [T1.out, T2.out]; cases g <;> cases s1 <;> cases s2 <;> cases s3 <;> cases s4 <;> simp [restB] at e ⊢)⟩, ⟨SKR.keep SQ6.out SP.out.2.2.2.2⟩⟩
                    · have u1 : ((X.f0.length : Int) == d) = false := by simpa using t1
                      have T1 := Aside0.mk u1
                      clear t1
                      go_wp2_with (first | (go_at_call 37; (with_reducible refine (fits_calls X.f6.f0 X.f6.f1 X.f6.f2 hid d true x6 c_6 _ P4.out (CB G4.out SP.out.2.2.2.2)).mono ?_); rintro e wc ⟨rfl, hbc⟩; have SP := Aside0.mk (SY.keep SP.out hbc); clear z0 z1 z2 z3 z4 k0 k1 k2 k3 k4 k5 k6 k7 k8 k9 k10 k11 k12 k13 k14 k15 k16 k17 k18 k19 m0 m1 m2 m3 m4 m5 m6 m7 m8 m9 m10 m11; obtain ⟨z0, z1, z2, z3, z4, k0, k1, k2, k3, k4, k5, k6, k7, k8, k9, k10, k11, k12, k13, k14, k15, k16, k17, k18, k19, m0, m1, m2, m3, m4, m5, m6, m7, m8, m9, m10, m11⟩ := SP.out.1; clear hbc) | (go_at_call 37; (with_reducible refine (fits_calls X.f7.f0 X.f7.f1 X.f7.f2 d hid true x7 c_7 _ P5.out (CB G5.out SP.out.2.2.2.2)).mono ?_); rintro e wc ⟨rfl, hbc⟩; have SP := Aside0.mk (SY.keep SP.out hbc); clear z0 z1 z2 z3 z4 k0 k1 k2 k3 k4 k5 k6 k7 k8 k9 k10 k11 k12 k13 k14 k15 k16 k17 k18 k19 m0 m1 m2 m3 m4 m5 m6 m7 m8 m9 m10 m11; obtain ⟨z0, z1, z2, z3, z4, k0, k1, k2, k3, k4, k5, k6, k7, k8, k9, k10, k11, k12, k13, k14, k15, k16, k17, k18, k19, m0, m1, m2, m3, m4, m5, m6, m7, m8, m9, m10, m11⟩ := SP.out.1; clear hbc))
                      go_roundg q
                      case measure => omega
                      case rel => exact ⟨i + 1, false, by go_num, rfl, ⟨by have := HI.out; omega⟩, ⟨by have h := HA.out; rw [HD.out, List.all_cons, HB.out] at h; rw [← h]; have e := HR2.out; (rw [T1.out]; cases g <;> cases s1 <;> cases s2 <;> cases s3 <;> cases s4 <;> simp [restB] at e ⊢)⟩, ⟨SKR.keep SQ6.out SP.out.2.2.2.2⟩⟩
        | zero =>
          have b1 : decide (i < l3.length) = false := decide_eq_false (by omega)
          have hf : g = x := by have h := HA.out; rw [List.drop_eq_nil_of_le (by omega), List.all_nil, Bool.and_true] at h; exact h
          subst hf
          clear hi hm
          cases g with
          | true =>
            go_wp2
            go_ret
            exact ⟨rfl, SQ.out.2.2.2⟩
          | false =>
            go_wp2
            go_ret
            exact ⟨rfl, SQ.out.2.2.2⟩
  · obtain ⟨s, hs_⟩ : ∃ s, shp v d hs hid ly = s := ⟨_, rfl⟩
    rw [hs_] at hs0 q0
    have d1 : (s != 0) = true := bne_iff_ne.mpr q0
    have HS := Aside0.mk hs0
    unfold rchk
    rw [hs_, if_neg q0]
    clear q0 hs0 hs_
    go_enter Try.func23, Try.ntmps23
    obtain ⟨z0, z1, z2, z3, z4, y0, y1, y2, y3, y4, y5, y6, y7⟩ := SN.out.1
    go_wp2_with (go_at_call 19; go_loud (refine (tillerref06_Shape.calls 20 v d hs hid ly s _ HS.out).mono ?_); rintro e wc ⟨rfl, hbc⟩; have SN := Aside0.mk (SKR.keep SN.out hbc); clear z0 z1 z2 z3 z4 y0 y1 y2 y3 y4 y5 y6 y7; obtain ⟨z0, z1, z2, z3, z4, y0, y1, y2, y3, y4, y5, y6, y7⟩ := SN.out.1; clear hbc)
    go_ret
    exact ⟨rfl, SN.out.2.2.2⟩
end Go.Proofs.Ytdlhodbokkaghaa.GQ
