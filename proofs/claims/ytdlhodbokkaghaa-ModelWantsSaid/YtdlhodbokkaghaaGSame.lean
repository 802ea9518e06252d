/- tillerref06.Same of two models that are alike, walked by hand. -/
import Derived.Test.YtdlhodbokkaghaaGQx3
import Derived.Test.YtdlhodbokkaghaaGMake
import Derived.Test.YtdlhodbokkaghaaUMaker
import Derived.Deep.MidRow
import Derived.Deep.RegionHeld3
set_option linter.unusedVariables false
set_option linter.unusedSimpArgs false
namespace Go.Proofs.Ytdlhodbokkaghaa.GQ
open Go.RowKit Go.Proofs.YtdlhodbokkaghaaW.PrintWords Go.Proofs.YtdlhodbokkaghaaW.PrintLast Go.Proofs.YtdlhodbokkaghaaW.PrintMore Go.Proofs.Ytdlhodbokkaghaa.U
abbrev BR := S74
abbrev kR := k74
theorem wide_calls (A : Option Addr) (n c : Nat) (w : World) : Calls Try.prog 29 #[.slice A n c] w fun e w' => e = .returned (.agg #[.int .i64 1, .int .i64 (n : Int), .slice A n c]) ∧ Below w.heap.size w w' := by
  go_enter Try.func29, Try.ntmps29
  go_wp2
  exact bodyPost_ret (v := .agg #[.int .i64 1, .int .i64 (n : Int), .slice A n c]) (by simp [results, Try.results29, go_sem]) rfl ⟨rfl, (Below.refl _ _).alloc (Nat.le_refl _) _⟩
theorem same3_true (l : List Int) (hl : l.length ≤ 100000) : ∀ (n i k : Nat), i + n = l.length → n < k → tillerref03_Same.l0 k l l (l.length : Int) (i : Int) = some true := by
  intro n
  induction n with
  | zero =>
    intro i k hi hk
    obtain ⟨k, rfl⟩ := succ_of_lt (show 0 < k by omega)
    simp only [tillerref03_Same.l0]
    rw [if_neg (by omega)]
  | succ n ih =>
    intro i k hi hk
    obtain ⟨k, rfl⟩ := succ_of_lt (show 0 < k by omega)
    simp only [tillerref03_Same.l0]
    rw [if_pos (by omega), if_pos (by omega), if_pos (by omega), if_pos (by omega), if_pos trivial, w64 (by omega) (by omega), ← Int.natCast_one, ← Int.natCast_add]
    exact ih (i + 1) k (by omega) (by omega)
theorem same4_true (k : Nat) (r c : Int) (l : List Int) (hl : l.length ≤ 100000) (hk : l.length + 5 ≤ k) : tillerref04_Same.f k r c l r c l = some true := by
  unfold tillerref04_Same.f tillerref03_Same.f
  have h := same3_true l hl l.length 0 k (by omega) (by omega)
  rw [if_pos rfl, if_pos rfl, if_pos rfl]
  exact (congrArg (fun x => x.bind fun t => some t) h).trans rfl
abbrev wcs (r c : Int) (v2 v3 v4 : Value) (r' c' : Int) (v7 : Value) : Array Value := #[.int .i64 r, .int .i64 c, v2, v3, v4, .int .i64 r', .int .i64 c', v7]
/-- What every world within the walk holds: both boxes, cell by cell. -/
abbrev SS (w : World) (r c : Int) (u2 u3 u4 : Value) (r' c' : Int) (u7 v2 v3 v4 v7 : Value) (W : World) : Prop :=
  (W.cell? ⟨w.heap.size, 0, none⟩ = some (.int .i64 r) ∧ W.cell? ⟨w.heap.size, 1, none⟩ = some (.int .i64 c) ∧ W.cell? ⟨w.heap.size, 2, none⟩ = some u2 ∧ W.cell? ⟨w.heap.size, 3, none⟩ = some u3 ∧ W.cell? ⟨w.heap.size, 4, none⟩ = some u4 ∧ W.cell? ⟨w.heap.size, 5, none⟩ = some (.int .i64 r') ∧ W.cell? ⟨w.heap.size, 6, none⟩ = some (.int .i64 c') ∧ W.cell? ⟨w.heap.size, 7, none⟩ = some u7) ∧
  (W.cell? ⟨w.heap.size + 1, 0, none⟩ = some (.int .i64 r) ∧ W.cell? ⟨w.heap.size + 1, 1, none⟩ = some (.int .i64 c) ∧ W.cell? ⟨w.heap.size + 1, 2, none⟩ = some v2 ∧ W.cell? ⟨w.heap.size + 1, 3, none⟩ = some v3 ∧ W.cell? ⟨w.heap.size + 1, 4, none⟩ = some v4 ∧ W.cell? ⟨w.heap.size + 1, 5, none⟩ = some (.int .i64 r') ∧ W.cell? ⟨w.heap.size + 1, 6, none⟩ = some (.int .i64 c') ∧ W.cell? ⟨w.heap.size + 1, 7, none⟩ = some v7) ∧
  W.heap[w.heap.size]? = some (.cells (wcs r c u2 u3 u4 r' c' u7) 41 (0, 0)) ∧ W.heap[w.heap.size + 1]? = some (.cells (wcs r c v2 v3 v4 r' c' v7) 41 (0, 0)) ∧ Below w.heap.size w W
theorem SS.mk' {w W : World} {r c : Int} {u2 u3 u4 : Value} {r' c' : Int} {u7 v2 v3 v4 v7 : Value} (h1 : W.heap[w.heap.size]? = some (.cells (wcs r c u2 u3 u4 r' c' u7) 41 (0, 0))) (h2 : W.heap[w.heap.size + 1]? = some (.cells (wcs r c v2 v3 v4 r' c' v7) 41 (0, 0))) (hb : Below w.heap.size w W) : SS w r c u2 u3 u4 r' c' u7 v2 v3 v4 v7 W :=
  ⟨⟨blk_cell h1 0, blk_cell h1 1, blk_cell h1 2, blk_cell h1 3, blk_cell h1 4, blk_cell h1 5, blk_cell h1 6, blk_cell h1 7⟩, ⟨blk_cell h2 0, blk_cell h2 1, blk_cell h2 2, blk_cell h2 3, blk_cell h2 4, blk_cell h2 5, blk_cell h2 6, blk_cell h2 7⟩, h1, h2, hb⟩
theorem SS.keep {w W W' : World} {r c : Int} {u2 u3 u4 : Value} {r' c' : Int} {u7 v2 v3 v4 v7 : Value} (h : SS w r c u2 u3 u4 r' c' u7 v2 v3 v4 v7 W) (hb : Below W.heap.size W W') : SS w r c u2 u3 u4 r' c' u7 v2 v3 v4 v7 W' :=
  SS.mk' (blk_below h.2.2.1 hb) (blk_below h.2.2.2.1 hb) (h.2.2.2.2.trans (hb.mono h.2.2.2.2.size))
theorem SS.bel {w W : World} {r c : Int} {u2 u3 u4 : Value} {r' c' : Int} {u7 v2 v3 v4 v7 : Value} (h : SS w r c u2 u3 u4 r' c' u7 v2 v3 v4 v7 W) : Below w.heap.size w W := h.2.2.2.2
theorem SS.start {w : World} {r c : Int} {u2 u3 u4 : Value} {r' c' : Int} {u7 v2 v3 v4 v7 : Value} : SS w r c u2 u3 u4 r' c' u7 v2 v3 v4 v7 ((w.alloc (.cells (wcs r c u2 u3 u4 r' c' u7) 41 (0, 0))).alloc (.cells (wcs r c v2 v3 v4 r' c' v7) 41 (0, 0))) := by
  have e1 : (w.alloc (.cells (wcs r c u2 u3 u4 r' c' u7) 41 (0, 0))).heap.size = w.heap.size + 1 := World.size_alloc _ _
  refine SS.mk' (blk_alloc (blk_new _ _) _) ?_ ((below_alloc (Below.refl _ _) _).alloc (by rw [e1]; omega) _)
  have h := blk_new (w.alloc (.cells (wcs r c u2 u3 u4 r' c' u7) 41 (0, 0))) (.cells (wcs r c v2 v3 v4 r' c' v7) 41 (0, 0))
  rwa [e1] at h
section
variable {P : Program} {ops : Array Oper} {rest : List Oper} {o : Oper} {a : Act} {Q : Exit → Act → World → Prop}
theorem run_loadVar_any (w : World) (ad : Addr) (ty : TypeId) (cs : List Value) (d : TypeDesc) (hc : ∀ j v, cs[j]? = some v → w.cell? (ad.add j) = some v) (hu : P.underlying ty = some d) (hd : d.isRow = true) (hi : (P.info? ty).map (·.size) = some cs.length) :
    (loadVar ty ad).run P w = .ok (.agg cs.toArray) w := by
  have hl : (loadCells ad cs.length).run P w = .ok cs.toArray w := run_loadCells_list (P := P) w ad cs hc
  cases hq : P.info? ty with
  | none => simp [hq] at hi
  | some i =>
    have hs : i.size = cs.length := by simpa [hq] using hi
    have hagg : (isAgg ty).run P w = .ok true w := by
      unfold isAgg
      rw [Sem.run_bind, run_underlying hu w]
      cases d <;> simp_all
    simp [loadVar, Sem.run_bind, hagg, sizeOf, typeInfo, hq, hs, hl]
/-- A whole element is read. -/
theorem load_any_event {W : World} {ad : Addr} {t N : Nat} {p : Tmp} {d : TypeDesc} (cs : List Value) (hgd : o.guard = none) (ho : o.op = .load t (.tmp p)) (hN : o.dst = some N) (hp : a.eval (.tmp p) = .pointer (some ad)) (hc : ∀ j v, cs[j]? = some v → W.cell? (ad.add j) = some v) (hu : P.underlying t = some d) (hd : d.isRow = true) (hi : (P.info? t).map (·.size) = some cs.length)
    (h : wpList P ops Q rest (a.put o.dst (.agg cs.toArray)) W) : wpList P ops Q (o :: rest) a W := by
  refine Kd.event_run (v := .agg cs.toArray) (w1 := W) hgd ?_ h
  have hrun := run_loadVar_any (P := P) W ad t cs d hc hu hd hi
  unfold execOp
  simp only [ho, hp, Instr.loadAt, Instr.sureAddr, Sem.run_bind, Sem.run_pure, Result.andThen_ok, hrun]
end
/-- An element of a row of blocks, cell by cell, and what its rows hold. -/
theorem elem_at {w : World} {A : Option Addr} {xs : List BR} (h : Kd.C kR w A xs.length xs) (i : Nat) (hi : i < xs.length) : ∃ ad cs, A = some ad ∧ kR.K w (rd_T74 xs (i : Int)) cs ∧ ∀ j u, cs[j]? = some u → w.cell? ((ad.add (i * 20)).add j) = some u := by
  obtain ⟨ad, cs, e, _, hK, hc0⟩ := Kd.C_get h z74 (i : Int) (by omega) (by omega)
  exact ⟨ad, cs, e, hK, fun j u hj => by have h1 := hc0 j u hj; rw [Int.toNat_natCast] at h1; rw [add_add]; exact h1⟩
abbrev S20 (g : Nat) (cs : List Value) (W : World) : Prop := W.cell? ⟨g, 0, none⟩ = cs[0]? ∧ W.cell? ⟨g, 1, none⟩ = cs[1]? ∧ W.cell? ⟨g, 2, none⟩ = cs[2]? ∧ W.cell? ⟨g, 3, none⟩ = cs[3]? ∧ W.cell? ⟨g, 4, none⟩ = cs[4]? ∧ W.cell? ⟨g, 5, none⟩ = cs[5]? ∧ W.cell? ⟨g, 6, none⟩ = cs[6]? ∧ W.cell? ⟨g, 7, none⟩ = cs[7]? ∧ W.cell? ⟨g, 8, none⟩ = cs[8]? ∧ W.cell? ⟨g, 9, none⟩ = cs[9]? ∧ W.cell? ⟨g, 10, none⟩ = cs[10]? ∧ W.cell? ⟨g, 11, none⟩ = cs[11]? ∧ W.cell? ⟨g, 12, none⟩ = cs[12]? ∧ W.cell? ⟨g, 13, none⟩ = cs[13]? ∧ W.cell? ⟨g, 14, none⟩ = cs[14]? ∧ W.cell? ⟨g, 15, none⟩ = cs[15]? ∧ W.cell? ⟨g, 16, none⟩ = cs[16]? ∧ W.cell? ⟨g, 17, none⟩ = cs[17]? ∧ W.cell? ⟨g, 18, none⟩ = cs[18]? ∧ W.cell? ⟨g, 19, none⟩ = cs[19]?
theorem S20.of {g t : Nat} {cs : List Value} {W : World} (h : W.heap[g]? = some (.cells cs.toArray t (0, 0))) : S20 g cs W := by
  have e : ∀ j, W.cell? ⟨g, j, none⟩ = cs[j]? := fun j => by rw [blk_cell h j]; simp
  exact ⟨e 0, e 1, e 2, e 3, e 4, e 5, e 6, e 7, e 8, e 9, e 10, e 11, e 12, e 13, e 14, e 15, e 16, e 17, e 18, e 19⟩
/-- What every world within a round's test holds. -/
abbrev SB (w9 : World) (gx gy : Nat) (cx cy : List Value) (W : World) : Prop := S20 gx cx W ∧ S20 gy cy W ∧ W.heap[gx]? = some (.cells cx.toArray 74 (0, 0)) ∧ W.heap[gy]? = some (.cells cy.toArray 74 (0, 0)) ∧ Below w9.heap.size w9 W
theorem SB.mk' {w9 W : World} {gx gy : Nat} {cx cy : List Value} (h1 : W.heap[gx]? = some (.cells cx.toArray 74 (0, 0))) (h2 : W.heap[gy]? = some (.cells cy.toArray 74 (0, 0))) (hb : Below w9.heap.size w9 W) : SB w9 gx gy cx cy W := ⟨S20.of h1, S20.of h2, h1, h2, hb⟩
theorem SB.keep {w9 W W' : World} {gx gy : Nat} {cx cy : List Value} (h : SB w9 gx gy cx cy W) (hb : Below W.heap.size W W') : SB w9 gx gy cx cy W' := SB.mk' (blk_below h.2.2.1 hb) (blk_below h.2.2.2.1 hb) (h.2.2.2.2.trans (hb.mono h.2.2.2.2.size))
theorem SB.bel {w9 W : World} {gx gy : Nat} {cx cy : List Value} (h : SB w9 gx gy cx cy W) : Below w9.heap.size w9 W := h.2.2.2.2
theorem SB.C {w w9 W : World} {gx gy : Nat} {cx cy : List Value} {A : Option Addr} {n : Nat} {l : List Int} (hc : Kd.C kI w A n l) (hb : Below w.heap.size w w9) (h : SB w9 gx gy cx cy W) : Kd.C kI W A n l := Kd.C_below hc (hb.trans (h.bel.mono hb.size))
set_option maxHeartbeats 16000000 in
set_option maxRecDepth 100000 in
theorem same_calls (r c : Int) (l2 : List Int) (l3 : List BR) (l4 : List Int) (r' c' : Int) (l7 : List Int) (A2 : Option Addr) (c2 : Nat) (A3 : Option Addr) (c3 : Nat) (A4 : Option Addr) (c4 : Nat) (A7 : Option Addr) (c7 : Nat) (B2 : Option Addr) (d2 : Nat) (B3 : Option Addr) (d3 : Nat) (B4 : Option Addr) (d4 : Nat) (B7 : Option Addr) (d7 : Nat) (w : World)
    (ha2 : Kd.C kI w A2 l2.length l2 ∧ l2.length ≤ c2) (ha3 : Kd.C kR w A3 l3.length l3 ∧ l3.length ≤ c3) (ha4 : Kd.C kI w A4 l4.length l4 ∧ l4.length ≤ c4) (ha7 : Kd.C kI w A7 l7.length l7 ∧ l7.length ≤ c7)
    (hb2 : Kd.C kI w B2 l2.length l2 ∧ l2.length ≤ d2) (hb3 : Kd.C kR w B3 l3.length l3 ∧ l3.length ≤ d3) (hb4 : Kd.C kI w B4 l4.length l4 ∧ l4.length ≤ d4) (hb7 : Kd.C kI w B7 l7.length l7 ∧ l7.length ≤ d7)
    (n3 : ∀ b ∈ l3, b.f0.length ≤ 100000 ∧ b.f1.f2.length ≤ 100000 ∧ b.f2.f2.length ≤ 100000 ∧ b.f3.f2.length ≤ 100000 ∧ b.f4.f2.length ≤ 100000 ∧ b.f5.length ≤ 100000 ∧ b.f6.f2.length ≤ 100000 ∧ b.f7.f2.length ≤ 100000) (m3 : l3.length ≤ 1000) (n2 : l2.length ≤ 100000) (n4 : l4.length ≤ 100000) (n7 : l7.length ≤ 100000) :
    Calls Try.prog 11 #[.agg #[.int .i64 r, .int .i64 c, .slice A2 l2.length c2, .slice A3 l3.length c3, .slice A4 l4.length c4, .int .i64 r', .int .i64 c', .slice A7 l7.length c7], .agg #[.int .i64 r, .int .i64 c, .slice B2 l2.length d2, .slice B3 l3.length d3, .slice B4 l4.length d4, .int .i64 r', .int .i64 c', .slice B7 l7.length d7]] w fun e w' => e = .returned (.bool true) ∧ Below w.heap.size w w' := by
  have HA2 := Aside0.mk ha2
  have HA3 := Aside0.mk ha3
  have HA4 := Aside0.mk ha4
  have HA7 := Aside0.mk ha7
  have HB2 := Aside0.mk hb2
  have HB3 := Aside0.mk hb3
  have HB4 := Aside0.mk hb4
  have HB7 := Aside0.mk hb7
  have N3 := Aside0.mk n3
  have M3 := Aside0.mk m3
  clear n3 m3
  have E2 := Aside0.mk (same4_true 200000 r c l2 n2 (by omega))
  have E4 := Aside0.mk (same4_true 200000 1 (l4.length : Int) l4 n4 (by omega))
  have E7 := Aside0.mk (same4_true 200000 r' c' l7 n7 (by omega))
  have sn0 := SS.start (w := w) (r := r) (c := c) (u2 := .slice A2 l2.length c2) (u3 := .slice A3 l3.length c3) (u4 := .slice A4 l4.length c4) (r' := r') (c' := c') (u7 := .slice A7 l7.length c7) (v2 := .slice B2 l2.length d2) (v3 := .slice B3 l3.length d3) (v4 := .slice B4 l4.length d4) (v7 := .slice B7 l7.length d7)
  have SN := Aside0.mk sn0
  clear ha2 ha3 ha4 ha7 hb2 hb3 hb4 hb7 n2 n4 n7 sn0
  go_enter Try.func11, Try.ntmps11
  go_wp2
  have sn0 := SN.out
  have sn1 := SN.out.keep (Below.refl _ _).drew
  go_region_held3 (SS w r c (.slice A2 l2.length c2) (.slice A3 l3.length c3) (.slice A4 l4.length c4) r' c' (.slice A7 l7.length c7) (.slice B2 l2.length d2) (.slice B3 l3.length d3) (.slice B4 l4.length d4) (.slice B7 l7.length d7))
    (first | exact sn | exact sn1 | exact sn0)
    (first
    | (go_at_call 28; (with_reducible refine (tillerref04_Same.calls 200000 r c A2 c2 l2 r c B2 d2 l2 true _ (Kd.C_below HA2.out.1 (SS.bel (by assumption))) HA2.out.2 (Kd.C_below HB2.out.1 (SS.bel (by assumption))) HB2.out.2 E2.out).mono ?_); rintro e wc ⟨rfl, hbc⟩; have sn := SS.keep (by assumption) hbc; clear hbc)
    | (go_at_call 28; (with_reducible refine (tillerref04_Same.calls 200000 r' c' A7 c7 l7 r' c' B7 d7 l7 true _ (Kd.C_below HA7.out.1 (SS.bel (by assumption))) HA7.out.2 (Kd.C_below HB7.out.1 (SS.bel (by assumption))) HB7.out.2 E7.out).mono ?_); rintro e wc ⟨rfl, hbc⟩; have sn := SS.keep (by assumption) hbc; clear hbc)
    | (go_at_call 28; (with_reducible refine (tillerref04_Same.calls 200000 1 (l4.length : Int) A4 c4 l4 1 (l4.length : Int) B4 d4 l4 true _ (Kd.C_below HA4.out.1 (SS.bel (by assumption))) HA4.out.2 (Kd.C_below HB4.out.1 (SS.bel (by assumption))) HB4.out.2 E4.out).mono ?_); rintro e wc ⟨rfl, hbc⟩; have sn := SS.keep (by assumption) hbc; clear hbc)
    | (go_at_call 29; refine (wide_calls _ _ _ _).mono ?_; rintro e wc ⟨rfl, hbc⟩; have sn := SS.keep (by assumption) hbc; clear hbc))
  go_wp2
  have SL := Aside0.mk sn
  clear sn sn0 sn1
  go_loopg [44] l3.length (fun kq v44 w' => ∃ i : Nat, v44 = .int .i64 (i : Int) ∧ Aside0 (i + kq = l3.length) ∧ Aside0 (SS w r c (.slice A2 l2.length c2) (.slice A3 l3.length c3) (.slice A4 l4.length c4) r' c' (.slice A7 l7.length c7) (.slice B2 l2.length d2) (.slice B3 l3.length d3) (.slice B4 l4.length d4) (.slice B7 l7.length d7) w'))
  case atStart => exact ⟨0, rfl, ⟨Nat.zero_add _⟩, SL⟩
  case round =>
    clear SL
    obtain ⟨i, rfl, HI, SL⟩ := hrel
    have hi := HI.out
    have hm := M3.out
    cases gk with
    | succ q =>
      have b1 : decide (i < l3.length) = true := decide_eq_true (by omega)
      have p1 : 0 ≤ (i : Int) := by omega
      have q1 : (i : Int) < (l3.length : Int) := by omega
      have i2 : (i : Int) + 1 ≤ 1000 := by omega
      obtain ⟨ax, csx, e1, hKx, hcx⟩ := elem_at HA3.out.1 i (by omega)
      obtain ⟨ay, csy, e2, hKy, hcy⟩ := elem_at HB3.out.1 i (by omega)
      subst e1 e2
      have NX := Aside0.mk (N3.out (rd_T74 l3 (i : Int)) (by unfold rd_T74; rw [Int.toNat_natCast, List.getD_eq_getElem?_getD, List.getElem?_eq_getElem (by omega)]; exact List.getElem_mem _))
      obtain ⟨X, hX⟩ : ∃ X, rd_T74 l3 (i : Int) = X := ⟨_, rfl⟩
      rw [hX] at hKx hKy NX
      obtain ⟨x0, xc0, x1, xc1, x2, xc2, x3, xc3, x4, xc4, x5, xc5, x6, xc6, x7, xc7, rfl, xl0, xg0, xl1, xg1, xl2, xg2, xl3, xg3, xl4, xg4, xl5, xg5, xl6, xg6, xl7, xg7⟩ := k74_open hKx
      obtain ⟨y0, yc0, y1, yc1, y2, yc2, y3, yc3, y4, yc4, y5, yc5, y6, yc6, y7, yc7, rfl, yl0, yg0, yl1, yg1, yl2, yg2, yl3, yg3, yl4, yg4, yl5, yg5, yl6, yg6, yl7, yg7⟩ := k74_open hKy
      have CX := Aside0.mk (fun j u hj => (SL.out.bel.cell (World.block_lt_of_cell? w _ (hcx j u hj))).trans (hcx j u hj))
      have CY := Aside0.mk (fun j u hj => (SL.out.bel.cell (World.block_lt_of_cell? w _ (hcy j u hj))).trans (hcy j u hj))
      have GX0 := Aside0.mk (And.intro xg0 xl0)
      have GY0 := Aside0.mk (And.intro yg0 yl0)
      have GX1 := Aside0.mk (And.intro xg1 xl1)
      have GY1 := Aside0.mk (And.intro yg1 yl1)
      have GX2 := Aside0.mk (And.intro xg2 xl2)
      have GY2 := Aside0.mk (And.intro yg2 yl2)
      have GX3 := Aside0.mk (And.intro xg3 xl3)
      have GY3 := Aside0.mk (And.intro yg3 yl3)
      have GX4 := Aside0.mk (And.intro xg4 xl4)
      have GY4 := Aside0.mk (And.intro yg4 yl4)
      have GX5 := Aside0.mk (And.intro xg5 xl5)
      have GY5 := Aside0.mk (And.intro yg5 yl5)
      have GX6 := Aside0.mk (And.intro xg6 xl6)
      have GY6 := Aside0.mk (And.intro yg6 yl6)
      have GX7 := Aside0.mk (And.intro xg7 xl7)
      have GY7 := Aside0.mk (And.intro yg7 yl7)
      obtain ⟨z0, z1⟩ := And.intro SL.out.1.2.2.2.1 SL.out.2.1.2.2.2.1
      have hk : ∀ (o : Obj) (a : Addr) (u : Value), wr.cell? a = some u → (wr.alloc o).cell? a = some u := fun o a u hu => (World.cell?_alloc_lt _ _ _ (World.block_lt_of_cell? wr _ hu)).trans hu
      have z2 := hk (.cells [(Value.slice x0 X.f0.length xc0), (Value.int .i64 X.f1.f0), (Value.int .i64 X.f1.f1), (Value.slice x1 X.f1.f2.length xc1), (Value.int .i64 X.f2.f0), (Value.int .i64 X.f2.f1), (Value.slice x2 X.f2.f2.length xc2), (Value.int .i64 X.f3.f0), (Value.int .i64 X.f3.f1), (Value.slice x3 X.f3.f2.length xc3), (Value.int .i64 X.f4.f0), (Value.int .i64 X.f4.f1), (Value.slice x4 X.f4.f2.length xc4), (Value.slice x5 X.f5.length xc5), (Value.int .i64 X.f6.f0), (Value.int .i64 X.f6.f1), (Value.slice x6 X.f6.f2.length xc6), (Value.int .i64 X.f7.f0), (Value.int .i64 X.f7.f1), (Value.slice x7 X.f7.f2.length xc7)].toArray 74 (0, 0)) _ _ z1
      simp only [List.toArray] at z2
      clear hX hKx hKy hcx hcy hi hm hk xl0 xg0 xl1 xg1 xl2 xg2 xl3 xg3 xl4 xg4 xl5 xg5 xl6 xg6 xl7 xg7 yl0 yg0 yl1 yg1 yl2 yg2 yl3 yg3 yl4 yg4 yl5 yg5 yl6 yg6 yl7 yg7
      go_wp2_with (first
        | ((with_reducible refine gate_dst (N := 48) rfl ?_); go_loud (refine load_any_event [(Value.slice x0 X.f0.length xc0), (Value.int .i64 X.f1.f0), (Value.int .i64 X.f1.f1), (Value.slice x1 X.f1.f2.length xc1), (Value.int .i64 X.f2.f0), (Value.int .i64 X.f2.f1), (Value.slice x2 X.f2.f2.length xc2), (Value.int .i64 X.f3.f0), (Value.int .i64 X.f3.f1), (Value.slice x3 X.f3.f2.length xc3), (Value.int .i64 X.f4.f0), (Value.int .i64 X.f4.f1), (Value.slice x4 X.f4.f2.length xc4), (Value.slice x5 X.f5.length xc5), (Value.int .i64 X.f6.f0), (Value.int .i64 X.f6.f1), (Value.slice x6 X.f6.f2.length xc6), (Value.int .i64 X.f7.f0), (Value.int .i64 X.f7.f1), (Value.slice x7 X.f7.f2.length xc7)] rfl rfl rfl rfl CX.out Try.underlying74 rfl (by kernel_rfl) ?_))
        | ((with_reducible refine gate_store (t := 74) (p := 6) rfl ?_); go_loud (refine store_new_event [(Value.slice x0 X.f0.length xc0), (Value.int .i64 X.f1.f0), (Value.int .i64 X.f1.f1), (Value.slice x1 X.f1.f2.length xc1), (Value.int .i64 X.f2.f0), (Value.int .i64 X.f2.f1), (Value.slice x2 X.f2.f2.length xc2), (Value.int .i64 X.f3.f0), (Value.int .i64 X.f3.f1), (Value.slice x3 X.f3.f2.length xc3), (Value.int .i64 X.f4.f0), (Value.int .i64 X.f4.f1), (Value.slice x4 X.f4.f2.length xc4), (Value.slice x5 X.f5.length xc5), (Value.int .i64 X.f6.f0), (Value.int .i64 X.f6.f1), (Value.slice x6 X.f6.f2.length xc6), (Value.int .i64 X.f7.f0), (Value.int .i64 X.f7.f1), (Value.slice x7 X.f7.f2.length xc7)].toArray rfl rfl rfl rfl rfl (by kernel_rfl) rfl (by simp [Value.oneCell']) ?_))
        | ((with_reducible refine gate_dst (N := 53) rfl ?_); go_loud (refine load_any_event [(Value.slice y0 X.f0.length yc0), (Value.int .i64 X.f1.f0), (Value.int .i64 X.f1.f1), (Value.slice y1 X.f1.f2.length yc1), (Value.int .i64 X.f2.f0), (Value.int .i64 X.f2.f1), (Value.slice y2 X.f2.f2.length yc2), (Value.int .i64 X.f3.f0), (Value.int .i64 X.f3.f1), (Value.slice y3 X.f3.f2.length yc3), (Value.int .i64 X.f4.f0), (Value.int .i64 X.f4.f1), (Value.slice y4 X.f4.f2.length yc4), (Value.slice y5 X.f5.length yc5), (Value.int .i64 X.f6.f0), (Value.int .i64 X.f6.f1), (Value.slice y6 X.f6.f2.length yc6), (Value.int .i64 X.f7.f0), (Value.int .i64 X.f7.f1), (Value.slice y7 X.f7.f2.length yc7)] rfl rfl rfl rfl (fun j u hj => (World.cell?_alloc_lt _ _ _ (World.block_lt_of_cell? wr _ (CY.out j u hj))).trans (CY.out j u hj)) Try.underlying74 rfl (by kernel_rfl) ?_))
        | ((with_reducible refine gate_store (t := 74) (p := 7) rfl ?_); go_loud (refine store_new_event [(Value.slice y0 X.f0.length yc0), (Value.int .i64 X.f1.f0), (Value.int .i64 X.f1.f1), (Value.slice y1 X.f1.f2.length yc1), (Value.int .i64 X.f2.f0), (Value.int .i64 X.f2.f1), (Value.slice y2 X.f2.f2.length yc2), (Value.int .i64 X.f3.f0), (Value.int .i64 X.f3.f1), (Value.slice y3 X.f3.f2.length yc3), (Value.int .i64 X.f4.f0), (Value.int .i64 X.f4.f1), (Value.slice y4 X.f4.f2.length yc4), (Value.slice y5 X.f5.length yc5), (Value.int .i64 X.f6.f0), (Value.int .i64 X.f6.f1), (Value.slice y6 X.f6.f2.length yc6), (Value.int .i64 X.f7.f0), (Value.int .i64 X.f7.f1), (Value.slice y7 X.f7.f2.length yc7)].toArray rfl rfl rfl (by simp [Act.eval, World.size_alloc]) rfl (by kernel_rfl) rfl (by simp [Value.oneCell']) ?_)))
      obtain ⟨LX, hLX⟩ : ∃ LX : List Value, LX = [(Value.slice x0 X.f0.length xc0), (Value.int .i64 X.f1.f0), (Value.int .i64 X.f1.f1), (Value.slice x1 X.f1.f2.length xc1), (Value.int .i64 X.f2.f0), (Value.int .i64 X.f2.f1), (Value.slice x2 X.f2.f2.length xc2), (Value.int .i64 X.f3.f0), (Value.int .i64 X.f3.f1), (Value.slice x3 X.f3.f2.length xc3), (Value.int .i64 X.f4.f0), (Value.int .i64 X.f4.f1), (Value.slice x4 X.f4.f2.length xc4), (Value.slice x5 X.f5.length xc5), (Value.int .i64 X.f6.f0), (Value.int .i64 X.f6.f1), (Value.slice x6 X.f6.f2.length xc6), (Value.int .i64 X.f7.f0), (Value.int .i64 X.f7.f1), (Value.slice x7 X.f7.f2.length xc7)] := ⟨_, rfl⟩
      obtain ⟨LY, hLY⟩ : ∃ LY : List Value, LY = [(Value.slice y0 X.f0.length yc0), (Value.int .i64 X.f1.f0), (Value.int .i64 X.f1.f1), (Value.slice y1 X.f1.f2.length yc1), (Value.int .i64 X.f2.f0), (Value.int .i64 X.f2.f1), (Value.slice y2 X.f2.f2.length yc2), (Value.int .i64 X.f3.f0), (Value.int .i64 X.f3.f1), (Value.slice y3 X.f3.f2.length yc3), (Value.int .i64 X.f4.f0), (Value.int .i64 X.f4.f1), (Value.slice y4 X.f4.f2.length yc4), (Value.slice y5 X.f5.length yc5), (Value.int .i64 X.f6.f0), (Value.int .i64 X.f6.f1), (Value.slice y6 X.f6.f2.length yc6), (Value.int .i64 X.f7.f0), (Value.int .i64 X.f7.f1), (Value.slice y7 X.f7.f2.length yc7)] := ⟨_, rfl⟩
      have e9 : (wr.alloc (.cells [(Value.slice x0 X.f0.length xc0), (Value.int .i64 X.f1.f0), (Value.int .i64 X.f1.f1), (Value.slice x1 X.f1.f2.length xc1), (Value.int .i64 X.f2.f0), (Value.int .i64 X.f2.f1), (Value.slice x2 X.f2.f2.length xc2), (Value.int .i64 X.f3.f0), (Value.int .i64 X.f3.f1), (Value.slice x3 X.f3.f2.length xc3), (Value.int .i64 X.f4.f0), (Value.int .i64 X.f4.f1), (Value.slice x4 X.f4.f2.length xc4), (Value.slice x5 X.f5.length xc5), (Value.int .i64 X.f6.f0), (Value.int .i64 X.f6.f1), (Value.slice x6 X.f6.f2.length xc6), (Value.int .i64 X.f7.f0), (Value.int .i64 X.f7.f1), (Value.slice x7 X.f7.f2.length xc7)].toArray 74 (0, 0))).heap.size = wr.heap.size + 1 := World.size_alloc _ _
      have kx := blk_alloc (blk_new wr (.cells [(Value.slice x0 X.f0.length xc0), (Value.int .i64 X.f1.f0), (Value.int .i64 X.f1.f1), (Value.slice x1 X.f1.f2.length xc1), (Value.int .i64 X.f2.f0), (Value.int .i64 X.f2.f1), (Value.slice x2 X.f2.f2.length xc2), (Value.int .i64 X.f3.f0), (Value.int .i64 X.f3.f1), (Value.slice x3 X.f3.f2.length xc3), (Value.int .i64 X.f4.f0), (Value.int .i64 X.f4.f1), (Value.slice x4 X.f4.f2.length xc4), (Value.slice x5 X.f5.length xc5), (Value.int .i64 X.f6.f0), (Value.int .i64 X.f6.f1), (Value.slice x6 X.f6.f2.length xc6), (Value.int .i64 X.f7.f0), (Value.int .i64 X.f7.f1), (Value.slice x7 X.f7.f2.length xc7)].toArray 74 (0, 0))) (.cells [(Value.slice y0 X.f0.length yc0), (Value.int .i64 X.f1.f0), (Value.int .i64 X.f1.f1), (Value.slice y1 X.f1.f2.length yc1), (Value.int .i64 X.f2.f0), (Value.int .i64 X.f2.f1), (Value.slice y2 X.f2.f2.length yc2), (Value.int .i64 X.f3.f0), (Value.int .i64 X.f3.f1), (Value.slice y3 X.f3.f2.length yc3), (Value.int .i64 X.f4.f0), (Value.int .i64 X.f4.f1), (Value.slice y4 X.f4.f2.length yc4), (Value.slice y5 X.f5.length yc5), (Value.int .i64 X.f6.f0), (Value.int .i64 X.f6.f1), (Value.slice y6 X.f6.f2.length yc6), (Value.int .i64 X.f7.f0), (Value.int .i64 X.f7.f1), (Value.slice y7 X.f7.f2.length yc7)].toArray 74 (0, 0))
      have ky := blk_new (wr.alloc (.cells [(Value.slice x0 X.f0.length xc0), (Value.int .i64 X.f1.f0), (Value.int .i64 X.f1.f1), (Value.slice x1 X.f1.f2.length xc1), (Value.int .i64 X.f2.f0), (Value.int .i64 X.f2.f1), (Value.slice x2 X.f2.f2.length xc2), (Value.int .i64 X.f3.f0), (Value.int .i64 X.f3.f1), (Value.slice x3 X.f3.f2.length xc3), (Value.int .i64 X.f4.f0), (Value.int .i64 X.f4.f1), (Value.slice x4 X.f4.f2.length xc4), (Value.slice x5 X.f5.length xc5), (Value.int .i64 X.f6.f0), (Value.int .i64 X.f6.f1), (Value.slice x6 X.f6.f2.length xc6), (Value.int .i64 X.f7.f0), (Value.int .i64 X.f7.f1), (Value.slice x7 X.f7.f2.length xc7)].toArray 74 (0, 0))) (.cells [(Value.slice y0 X.f0.length yc0), (Value.int .i64 X.f1.f0), (Value.int .i64 X.f1.f1), (Value.slice y1 X.f1.f2.length yc1), (Value.int .i64 X.f2.f0), (Value.int .i64 X.f2.f1), (Value.slice y2 X.f2.f2.length yc2), (Value.int .i64 X.f3.f0), (Value.int .i64 X.f3.f1), (Value.slice y3 X.f3.f2.length yc3), (Value.int .i64 X.f4.f0), (Value.int .i64 X.f4.f1), (Value.slice y4 X.f4.f2.length yc4), (Value.slice y5 X.f5.length yc5), (Value.int .i64 X.f6.f0), (Value.int .i64 X.f6.f1), (Value.slice y6 X.f6.f2.length yc6), (Value.int .i64 X.f7.f0), (Value.int .i64 X.f7.f1), (Value.slice y7 X.f7.f2.length yc7)].toArray 74 (0, 0))
      rw [e9] at ky
      have SL9 := Aside0.mk (SL.out.keep ((below_alloc (Below.refl wr.heap.size wr) (.cells [(Value.slice x0 X.f0.length xc0), (Value.int .i64 X.f1.f0), (Value.int .i64 X.f1.f1), (Value.slice x1 X.f1.f2.length xc1), (Value.int .i64 X.f2.f0), (Value.int .i64 X.f2.f1), (Value.slice x2 X.f2.f2.length xc2), (Value.int .i64 X.f3.f0), (Value.int .i64 X.f3.f1), (Value.slice x3 X.f3.f2.length xc3), (Value.int .i64 X.f4.f0), (Value.int .i64 X.f4.f1), (Value.slice x4 X.f4.f2.length xc4), (Value.slice x5 X.f5.length xc5), (Value.int .i64 X.f6.f0), (Value.int .i64 X.f6.f1), (Value.slice x6 X.f6.f2.length xc6), (Value.int .i64 X.f7.f0), (Value.int .i64 X.f7.f1), (Value.slice x7 X.f7.f2.length xc7)].toArray 74 (0, 0))).alloc (by rw [e9]; omega) (.cells [(Value.slice y0 X.f0.length yc0), (Value.int .i64 X.f1.f0), (Value.int .i64 X.f1.f1), (Value.slice y1 X.f1.f2.length yc1), (Value.int .i64 X.f2.f0), (Value.int .i64 X.f2.f1), (Value.slice y2 X.f2.f2.length yc2), (Value.int .i64 X.f3.f0), (Value.int .i64 X.f3.f1), (Value.slice y3 X.f3.f2.length yc3), (Value.int .i64 X.f4.f0), (Value.int .i64 X.f4.f1), (Value.slice y4 X.f4.f2.length yc4), (Value.slice y5 X.f5.length yc5), (Value.int .i64 X.f6.f0), (Value.int .i64 X.f6.f1), (Value.slice y6 X.f6.f2.length yc6), (Value.int .i64 X.f7.f0), (Value.int .i64 X.f7.f1), (Value.slice y7 X.f7.f2.length yc7)].toArray 74 (0, 0))))
      clear z0 z1 z2 e9 hLX hLY
      generalize (wr.alloc (.cells [(Value.slice x0 X.f0.length xc0), (Value.int .i64 X.f1.f0), (Value.int .i64 X.f1.f1), (Value.slice x1 X.f1.f2.length xc1), (Value.int .i64 X.f2.f0), (Value.int .i64 X.f2.f1), (Value.slice x2 X.f2.f2.length xc2), (Value.int .i64 X.f3.f0), (Value.int .i64 X.f3.f1), (Value.slice x3 X.f3.f2.length xc3), (Value.int .i64 X.f4.f0), (Value.int .i64 X.f4.f1), (Value.slice x4 X.f4.f2.length xc4), (Value.slice x5 X.f5.length xc5), (Value.int .i64 X.f6.f0), (Value.int .i64 X.f6.f1), (Value.slice x6 X.f6.f2.length xc6), (Value.int .i64 X.f7.f0), (Value.int .i64 X.f7.f1), (Value.slice x7 X.f7.f2.length xc7)].toArray 74 (0, 0))).alloc (.cells [(Value.slice y0 X.f0.length yc0), (Value.int .i64 X.f1.f0), (Value.int .i64 X.f1.f1), (Value.slice y1 X.f1.f2.length yc1), (Value.int .i64 X.f2.f0), (Value.int .i64 X.f2.f1), (Value.slice y2 X.f2.f2.length yc2), (Value.int .i64 X.f3.f0), (Value.int .i64 X.f3.f1), (Value.slice y3 X.f3.f2.length yc3), (Value.int .i64 X.f4.f0), (Value.int .i64 X.f4.f1), (Value.slice y4 X.f4.f2.length yc4), (Value.slice y5 X.f5.length yc5), (Value.int .i64 X.f6.f0), (Value.int .i64 X.f6.f1), (Value.slice y6 X.f6.f2.length yc6), (Value.int .i64 X.f7.f0), (Value.int .i64 X.f7.f1), (Value.slice y7 X.f7.f2.length yc7)].toArray 74 (0, 0)) = w9 at kx ky SL9 ⊢
      have sn0 : SB w9 wr.heap.size (wr.heap.size + 1) [(Value.slice x0 X.f0.length xc0), (Value.int .i64 X.f1.f0), (Value.int .i64 X.f1.f1), (Value.slice x1 X.f1.f2.length xc1), (Value.int .i64 X.f2.f0), (Value.int .i64 X.f2.f1), (Value.slice x2 X.f2.f2.length xc2), (Value.int .i64 X.f3.f0), (Value.int .i64 X.f3.f1), (Value.slice x3 X.f3.f2.length xc3), (Value.int .i64 X.f4.f0), (Value.int .i64 X.f4.f1), (Value.slice x4 X.f4.f2.length xc4), (Value.slice x5 X.f5.length xc5), (Value.int .i64 X.f6.f0), (Value.int .i64 X.f6.f1), (Value.slice x6 X.f6.f2.length xc6), (Value.int .i64 X.f7.f0), (Value.int .i64 X.f7.f1), (Value.slice x7 X.f7.f2.length xc7)] [(Value.slice y0 X.f0.length yc0), (Value.int .i64 X.f1.f0), (Value.int .i64 X.f1.f1), (Value.slice y1 X.f1.f2.length yc1), (Value.int .i64 X.f2.f0), (Value.int .i64 X.f2.f1), (Value.slice y2 X.f2.f2.length yc2), (Value.int .i64 X.f3.f0), (Value.int .i64 X.f3.f1), (Value.slice y3 X.f3.f2.length yc3), (Value.int .i64 X.f4.f0), (Value.int .i64 X.f4.f1), (Value.slice y4 X.f4.f2.length yc4), (Value.slice y5 X.f5.length yc5), (Value.int .i64 X.f6.f0), (Value.int .i64 X.f6.f1), (Value.slice y6 X.f6.f2.length yc6), (Value.int .i64 X.f7.f0), (Value.int .i64 X.f7.f1), (Value.slice y7 X.f7.f2.length yc7)] w9 := SB.mk' kx ky (Below.refl _ _)
      have sn1 := sn0.keep (Below.refl _ _).drew
      clear kx ky
      have EQ0 := Aside0.mk (same4_true 200000 1 (X.f0.length : Int) X.f0 (NX.out.1) (by have := NX.out.1; omega))
      have EQ1 := Aside0.mk (same4_true 200000 X.f1.f0 X.f1.f1 X.f1.f2 (NX.out.2.1) (by have := NX.out.2.1; omega))
      have EQ2 := Aside0.mk (same4_true 200000 X.f2.f0 X.f2.f1 X.f2.f2 (NX.out.2.2.1) (by have := NX.out.2.2.1; omega))
      have EQ3 := Aside0.mk (same4_true 200000 X.f3.f0 X.f3.f1 X.f3.f2 (NX.out.2.2.2.1) (by have := NX.out.2.2.2.1; omega))
      have EQ4 := Aside0.mk (same4_true 200000 X.f4.f0 X.f4.f1 X.f4.f2 (NX.out.2.2.2.2.1) (by have := NX.out.2.2.2.2.1; omega))
      have EQ5 := Aside0.mk (same4_true 200000 1 (X.f5.length : Int) X.f5 (NX.out.2.2.2.2.2.1) (by have := NX.out.2.2.2.2.2.1; omega))
      have EQ6 := Aside0.mk (same4_true 200000 X.f6.f0 X.f6.f1 X.f6.f2 (NX.out.2.2.2.2.2.2.1) (by have := NX.out.2.2.2.2.2.2.1; omega))
      have EQ7 := Aside0.mk (same4_true 200000 X.f7.f0 X.f7.f1 X.f7.f2 (NX.out.2.2.2.2.2.2.2) (by have := NX.out.2.2.2.2.2.2.2; omega))
      simp only [List.append]
      go_region_held3 (SB w9 wr.heap.size (wr.heap.size + 1) [(Value.slice x0 X.f0.length xc0), (Value.int .i64 X.f1.f0), (Value.int .i64 X.f1.f1), (Value.slice x1 X.f1.f2.length xc1), (Value.int .i64 X.f2.f0), (Value.int .i64 X.f2.f1), (Value.slice x2 X.f2.f2.length xc2), (Value.int .i64 X.f3.f0), (Value.int .i64 X.f3.f1), (Value.slice x3 X.f3.f2.length xc3), (Value.int .i64 X.f4.f0), (Value.int .i64 X.f4.f1), (Value.slice x4 X.f4.f2.length xc4), (Value.slice x5 X.f5.length xc5), (Value.int .i64 X.f6.f0), (Value.int .i64 X.f6.f1), (Value.slice x6 X.f6.f2.length xc6), (Value.int .i64 X.f7.f0), (Value.int .i64 X.f7.f1), (Value.slice x7 X.f7.f2.length xc7)] [(Value.slice y0 X.f0.length yc0), (Value.int .i64 X.f1.f0), (Value.int .i64 X.f1.f1), (Value.slice y1 X.f1.f2.length yc1), (Value.int .i64 X.f2.f0), (Value.int .i64 X.f2.f1), (Value.slice y2 X.f2.f2.length yc2), (Value.int .i64 X.f3.f0), (Value.int .i64 X.f3.f1), (Value.slice y3 X.f3.f2.length yc3), (Value.int .i64 X.f4.f0), (Value.int .i64 X.f4.f1), (Value.slice y4 X.f4.f2.length yc4), (Value.slice y5 X.f5.length yc5), (Value.int .i64 X.f6.f0), (Value.int .i64 X.f6.f1), (Value.slice y6 X.f6.f2.length yc6), (Value.int .i64 X.f7.f0), (Value.int .i64 X.f7.f1), (Value.slice y7 X.f7.f2.length yc7)])
        (first | exact sn | exact sn1 | exact sn0)
        (first
        | (go_at_call 28; (with_reducible refine (tillerref04_Same.calls 200000 1 (X.f0.length : Int) x0 xc0 X.f0 1 (X.f0.length : Int) y0 yc0 X.f0 true _ (SB.C GX0.out.1 SL9.out.bel (by assumption)) GX0.out.2 (SB.C GY0.out.1 SL9.out.bel (by assumption)) GY0.out.2 EQ0.out).mono ?_); rintro e wc ⟨rfl, hbc⟩; have sn := SB.keep (by assumption) hbc; clear hbc)
        | (go_at_call 28; (with_reducible refine (tillerref04_Same.calls 200000 X.f1.f0 X.f1.f1 x1 xc1 X.f1.f2 X.f1.f0 X.f1.f1 y1 yc1 X.f1.f2 true _ (SB.C GX1.out.1 SL9.out.bel (by assumption)) GX1.out.2 (SB.C GY1.out.1 SL9.out.bel (by assumption)) GY1.out.2 EQ1.out).mono ?_); rintro e wc ⟨rfl, hbc⟩; have sn := SB.keep (by assumption) hbc; clear hbc)
        | (go_at_call 28; (with_reducible refine (tillerref04_Same.calls 200000 X.f2.f0 X.f2.f1 x2 xc2 X.f2.f2 X.f2.f0 X.f2.f1 y2 yc2 X.f2.f2 true _ (SB.C GX2.out.1 SL9.out.bel (by assumption)) GX2.out.2 (SB.C GY2.out.1 SL9.out.bel (by assumption)) GY2.out.2 EQ2.out).mono ?_); rintro e wc ⟨rfl, hbc⟩; have sn := SB.keep (by assumption) hbc; clear hbc)
        | (go_at_call 28; (with_reducible refine (tillerref04_Same.calls 200000 X.f3.f0 X.f3.f1 x3 xc3 X.f3.f2 X.f3.f0 X.f3.f1 y3 yc3 X.f3.f2 true _ (SB.C GX3.out.1 SL9.out.bel (by assumption)) GX3.out.2 (SB.C GY3.out.1 SL9.out.bel (by assumption)) GY3.out.2 EQ3.out).mono ?_); rintro e wc ⟨rfl, hbc⟩; have sn := SB.keep (by assumption) hbc; clear hbc)
        | (go_at_call 28; (with_reducible refine (tillerref04_Same.calls 200000 X.f4.f0 X.f4.f1 x4 xc4 X.f4.f2 X.f4.f0 X.f4.f1 y4 yc4 X.f4.f2 true _ (SB.C GX4.out.1 SL9.out.bel (by assumption)) GX4.out.2 (SB.C GY4.out.1 SL9.out.bel (by assumption)) GY4.out.2 EQ4.out).mono ?_); rintro e wc ⟨rfl, hbc⟩; have sn := SB.keep (by assumption) hbc; clear hbc)
        | (go_at_call 28; (with_reducible refine (tillerref04_Same.calls 200000 1 (X.f5.length : Int) x5 xc5 X.f5 1 (X.f5.length : Int) y5 yc5 X.f5 true _ (SB.C GX5.out.1 SL9.out.bel (by assumption)) GX5.out.2 (SB.C GY5.out.1 SL9.out.bel (by assumption)) GY5.out.2 EQ5.out).mono ?_); rintro e wc ⟨rfl, hbc⟩; have sn := SB.keep (by assumption) hbc; clear hbc)
        | (go_at_call 28; (with_reducible refine (tillerref04_Same.calls 200000 X.f6.f0 X.f6.f1 x6 xc6 X.f6.f2 X.f6.f0 X.f6.f1 y6 yc6 X.f6.f2 true _ (SB.C GX6.out.1 SL9.out.bel (by assumption)) GX6.out.2 (SB.C GY6.out.1 SL9.out.bel (by assumption)) GY6.out.2 EQ6.out).mono ?_); rintro e wc ⟨rfl, hbc⟩; have sn := SB.keep (by assumption) hbc; clear hbc)
        | (go_at_call 28; (with_reducible refine (tillerref04_Same.calls 200000 X.f7.f0 X.f7.f1 x7 xc7 X.f7.f2 X.f7.f0 X.f7.f1 y7 yc7 X.f7.f2 true _ (SB.C GX7.out.1 SL9.out.bel (by assumption)) GX7.out.2 (SB.C GY7.out.1 SL9.out.bel (by assumption)) GY7.out.2 EQ7.out).mono ?_); rintro e wc ⟨rfl, hbc⟩; have sn := SB.keep (by assumption) hbc; clear hbc)
        | (go_at_call 29; refine (wide_calls _ _ _ _).mono ?_; rintro e wc ⟨rfl, hbc⟩; have sn := SB.keep (by assumption) hbc; clear hbc))
      all_goals (
        have SL5 := Aside0.mk (SL9.out.keep (SB.bel sn))
        clear sn sn0 sn1
        go_wp2
        go_roundg q
        case measure => omega
        case rel => exact ⟨i + 1, by go_num, ⟨by have := HI.out; omega⟩, SL5⟩)
    | zero =>
      have b1 : decide (i < l3.length) = false := decide_eq_false (by omega)
      clear hi hm
      go_wp2
      go_ret
      exact ⟨rfl, SL.out.bel⟩
open Classical in
/-- Same, told of models that are alike alone. -/
noncomputable def tillerref06_Same.f (k : Nat) (a0_0 a0_1 : Int) (l0_2 : List Int) (l0_3 : List BR) (l0_4 : List Int) (a0_5 a0_6 : Int) (l0_7 : List Int) (a1_0 a1_1 : Int) (l1_2 : List Int) (l1_3 : List BR) (l1_4 : List Int) (a1_5 a1_6 : Int) (l1_7 : List Int) : Option Bool :=
  if (a0_0 = a1_0 ∧ a0_1 = a1_1 ∧ l0_2 = l1_2 ∧ l0_3 = l1_3 ∧ l0_4 = l1_4 ∧ a0_5 = a1_5 ∧ a0_6 = a1_6 ∧ l0_7 = l1_7) ∧ (∀ b ∈ l0_3, b.f0.length ≤ 100000 ∧ b.f1.f2.length ≤ 100000 ∧ b.f2.f2.length ≤ 100000 ∧ b.f3.f2.length ≤ 100000 ∧ b.f4.f2.length ≤ 100000 ∧ b.f5.length ≤ 100000 ∧ b.f6.f2.length ≤ 100000 ∧ b.f7.f2.length ≤ 100000) ∧ l0_3.length ≤ 1000 ∧ l0_2.length ≤ 100000 ∧ l0_4.length ≤ 100000 ∧ l0_7.length ≤ 100000 then some true else none
theorem tillerref06_Same.mono (a0_0 a0_1 : Int) (l0_2 : List Int) (l0_3 : List BR) (l0_4 : List Int) (a0_5 a0_6 : Int) (l0_7 : List Int) (a1_0 a1_1 : Int) (l1_2 : List Int) (l1_3 : List BR) (l1_4 : List Int) (a1_5 a1_6 : Int) (l1_7 : List Int) (k : Nat) : LeO (tillerref06_Same.f k a0_0 a0_1 l0_2 l0_3 l0_4 a0_5 a0_6 l0_7 a1_0 a1_1 l1_2 l1_3 l1_4 a1_5 a1_6 l1_7) (tillerref06_Same.f (k + 1) a0_0 a0_1 l0_2 l0_3 l0_4 a0_5 a0_6 l0_7 a1_0 a1_1 l1_2 l1_3 l1_4 a1_5 a1_6 l1_7) := LeO.refl _
theorem tillerref06_Same.calls (k : Nat) (a0_0 a0_1 : Int) (A0_2 : Option Addr) (c0_2 : Nat) (l0_2 : List Int) (A0_3 : Option Addr) (c0_3 : Nat) (l0_3 : List BR) (A0_4 : Option Addr) (c0_4 : Nat) (l0_4 : List Int) (a0_5 a0_6 : Int) (A0_7 : Option Addr) (c0_7 : Nat) (l0_7 : List Int) (a1_0 a1_1 : Int) (A1_2 : Option Addr) (c1_2 : Nat) (l1_2 : List Int) (A1_3 : Option Addr) (c1_3 : Nat) (l1_3 : List BR) (A1_4 : Option Addr) (c1_4 : Nat) (l1_4 : List Int) (a1_5 a1_6 : Int) (A1_7 : Option Addr) (c1_7 : Nat) (l1_7 : List Int) (r : Bool) (w : World)
    (hr0_2 : Kd.C (Kd.int .i32) w A0_2 l0_2.length l0_2) (hc0_2 : l0_2.length ≤ c0_2) (hr0_3 : Kd.C kR w A0_3 l0_3.length l0_3) (hc0_3 : l0_3.length ≤ c0_3) (hr0_4 : Kd.C (Kd.int .i32) w A0_4 l0_4.length l0_4) (hc0_4 : l0_4.length ≤ c0_4) (hr0_7 : Kd.C (Kd.int .i32) w A0_7 l0_7.length l0_7) (hc0_7 : l0_7.length ≤ c0_7) (hr1_2 : Kd.C (Kd.int .i32) w A1_2 l1_2.length l1_2) (hc1_2 : l1_2.length ≤ c1_2) (hr1_3 : Kd.C kR w A1_3 l1_3.length l1_3) (hc1_3 : l1_3.length ≤ c1_3) (hr1_4 : Kd.C (Kd.int .i32) w A1_4 l1_4.length l1_4) (hc1_4 : l1_4.length ≤ c1_4) (hr1_7 : Kd.C (Kd.int .i32) w A1_7 l1_7.length l1_7) (hc1_7 : l1_7.length ≤ c1_7)
    (h : tillerref06_Same.f k a0_0 a0_1 l0_2 l0_3 l0_4 a0_5 a0_6 l0_7 a1_0 a1_1 l1_2 l1_3 l1_4 a1_5 a1_6 l1_7 = some r) :
    Calls Try.prog 11 #[.agg #[.int .i64 a0_0, .int .i64 a0_1, .slice A0_2 l0_2.length c0_2, .slice A0_3 l0_3.length c0_3, .slice A0_4 l0_4.length c0_4, .int .i64 a0_5, .int .i64 a0_6, .slice A0_7 l0_7.length c0_7], .agg #[.int .i64 a1_0, .int .i64 a1_1, .slice A1_2 l1_2.length c1_2, .slice A1_3 l1_3.length c1_3, .slice A1_4 l1_4.length c1_4, .int .i64 a1_5, .int .i64 a1_6, .slice A1_7 l1_7.length c1_7]] w fun e w' => e = .returned (.bool r) ∧ Below w.heap.size w w' := by
  unfold tillerref06_Same.f at h
  split at h
  · rename_i e
    obtain ⟨⟨rfl, rfl, rfl, rfl, rfl, rfl, rfl, rfl⟩, n3, m3, n2, n4, n7⟩ := e
    obtain rfl := Option.some.inj h
    exact same_calls _ _ _ _ _ _ _ _ _ _ _ _ _ _ _ _ _ _ _ _ _ _ _ _ _ ⟨hr0_2, hc0_2⟩ ⟨hr0_3, hc0_3⟩ ⟨hr0_4, hc0_4⟩ ⟨hr0_7, hc0_7⟩ ⟨hr1_2, hc1_2⟩ ⟨hr1_3, hc1_3⟩ ⟨hr1_4, hc1_4⟩ ⟨hr1_7, hc1_7⟩ n3 m3 n2 n4 n7
  · cases h
end Go.Proofs.Ytdlhodbokkaghaa.GQ
