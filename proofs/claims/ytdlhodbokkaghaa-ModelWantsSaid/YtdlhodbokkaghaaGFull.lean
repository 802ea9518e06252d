/- tillerlaw06.full, walked by hand. -/
import Derived.Test.YtdlhodbokkaghaaGSame
import Derived.Test.YtdlhodbokkaghaaWN
import Derived.Test.YtdlhodbokkaghaaWNEv
import Derived.Test.YtdlhodbokkaghaaWFoot
set_option linter.unusedVariables false
set_option linter.unusedSimpArgs false
namespace Go.Proofs.Ytdlhodbokkaghaa.GQ
open Go.RowKit Go.Proofs.YtdlhodbokkaghaaW.PrintWords Go.Proofs.YtdlhodbokkaghaaW.PrintLast Go.Proofs.YtdlhodbokkaghaaW.PrintMore Go.Proofs.Ytdlhodbokkaghaa.U
/-- A block as the document's. -/
def cvR (b : BK) : BR := ⟨b.f0, b.f1, b.f2, b.f3, b.f4, b.f5, b.f6, b.f7⟩
theorem elem_atB {w : World} {A : Option Addr} {xs : List BK} (h : Kd.C kB w A xs.length xs) (i : Nat) (hi : i < xs.length) : ∃ ad cs, A = some ad ∧ kB.K w (rd_T37 xs (i : Int)) cs ∧ ∀ j u, cs[j]? = some u → w.cell? ((ad.add (i * 20)).add j) = some u := by
  obtain ⟨ad, cs, e, _, hK, hc0⟩ := Kd.C_get h z37 (i : Int) (by omega) (by omega)
  exact ⟨ad, cs, e, hK, fun j u hj => by have h1 := hc0 j u hj; rw [Int.toNat_natCast] at h1; rw [add_add]; exact h1⟩
/-- The walk's boxes: what came, the result, the numbers under way; and the new row. -/
structure Fd (w W : World) (cin cout : Array Value) (vB : Value) (xs : List BR) : Prop where
  a : W.heap[w.heap.size]? = some (.cells cin 30 (0, 0))
  r : W.heap[w.heap.size + 1]? = some (.cells Z30 41 (0, 0))
  o : W.heap[w.heap.size + 2]? = some (.cells cout 41 (0, 0))
  n : Kd.N kR 74 W w.heap.size (fun k => k ≠ w.heap.size + 2 ∧ k ≠ w.heap.size + 1) vB xs
  bel : Below w.heap.size w W
theorem Fd.step {w W W' : World} {cin cout : Array Value} {vB : Value} {xs : List BR} (h : Fd w W cin cout vB xs) (hb : Below W.heap.size W W') : Fd w W' cin cout vB xs :=
  ⟨blk_below h.a hb, blk_below h.r hb, blk_below h.o hb, Kd.N_below h.n hb, h.bel.trans (hb.mono h.bel.size)⟩
theorem Fd.lt {w W : World} {cin cout : Array Value} {vB : Value} {xs : List BR} (h : Fd w W cin cout vB xs) : w.heap.size + 2 < W.heap.size := blk_lt h.o
theorem Fd.grown {w W W' : World} {cin cout : Array Value} {vB v' : Value} {xs xs' : List BR} (h : Fd w W cin cout vB xs) (hn : Kd.N kR 74 W' w.heap.size (fun k => k ≠ w.heap.size + 2 ∧ k ≠ w.heap.size + 1) v' xs') (hb : Below w.heap.size w W') (hg : W.grownBy W' vB.ownBlock) : Fd w W' cin cout v' xs' :=
  ⟨blk_grown h.a hg (Kd.N_ne h.n h.a (by decide)), blk_grown h.r hg (Kd.N_ne h.n h.r (by decide)), blk_grown h.o hg (Kd.N_ne h.n h.o (by decide)), hn, hb⟩
theorem Fd.put {w W : World} {cin cout : Array Value} {vB : Value} {xs : List BR} (h : Fd w W cin cout vB xs) (j : Nat) (u : Value) : Fd w (W.setCell ⟨w.heap.size + 2, j, none⟩ u) cin (cout.setIfInBounds j u) vB xs :=
  ⟨blk_far (p := ⟨w.heap.size + 2, j, none⟩) h.a (show w.heap.size ≠ w.heap.size + 2 by omega) u, blk_far (p := ⟨w.heap.size + 2, j, none⟩) h.r (show w.heap.size + 1 ≠ w.heap.size + 2 by omega) u, blk_set h.o j u, Kd.N_far (p := ⟨w.heap.size + 2, j, none⟩) h.n (fun k hk => hk.1) u, h.bel.setCell (p := ⟨w.heap.size + 2, j, none⟩) (show w.heap.size ≤ w.heap.size + 2 by omega) u⟩
theorem blk_put8' {W : World} {g : Nat} (hb : W.heap[g]? = some (.cells Z30 41 (0, 0))) (u0 u1 u2 u3 u4 u5 u6 u7 : Value) : (put8 W g u0 u1 u2 u3 u4 u5 u6 u7).heap[g]? = some (.cells #[u0, u1, u2, u3, u4, u5, u6, u7] 41 (0, 0)) := by
  have h := blk_set (blk_set (blk_set (blk_set (blk_set (blk_set (blk_set (blk_set hb 0 u0) 1 u1) 2 u2) 3 u3) 4 u4) 5 u5) 6 u6) 7 u7
  simpa [Z30, put8] using h
theorem cells8 {W : World} {g t : Nat} {v0 v1 v2 v3 v4 v5 v6 v7 : Value} (h : W.heap[g]? = some (.cells #[v0, v1, v2, v3, v4, v5, v6, v7] t (0, 0))) : W.cell? ⟨g, 0, none⟩ = some v0 ∧ W.cell? ⟨g, 1, none⟩ = some v1 ∧ W.cell? ⟨g, 2, none⟩ = some v2 ∧ W.cell? ⟨g, 3, none⟩ = some v3 ∧ W.cell? ⟨g, 4, none⟩ = some v4 ∧ W.cell? ⟨g, 5, none⟩ = some v5 ∧ W.cell? ⟨g, 6, none⟩ = some v6 ∧ W.cell? ⟨g, 7, none⟩ = some v7 :=
  ⟨blk_cell h 0, blk_cell h 1, blk_cell h 2, blk_cell h 3, blk_cell h 4, blk_cell h 5, blk_cell h 6, blk_cell h 7⟩
theorem N_put8 {w W : World} {vB : Value} {xs : List BR} (h : Kd.N kR 74 W w.heap.size (fun k => k ≠ w.heap.size + 2 ∧ k ≠ w.heap.size + 1) vB xs) (u0 u1 u2 u3 u4 u5 u6 u7 : Value) : Kd.N kR 74 (put8 W (w.heap.size + 1) u0 u1 u2 u3 u4 u5 u6 u7) w.heap.size (fun k => k ≠ w.heap.size + 2 ∧ k ≠ w.heap.size + 1) vB xs :=
  have f := fun (W' : World) (h' : Kd.N kR 74 W' w.heap.size (fun k => k ≠ w.heap.size + 2 ∧ k ≠ w.heap.size + 1) vB xs) (j : Nat) (u : Value) => Kd.N_far (p := ⟨w.heap.size + 1, j, none⟩) h' (fun k hk => hk.2) u
  f _ (f _ (f _ (f _ (f _ (f _ (f _ (f _ h 0 u0) 1 u1) 2 u2) 3 u3) 4 u4) 5 u5) 6 u6) 7 u7
theorem Fd.start {w : World} (cin cout : Array Value) : Fd w (((w.alloc (.cells cin 30 (0, 0))).alloc (.cells Z30 41 (0, 0))).alloc (.cells cout 41 (0, 0))) cin cout (.slice none 0 0) [] := by
  have e1 : (w.alloc (.cells cin 30 (0, 0))).heap.size = w.heap.size + 1 := World.size_alloc _ _
  have e2 : ((w.alloc (.cells cin 30 (0, 0))).alloc (.cells Z30 41 (0, 0))).heap.size = w.heap.size + 2 := by rw [World.size_alloc, e1]
  have h1 := blk_new (w.alloc (.cells cin 30 (0, 0))) (.cells Z30 41 (0, 0))
  have h2 := blk_new ((w.alloc (.cells cin 30 (0, 0))).alloc (.cells Z30 41 (0, 0))) (.cells cout 41 (0, 0))
  rw [e1] at h1
  rw [e2] at h2
  exact ⟨blk_alloc (blk_alloc (blk_new _ _) _) _, blk_alloc h1 _, h2, Kd.N_nil _ _ _ _ _, ((below_alloc (Below.refl _ _) _).alloc (by rw [e1]; omega) _).alloc (by rw [e2]; omega) _⟩
set_option maxHeartbeats 16000000 in
set_option maxRecDepth 100000 in
theorem full_calls (r c : Int) (l2 : List Int) (l3 : List BK) (l4 : List Int) (r' c' : Int) (l7 : List Int) (A2 : Option Addr) (c2 : Nat) (A3 : Option Addr) (c3 : Nat) (A4 : Option Addr) (c4 : Nat) (A7 : Option Addr) (c7 : Nat) (w : World) (ha3 : Kd.C kB w A3 l3.length l3) (m3 : l3.length ≤ 1000) :
    Calls Try.prog 12 #[.agg #[.int .i64 r, .int .i64 c, .slice A2 l2.length c2, .slice A3 l3.length c3, .slice A4 l4.length c4, .int .i64 r', .int .i64 c', .slice A7 l7.length c7]] w fun e w' => ∃ A c9, e = .returned (.agg #[.int .i64 r, .int .i64 c, .slice A2 l2.length c2, (.slice A l3.length c9), .slice A4 l4.length c4, .int .i64 r', .int .i64 c', .slice A7 l7.length c7]) ∧ Kd.C kR w' A l3.length (l3.map cvR) ∧ l3.length ≤ c9 ∧ Below w.heap.size w w' := by
  have HA3 := Aside0.mk ha3
  have M3 := Aside0.mk m3
  have F0 := Aside0.mk (Fd.start (w := w) #[.int .i64 r, .int .i64 c, .slice A2 l2.length c2, .slice A3 l3.length c3, .slice A4 l4.length c4, .int .i64 r', .int .i64 c', .slice A7 l7.length c7] #[.int .i64 r, .int .i64 c, .slice A2 l2.length c2, .slice none 0 0, .slice A4 l4.length c4, .int .i64 r', .int .i64 c', .slice A7 l7.length c7])
  clear ha3 m3
  go_enter Try.func12, Try.ntmps12
  go_wp2
  go_loopg [16] l3.length (fun kq v16 w' => ∃ (i : Nat) (vB : Value), v16 = .int .i64 (i : Int) ∧ Aside0 (i + kq = l3.length) ∧ Aside0 (Fd w w' #[.int .i64 r, .int .i64 c, .slice A2 l2.length c2, .slice A3 l3.length c3, .slice A4 l4.length c4, .int .i64 r', .int .i64 c', .slice A7 l7.length c7] #[.int .i64 r, .int .i64 c, .slice A2 l2.length c2, vB, .slice A4 l4.length c4, .int .i64 r', .int .i64 c', .slice A7 l7.length c7] vB ((l3.take i).map cvR)))
  case atStart => exact ⟨0, .slice none 0 0, rfl, ⟨Nat.zero_add _⟩, F0⟩
  case round =>
    clear F0
    obtain ⟨i, vB, rfl, HI, HF⟩ := hrel
    have hi := HI.out
    have hm := M3.out
    obtain ⟨AB, cB, rfl⟩ := Kd.N_slice HF.out.n
    cases gk with
    | succ q =>
      have b1 : decide (i < l3.length) = true := decide_eq_true (by omega)
      have p1 : 0 ≤ (i : Int) := by omega
      have q1 : (i : Int) < (l3.length : Int) := by omega
      have i2 : (i : Int) + 1 ≤ 1000 := by omega
      obtain ⟨ax, csx, e1, hKx, hcx⟩ := elem_atB HA3.out i (by omega)
      subst e1
      have HX := Aside0.mk (show (l3.take (i + 1)).map cvR = (l3.take i).map cvR ++ [cvR (rd_T37 l3 (i : Int))] by rw [List.take_succ_eq_append_getElem (by omega), List.map_append]; unfold rd_T37; rw [Int.toNat_natCast, List.getD_eq_getElem?_getD, List.getElem?_eq_getElem (by omega)]; rfl)
      have HLn := Aside0.mk (show ((l3.take i).map cvR).length ≤ 1000 by rw [List.length_map, List.length_take]; omega)
      obtain ⟨X, hX⟩ : ∃ X, rd_T37 l3 (i : Int) = X := ⟨_, rfl⟩
      rw [hX] at hKx HX
      obtain ⟨XS, hXS⟩ : ∃ XS, (l3.take i).map cvR = XS := ⟨_, rfl⟩
      rw [hXS] at HF HX HLn
      obtain ⟨x0, c_0, x1, c_1, x2, c_2, x3, c_3, x4, c_4, x5, c_5, x6, c_6, x7, c_7, rfl, l_0, g_0, l_1, g_1, l_2, g_2, l_3, g_3, l_4, g_4, l_5, g_5, l_6, g_6, l_7, g_7⟩ := k37_open hKx
      have CX := Aside0.mk (fun j u hj => (HF.out.bel.cell (World.block_lt_of_cell? w _ (hcx j u hj))).trans (hcx j u hj))
      have FX := Aside0.mk (show Kd.FK kR wr (fun k => k < w.heap.size) (cvR X) [(Value.slice x0 X.f0.length c_0), (Value.int .i64 X.f1.f0), (Value.int .i64 X.f1.f1), (Value.slice x1 X.f1.f2.length c_1), (Value.int .i64 X.f2.f0), (Value.int .i64 X.f2.f1), (Value.slice x2 X.f2.f2.length c_2), (Value.int .i64 X.f3.f0), (Value.int .i64 X.f3.f1), (Value.slice x3 X.f3.f2.length c_3), (Value.int .i64 X.f4.f0), (Value.int .i64 X.f4.f1), (Value.slice x4 X.f4.f2.length c_4), (Value.slice x5 X.f5.length c_5), (Value.int .i64 X.f6.f0), (Value.int .i64 X.f6.f1), (Value.slice x6 X.f6.f2.length c_6), (Value.int .i64 X.f7.f0), (Value.int .i64 X.f7.f1), (Value.slice x7 X.f7.f2.length c_7)] from fun W2 hW => k74_mkF w (fun k => k < w.heap.size) (cvR X) l_0 (Kd.C_F (Kd.heap_int _) g_0) l_1 (Kd.C_F (Kd.heap_int _) g_1) l_2 (Kd.C_F (Kd.heap_int _) g_2) l_3 (Kd.C_F (Kd.heap_int _) g_3) l_4 (Kd.C_F (Kd.heap_int _) g_4) l_5 (Kd.C_F (Kd.heap_int _) g_5) l_6 (Kd.C_F (Kd.heap_int _) g_6) l_7 (Kd.C_F (Kd.heap_int _) g_7) W2 (fun k hk hlt => by
        have := HF.out.bel.block k hlt
        have hs := HF.out.bel.size
        rw [hW k hk (by omega), this]))
      have LT := Aside0.mk HF.out.lt
      clear hX hXS hKx hcx hi hm l_0 g_0 l_1 g_1 l_2 g_2 l_3 g_3 l_4 g_4 l_5 g_5 l_6 g_6 l_7 g_7
      go_wp2_with (first
        | ((with_reducible refine gate_dst (N := 19) rfl ?_); go_loud (refine load_any_event [(Value.slice x0 X.f0.length c_0), (Value.int .i64 X.f1.f0), (Value.int .i64 X.f1.f1), (Value.slice x1 X.f1.f2.length c_1), (Value.int .i64 X.f2.f0), (Value.int .i64 X.f2.f1), (Value.slice x2 X.f2.f2.length c_2), (Value.int .i64 X.f3.f0), (Value.int .i64 X.f3.f1), (Value.slice x3 X.f3.f2.length c_3), (Value.int .i64 X.f4.f0), (Value.int .i64 X.f4.f1), (Value.slice x4 X.f4.f2.length c_4), (Value.slice x5 X.f5.length c_5), (Value.int .i64 X.f6.f0), (Value.int .i64 X.f6.f1), (Value.slice x6 X.f6.f2.length c_6), (Value.int .i64 X.f7.f0), (Value.int .i64 X.f7.f1), (Value.slice x7 X.f7.f2.length c_7)] rfl rfl rfl rfl CX.out Try.underlying37 rfl (by kernel_rfl) ?_))
        | ((with_reducible refine gate_store (t := 37) (p := 5) rfl ?_); go_loud (refine store_new_event [(Value.slice x0 X.f0.length c_0), (Value.int .i64 X.f1.f0), (Value.int .i64 X.f1.f1), (Value.slice x1 X.f1.f2.length c_1), (Value.int .i64 X.f2.f0), (Value.int .i64 X.f2.f1), (Value.slice x2 X.f2.f2.length c_2), (Value.int .i64 X.f3.f0), (Value.int .i64 X.f3.f1), (Value.slice x3 X.f3.f2.length c_3), (Value.int .i64 X.f4.f0), (Value.int .i64 X.f4.f1), (Value.slice x4 X.f4.f2.length c_4), (Value.slice x5 X.f5.length c_5), (Value.int .i64 X.f6.f0), (Value.int .i64 X.f6.f1), (Value.slice x6 X.f6.f2.length c_6), (Value.int .i64 X.f7.f0), (Value.int .i64 X.f7.f1), (Value.slice x7 X.f7.f2.length c_7)].toArray rfl rfl rfl rfl rfl (by kernel_rfl) rfl (by simp [Value.oneCell']) ?_); have HF5 := Aside0.mk (HF.out.step (below_alloc (Below.refl wr.heap.size wr) (.cells [(Value.slice x0 X.f0.length c_0), (Value.int .i64 X.f1.f0), (Value.int .i64 X.f1.f1), (Value.slice x1 X.f1.f2.length c_1), (Value.int .i64 X.f2.f0), (Value.int .i64 X.f2.f1), (Value.slice x2 X.f2.f2.length c_2), (Value.int .i64 X.f3.f0), (Value.int .i64 X.f3.f1), (Value.slice x3 X.f3.f2.length c_3), (Value.int .i64 X.f4.f0), (Value.int .i64 X.f4.f1), (Value.slice x4 X.f4.f2.length c_4), (Value.slice x5 X.f5.length c_5), (Value.int .i64 X.f6.f0), (Value.int .i64 X.f6.f1), (Value.slice x6 X.f6.f2.length c_6), (Value.int .i64 X.f7.f0), (Value.int .i64 X.f7.f1), (Value.slice x7 X.f7.f2.length c_7)].toArray 37 (0, 0)))); have FX5 := Aside0.mk (Kd.FK_below FX.out (below_alloc (Below.refl wr.heap.size wr) (.cells [(Value.slice x0 X.f0.length c_0), (Value.int .i64 X.f1.f0), (Value.int .i64 X.f1.f1), (Value.slice x1 X.f1.f2.length c_1), (Value.int .i64 X.f2.f0), (Value.int .i64 X.f2.f1), (Value.slice x2 X.f2.f2.length c_2), (Value.int .i64 X.f3.f0), (Value.int .i64 X.f3.f1), (Value.slice x3 X.f3.f2.length c_3), (Value.int .i64 X.f4.f0), (Value.int .i64 X.f4.f1), (Value.slice x4 X.f4.f2.length c_4), (Value.slice x5 X.f5.length c_5), (Value.int .i64 X.f6.f0), (Value.int .i64 X.f6.f1), (Value.slice x6 X.f6.f2.length c_6), (Value.int .i64 X.f7.f0), (Value.int .i64 X.f7.f1), (Value.slice x7 X.f7.f2.length c_7)].toArray 37 (0, 0)))); have KB5 := blk_new wr (.cells [(Value.slice x0 X.f0.length c_0), (Value.int .i64 X.f1.f0), (Value.int .i64 X.f1.f1), (Value.slice x1 X.f1.f2.length c_1), (Value.int .i64 X.f2.f0), (Value.int .i64 X.f2.f1), (Value.slice x2 X.f2.f2.length c_2), (Value.int .i64 X.f3.f0), (Value.int .i64 X.f3.f1), (Value.slice x3 X.f3.f2.length c_3), (Value.int .i64 X.f4.f0), (Value.int .i64 X.f4.f1), (Value.slice x4 X.f4.f2.length c_4), (Value.slice x5 X.f5.length c_5), (Value.int .i64 X.f6.f0), (Value.int .i64 X.f6.f1), (Value.slice x6 X.f6.f2.length c_6), (Value.int .i64 X.f7.f0), (Value.int .i64 X.f7.f1), (Value.slice x7 X.f7.f2.length c_7)].toArray 37 (0, 0)); have SZ5 := Aside0.mk (World.size_alloc wr (.cells [(Value.slice x0 X.f0.length c_0), (Value.int .i64 X.f1.f0), (Value.int .i64 X.f1.f1), (Value.slice x1 X.f1.f2.length c_1), (Value.int .i64 X.f2.f0), (Value.int .i64 X.f2.f1), (Value.slice x2 X.f2.f2.length c_2), (Value.int .i64 X.f3.f0), (Value.int .i64 X.f3.f1), (Value.slice x3 X.f3.f2.length c_3), (Value.int .i64 X.f4.f0), (Value.int .i64 X.f4.f1), (Value.slice x4 X.f4.f2.length c_4), (Value.slice x5 X.f5.length c_5), (Value.int .i64 X.f6.f0), (Value.int .i64 X.f6.f1), (Value.slice x6 X.f6.f2.length c_6), (Value.int .i64 X.f7.f0), (Value.int .i64 X.f7.f1), (Value.slice x7 X.f7.f2.length c_7)].toArray 37 (0, 0))); generalize wr.alloc (.cells [(Value.slice x0 X.f0.length c_0), (Value.int .i64 X.f1.f0), (Value.int .i64 X.f1.f1), (Value.slice x1 X.f1.f2.length c_1), (Value.int .i64 X.f2.f0), (Value.int .i64 X.f2.f1), (Value.slice x2 X.f2.f2.length c_2), (Value.int .i64 X.f3.f0), (Value.int .i64 X.f3.f1), (Value.slice x3 X.f3.f2.length c_3), (Value.int .i64 X.f4.f0), (Value.int .i64 X.f4.f1), (Value.slice x4 X.f4.f2.length c_4), (Value.slice x5 X.f5.length c_5), (Value.int .i64 X.f6.f0), (Value.int .i64 X.f6.f1), (Value.slice x6 X.f6.f2.length c_6), (Value.int .i64 X.f7.f0), (Value.int .i64 X.f7.f1), (Value.slice x7 X.f7.f2.length c_7)].toArray 37 (0, 0)) = w5 at HF5 FX5 KB5 SZ5 ⊢; have k0 := blk_cell KB5 0; have k1 := blk_cell KB5 1; have k2 := blk_cell KB5 2; have k3 := blk_cell KB5 3; have k4 := blk_cell KB5 4; have k5 := blk_cell KB5 5; have k6 := blk_cell KB5 6; have k7 := blk_cell KB5 7; have k8 := blk_cell KB5 8; have k9 := blk_cell KB5 9; have k10 := blk_cell KB5 10; have k11 := blk_cell KB5 11; have k12 := blk_cell KB5 12; have k13 := blk_cell KB5 13; have k14 := blk_cell KB5 14; have k15 := blk_cell KB5 15; have k16 := blk_cell KB5 16; have k17 := blk_cell KB5 17; have k18 := blk_cell KB5 18; have k19 := blk_cell KB5 19; simp at k0 k1 k2 k3 k4 k5 k6 k7 k8 k9 k10 k11 k12 k13 k14 k15 k16 k17 k18 k19; have z3 := blk_cell HF5.out.o 3; have z4 := blk_frozen HF5.out.o 3; simp at z3; clear KB5)
        | ((with_reducible refine gate_builtin (b := .append) (xs := #[.tmp 21, .tmp 39]) rfl ?_); go_loud (refine Kd.N_append kR (w0 := w) w.heap.size rfl (.tmp 21) (.tmp 39) 39 74 (.agg #[(.slice none 0 0), (.int .i64 0), (.int .i64 0), (.slice none 0 0), (.int .i64 0), (.int .i64 0), (.slice none 0 0), (.int .i64 0), (.int .i64 0), (.slice none 0 0), (.int .i64 0), (.int .i64 0), (.slice none 0 0), (.slice none 0 0), (.int .i64 0), (.int .i64 0), (.slice none 0 0), (.int .i64 0), (.int .i64 0), (.slice none 0 0)]) 288 rfl Try.underlying39 info74 rfl (by decide) (by omega) (.slice AB XS.length cB) XS (cvR X) [(Value.slice x0 X.f0.length c_0), (Value.int .i64 X.f1.f0), (Value.int .i64 X.f1.f1), (Value.slice x1 X.f1.f2.length c_1), (Value.int .i64 X.f2.f0), (Value.int .i64 X.f2.f1), (Value.slice x2 X.f2.f2.length c_2), (Value.int .i64 X.f3.f0), (Value.int .i64 X.f3.f1), (Value.slice x3 X.f3.f2.length c_3), (Value.int .i64 X.f4.f0), (Value.int .i64 X.f4.f1), (Value.slice x4 X.f4.f2.length c_4), (Value.slice x5 X.f5.length c_5), (Value.int .i64 X.f6.f0), (Value.int .i64 X.f6.f1), (Value.slice x6 X.f6.f2.length c_6), (Value.int .i64 X.f7.f0), (Value.int .i64 X.f7.f1), (Value.slice x7 X.f7.f2.length c_7)] (fun k => k ≠ w.heap.size + 2 ∧ k ≠ w.heap.size + 1) (fun k => k < w.heap.size) rfl (by simp [Act.eval, World.size_setCell, World.size_alloc]) ?aF ?aQ ?aH ?aO ?aB ?aS ?aL ?_); (case aF => exact FX5.out); (case aQ => exact fun k hk => ⟨⟨by omega, by omega⟩, fun e => by have := Kd.N_base HF5.out.n k e.symm; omega⟩); (case aH => exact fun k hk => by have := LT.out; have := SZ5.out; exact ⟨by omega, by omega⟩); (case aO => exact HF5.out.n); (case aB => exact HF5.out.bel); (case aS => exact HF5.out.bel.size); (case aL => have := HLn.out; omega); intro v9 w9 hN hB hG hat; obtain ⟨A9, c9, rfl⟩ := Kd.N_slice hN; have HF9 := Aside0.mk (HF5.out.grown hN hB hG); rw [show (XS ++ [cvR X]).length = XS.length + 1 by simp] at HF9; have z8 := blk_cell HF9.out.o 3; have z9 := blk_frozen HF9.out.o 3; simp at z8; have HF10 := Aside0.mk (HF9.out.put 3 (.slice A9 (XS.length + 1) c9)); clear hN hB hG hat))
      go_roundg q
      case measure => omega
      case rel => exact ⟨i + 1, .slice A9 (XS.length + 1) c9, by go_num, ⟨by have := HI.out; omega⟩, ⟨by rw [HX.out]; exact HF10.out⟩⟩
    | zero =>
      have b1 : decide (i < l3.length) = false := decide_eq_false (by omega)
      have HG := HF.out
      rw [show (l3.take i).map cvR = l3.map cvR by rw [List.take_of_length_le (by omega)], List.length_map] at HG
      have HG := Aside0.mk HG
      clear HF hi hm
      obtain ⟨x0, x1, x2, x3, x4, x5, x6, x7⟩ := cells8 HG.out.r
      have z0 := blk_frozen HG.out.r 0
      have z1 := blk_frozen HG.out.r 1
      have z2 := blk_frozen HG.out.r 2
      have z3 := blk_frozen HG.out.r 3
      have z4 := blk_frozen HG.out.r 4
      have z5 := blk_frozen HG.out.r 5
      have z6 := blk_frozen HG.out.r 6
      have z7 := blk_frozen HG.out.r 7
      go_wp2_with ((with_reducible refine gate_dst (N := 43) rfl ?_); go_loud (refine load_row_event #[.int .i64 r, .int .i64 c, .slice A2 l2.length c2, .slice AB l3.length cB, .slice A4 l4.length c4, .int .i64 r', .int .i64 c', .slice A7 l7.length c7] rfl rfl rfl rfl HG.out.o Try.underlying41 rfl (by kernel_rfl) ?_))
      refine bodyPost_ret (results_cell_row rfl _ _ (w.heap.size + 1) 41 #[.int .i64 r, .int .i64 c, .slice A2 l2.length c2, .slice AB l3.length cB, .slice A4 l4.length c4, .int .i64 r', .int .i64 c', .slice A7 l7.length c7] (0, 0) _ rfl (blk_put8' HG.out.r (.int .i64 r) (.int .i64 c) (.slice A2 l2.length c2) (.slice AB l3.length cB) (.slice A4 l4.length c4) (.int .i64 r') (.int .i64 c') (.slice A7 l7.length c7)) Try.underlying41 rfl (by kernel_rfl)) rfl ⟨AB, cB, rfl, ?_, ?_, ?_⟩
      · have h := (Kd.N_reads' (N_put8 HG.out.n (.int .i64 r) (.int .i64 c) (.slice A2 l2.length c2) (.slice AB l3.length cB) (.slice A4 l4.length c4) (.int .i64 r') (.int .i64 c') (.slice A7 l7.length c7))).2.2
        rwa [List.length_map] at h
      · have h := (Kd.N_reads' HG.out.n).2.1
        exact h
      · exact below_put8 HG.out.bel (by omega) _ _ _ _ _ _ _ _
end Go.Proofs.Ytdlhodbokkaghaa.GQ
