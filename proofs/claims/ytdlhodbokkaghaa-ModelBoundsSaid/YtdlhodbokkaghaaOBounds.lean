/- ModelBounds, walked by hand. -/
import Derived.Test.YtdlhodbokkaghaaGQx3
import Derived.Test.YtdlhodbokkaghaaGQx5
import Derived.Test.YtdlhodbokkaghaaGFull
import Derived.Test.YtdlhodbokkaghaaUFull
import Derived.Outline
set_option linter.unusedVariables false
set_option linter.unusedSimpArgs false
namespace Go.Proofs.Ytdlhodbokkaghaa.OBounds
open Go.RowKit Go.Proofs.YtdlhodbokkaghaaW.PrintWords Go.Proofs.YtdlhodbokkaghaaW.PrintLast Go.Proofs.YtdlhodbokkaghaaW.PrintMore Go.Proofs.Ytdlhodbokkaghaa.GQ Go.Proofs.Ytdlhodbokkaghaa.U
/-- A model's numbers in memory, to be read. -/
structure Mod (W : World) (A2 : Option Addr) (c2 : Nat) (l2 : List Int) (A3 : Option Addr) (c3 : Nat) (l3 : List BK) (A4 : Option Addr) (c4 : Nat) (l4 : List Int) (A7 : Option Addr) (c7 : Nat) (l7 : List Int) : Prop where
  h2 : Kd.C kI W A2 l2.length l2 ∧ l2.length ≤ c2
  h3 : Kd.C kB W A3 l3.length l3 ∧ l3.length ≤ c3
  h4 : Kd.C kI W A4 l4.length l4 ∧ l4.length ≤ c4
  h7 : Kd.C kI W A7 l7.length l7 ∧ l7.length ≤ c7
theorem Mod.step {W W' : World} {A2 A3 A4 A7 : Option Addr} {c2 c3 c4 c7 : Nat} {l2 l4 l7 : List Int} {l3 : List BK} (h : Mod W A2 c2 l2 A3 c3 l3 A4 c4 l4 A7 c7 l7) (hb : Below W.heap.size W W') : Mod W' A2 c2 l2 A3 c3 l3 A4 c4 l4 A7 c7 l7 :=
  ⟨⟨Kd.C_below h.h2.1 hb, h.h2.2⟩, ⟨Kd.C_below h.h3.1 hb, h.h3.2⟩, ⟨Kd.C_below h.h4.1 hb, h.h4.2⟩, ⟨Kd.C_below h.h7.1 hb, h.h7.2⟩⟩
abbrev wts (r c : Int) (A2 : Option Addr) (n2 c2 : Nat) (A3 : Option Addr) (n3 c3 : Nat) (A4 : Option Addr) (n4 c4 : Nat) (r' c' : Int) (A7 : Option Addr) (n7 c7 : Nat) : Array Value := #[.int .i64 r, .int .i64 c, .slice A2 n2 c2, .slice A3 n3 c3, .slice A4 n4 c4, .int .i64 r', .int .i64 c', .slice A7 n7 c7]
/-- The law's boxes: the configuration and both models. -/
structure Bd (w W : World) (cf m1 m2 : Array Value) (g1 g2 : Nat) : Prop where
  c : W.heap[w.heap.size]? = some (.cells cf 23 (0, 0))
  a : W.heap[g1]? = some (.cells m1 30 (0, 0))
  b : W.heap[g2]? = some (.cells m2 30 (0, 0))
  bel : Below w.heap.size w W
theorem Bd.step {w W W' : World} {cf m1 m2 : Array Value} {g1 g2 : Nat} (h : Bd w W cf m1 m2 g1 g2) (hb : Below W.heap.size W W') : Bd w W' cf m1 m2 g1 g2 :=
  ⟨blk_below h.c hb, blk_below h.a hb, blk_below h.b hb, h.bel.trans (hb.mono h.bel.size)⟩
theorem int_at {W : World} {A : Option Addr} {l : List Int} (h : Kd.C kI W A l.length l) (i : Nat) (hi : i < l.length) : ∃ ad, A = some ad ∧ W.cell? (ad.add i) = some (.int .i32 l[i]) := by
  obtain ⟨ad, cs, e, _, hK, hc0⟩ := Kd.C_get h 0 (i : Int) (by omega) (by omega)
  refine ⟨ad, e, ?_⟩
  have e2 : cs = [.int .i32 l[i]] := by
    rw [Int.toNat_natCast, List.getD_eq_getElem?_getD, List.getElem?_eq_getElem hi] at hK
    simpa [Kd.int, Kd.scalar] using hK
  have := hc0 0 (.int .i32 l[i]) (by rw [e2]; rfl)
  rwa [Int.toNat_natCast, show i * kI.sz + 0 = i from by show i * 1 + 0 = i; omega] at this
/-- What every world within the region of two appends holds: the block's two rows of gains. -/
abbrev SA (w5 : World) (g : Nat) (bc : Array Value) (u0 u13 : Value) (W : World) : Prop := W.cell? ⟨g, 0, none⟩ = some u0 ∧ W.cell? ⟨g, 13, none⟩ = some u13 ∧ W.heap[g]? = some (.cells bc 37 (0, 0)) ∧ Below w5.heap.size w5 W
theorem SA.mk' {w5 W : World} {g : Nat} {bc : Array Value} {u0 u13 : Value} (h0 : bc[0]? = some u0) (h1 : bc[13]? = some u13) (hb : W.heap[g]? = some (.cells bc 37 (0, 0))) (hB : Below w5.heap.size w5 W) : SA w5 g bc u0 u13 W := ⟨(blk_cell hb 0).trans h0, (blk_cell hb 13).trans h1, hb, hB⟩
theorem SA.keep {w5 W W' : World} {g : Nat} {bc : Array Value} {u0 u13 : Value} (h0 : bc[0]? = some u0) (h1 : bc[13]? = some u13) (h : SA w5 g bc u0 u13 W) (hb : Below W.heap.size W W') : SA w5 g bc u0 u13 W' := SA.mk' h0 h1 (blk_below h.2.2.1 hb) (h.2.2.2.trans (hb.mono h.2.2.2.size))
theorem R_empty (W : World) : kI.R 35 (W.alloc (.cells #[] 35)).drew W.heap.size (fun k => W.heap.size ≤ k) (.slice (some ⟨W.heap.size, 0, none⟩) 0 0) [] :=
  Kd.R_drew ⟨fun k hk => by simp [Value.ownBlock] at hk; omega, [], World.ownsRow_lit (base := W.heap.size) (e := 35) (size := 1) W #[] 0 (Nat.le_refl _) (by simp [maxLen]) (by simp), Reps.none _ _⟩
/-- What every world within the last region holds. -/
abbrev SZ (w0 : World) (g0 g1 g2 : Nat) (a0 a1 a2 a3 a4 : Int) (u0 u1 u2 u3 u4 u5 u6 u7 v0 v1 v2 v3 v4 v5 v6 v7 : Value) (W : World) : Prop :=
  (W.cell? ⟨g0, 0, none⟩ = some (.int .i64 a0) ∧ W.cell? ⟨g0, 1, none⟩ = some (.int .i64 a1) ∧ W.cell? ⟨g0, 3, none⟩ = some (.int .i64 a3) ∧ W.cell? ⟨g0, 4, none⟩ = some (.int .i64 a4)) ∧
  (W.cell? ⟨g1, 0, none⟩ = some u0 ∧ W.cell? ⟨g1, 1, none⟩ = some u1 ∧ W.cell? ⟨g1, 2, none⟩ = some u2 ∧ W.cell? ⟨g1, 3, none⟩ = some u3 ∧ W.cell? ⟨g1, 4, none⟩ = some u4 ∧ W.cell? ⟨g1, 5, none⟩ = some u5 ∧ W.cell? ⟨g1, 6, none⟩ = some u6 ∧ W.cell? ⟨g1, 7, none⟩ = some u7) ∧
  (W.cell? ⟨g2, 0, none⟩ = some v0 ∧ W.cell? ⟨g2, 1, none⟩ = some v1 ∧ W.cell? ⟨g2, 2, none⟩ = some v2 ∧ W.cell? ⟨g2, 3, none⟩ = some v3 ∧ W.cell? ⟨g2, 4, none⟩ = some v4 ∧ W.cell? ⟨g2, 5, none⟩ = some v5 ∧ W.cell? ⟨g2, 6, none⟩ = some v6 ∧ W.cell? ⟨g2, 7, none⟩ = some v7) ∧
  W.heap[g0]? = some (.cells (CF a0 a1 a2 a3 a4) 23 (0, 0)) ∧ W.heap[g1]? = some (.cells #[u0, u1, u2, u3, u4, u5, u6, u7] 30 (0, 0)) ∧ W.heap[g2]? = some (.cells #[v0, v1, v2, v3, v4, v5, v6, v7] 30 (0, 0)) ∧ Below w0.heap.size w0 W
theorem SZ.mk' {w0 W : World} {g0 g1 g2 : Nat} {a0 a1 a2 a3 a4 : Int} {u0 u1 u2 u3 u4 u5 u6 u7 v0 v1 v2 v3 v4 v5 v6 v7 : Value} (h0 : W.heap[g0]? = some (.cells (CF a0 a1 a2 a3 a4) 23 (0, 0))) (h1 : W.heap[g1]? = some (.cells #[u0, u1, u2, u3, u4, u5, u6, u7] 30 (0, 0))) (h2 : W.heap[g2]? = some (.cells #[v0, v1, v2, v3, v4, v5, v6, v7] 30 (0, 0))) (hb : Below w0.heap.size w0 W) : SZ w0 g0 g1 g2 a0 a1 a2 a3 a4 u0 u1 u2 u3 u4 u5 u6 u7 v0 v1 v2 v3 v4 v5 v6 v7 W :=
  ⟨⟨blk_cell h0 0, blk_cell h0 1, blk_cell h0 3, blk_cell h0 4⟩, ⟨blk_cell h1 0, blk_cell h1 1, blk_cell h1 2, blk_cell h1 3, blk_cell h1 4, blk_cell h1 5, blk_cell h1 6, blk_cell h1 7⟩, ⟨blk_cell h2 0, blk_cell h2 1, blk_cell h2 2, blk_cell h2 3, blk_cell h2 4, blk_cell h2 5, blk_cell h2 6, blk_cell h2 7⟩, h0, h1, h2, hb⟩
theorem SZ.keep {w0 W W' : World} {g0 g1 g2 : Nat} {a0 a1 a2 a3 a4 : Int} {u0 u1 u2 u3 u4 u5 u6 u7 v0 v1 v2 v3 v4 v5 v6 v7 : Value} (h : SZ w0 g0 g1 g2 a0 a1 a2 a3 a4 u0 u1 u2 u3 u4 u5 u6 u7 v0 v1 v2 v3 v4 v5 v6 v7 W) (hb : Below W.heap.size W W') : SZ w0 g0 g1 g2 a0 a1 a2 a3 a4 u0 u1 u2 u3 u4 u5 u6 u7 v0 v1 v2 v3 v4 v5 v6 v7 W' :=
  SZ.mk' (blk_below h.2.2.2.1 hb) (blk_below h.2.2.2.2.1 hb) (blk_below h.2.2.2.2.2.1 hb) (h.2.2.2.2.2.2.trans (hb.mono h.2.2.2.2.2.2.size))
theorem SZ.bel {w0 W : World} {g0 g1 g2 : Nat} {a0 a1 a2 a3 a4 : Int} {u0 u1 u2 u3 u4 u5 u6 u7 v0 v1 v2 v3 v4 v5 v6 v7 : Value} (h : SZ w0 g0 g1 g2 a0 a1 a2 a3 a4 u0 u1 u2 u3 u4 u5 u6 u7 v0 v1 v2 v3 v4 v5 v6 v7 W) : Below w0.heap.size w0 W := h.2.2.2.2.2.2
theorem cvR_lens {l3 : List BK} (h : ∀ b ∈ l3, (∀ x ∈ b.f0 ++ b.f5, 49152 ≤ x ∧ x < 81920) ∧ b.f0.length ≤ 100000 ∧ b.f1.f2.length ≤ 100000 ∧ b.f2.f2.length ≤ 100000 ∧ b.f3.f2.length ≤ 100000 ∧ b.f4.f2.length ≤ 100000 ∧ b.f5.length ≤ 100000 ∧ b.f6.f2.length ≤ 100000 ∧ b.f7.f2.length ≤ 100000) : ∀ b ∈ l3.map cvR, b.f0.length ≤ 100000 ∧ b.f1.f2.length ≤ 100000 ∧ b.f2.f2.length ≤ 100000 ∧ b.f3.f2.length ≤ 100000 ∧ b.f4.f2.length ≤ 100000 ∧ b.f5.length ≤ 100000 ∧ b.f6.f2.length ≤ 100000 ∧ b.f7.f2.length ≤ 100000 := by
  intro b hb
  obtain ⟨b', hb', rfl⟩ := List.mem_map.mp hb
  exact (h b' hb').2
theorem heapR : Kd.Heap kR := by
  unfold kR k74
  repeat' first | exact Kd.heap_int _ | apply Kd.heap_iso | apply Kd.heap_pair | apply Kd.heap_slice | unfold k27
theorem full_calls' (LR : List BR) (r c : Int) (l2 : List Int) (l3 : List BK) (l4 : List Int) (r' c' : Int) (l7 : List Int) (A2 : Option Addr) (c2 : Nat) (A3 : Option Addr) (c3 : Nat) (A4 : Option Addr) (c4 : Nat) (A7 : Option Addr) (c7 : Nat) (w : World) (ha3 : Kd.C kB w A3 l3.length l3) (m3 : l3.length ≤ 1000) (e : LR = l3.map cvR) :
    Calls Try.prog 12 #[.agg #[.int .i64 r, .int .i64 c, .slice A2 l2.length c2, .slice A3 l3.length c3, .slice A4 l4.length c4, .int .i64 r', .int .i64 c', .slice A7 l7.length c7]] w fun e w' => ∃ A c9, e = .returned (.agg #[.int .i64 r, .int .i64 c, .slice A2 l2.length c2, (.slice A LR.length c9), .slice A4 l4.length c4, .int .i64 r', .int .i64 c', .slice A7 l7.length c7]) ∧ Kd.C kR w' A LR.length LR ∧ LR.length ≤ c9 ∧ Below w.heap.size w w' := by
  subst e
  refine (full_calls r c l2 l3 l4 r' c' l7 A2 c2 A3 c3 A4 c4 A7 c7 w ha3 m3).mono ?_
  rintro e w1 ⟨A, c9, rfl, h1, h2, h3⟩
  rw [← List.length_map (f := cvR)] at h1 h2
  exact ⟨A, c9, by rw [List.length_map], h1, h2, h3⟩
theorem V_ofC {W : World} {A : Option Addr} {c b : Nat} {l : List BR} (h : Kd.C kR W A l.length l) (hc : l.length ≤ c) : Kd.V kR 74 W b (fun _ => True) (.slice A l.length c) l := ⟨A, c, rfl, hc, Kd.F_mono (Kd.C_F heapR h) (fun _ _ => trivial)⟩
theorem L10' {w W4 wr W : World} (h : Below W4.heap.size W4 wr) (h2 : Below wr.heap.size wr W) (h0 : Below w.heap.size w W4) : Below w.heap.size w W := h0.trans ((h.trans (h2.mono h.size)).mono h0.size)
theorem awake_true : tillerlaw06_awake.f 50 = some true := by decide +kernel
set_option maxHeartbeats 16000000 in
set_option maxRecDepth 100000 in
theorem bounds_calls (a0 a1 a2 a3 a4 sd : Int) (r c : Int) (l2 : List Int) (l3 : List BK) (l4 : List Int) (r' c' : Int) (l7 : List Int) (K : Nat) (w : World)
    (hM : model_Make.f K a0 a1 a2 a3 a4 sd = some (r, c, l2, l3, l4, r', c', l7, 0))
    (b2 : ∀ x ∈ l2, -131072 ≤ x ∧ x < 131072)
    (b3 : ∀ b ∈ l3, (∀ x ∈ b.f0 ++ b.f5, 49152 ≤ x ∧ x < 81920) ∧ b.f0.length ≤ 100000 ∧ b.f1.f2.length ≤ 100000 ∧ b.f2.f2.length ≤ 100000 ∧ b.f3.f2.length ≤ 100000 ∧ b.f4.f2.length ≤ 100000 ∧ b.f5.length ≤ 100000 ∧ b.f6.f2.length ≤ 100000 ∧ b.f7.f2.length ≤ 100000)
    (m3 : l3.length ≤ 1000) (n2 : l2.length ≤ 100000) (n4 : l4.length ≤ 100000) (n7 : l7.length ≤ 100000)
    (hT : ∃ L k, tillerref06_List.f k r c l2 (l3.map cvR) l4 r' c' l7 = some L ∧ (L.length : Int) = IntKind.i64.wrap (IntKind.i64.wrap (IntKind.i64.wrap (IntKind.i64.wrap (2 * a0) * a1) + a1) + IntKind.i64.wrap (a4 * IntKind.i64.wrap (IntKind.i64.wrap (IntKind.i64.wrap (2 * a1) + IntKind.i64.wrap (IntKind.i64.wrap (4 * a1) * a1)) + IntKind.i64.wrap (IntKind.i64.wrap (2 * a1) * a3))))) :
    Calls Try.prog 3 #[.agg (CF a0 a1 a2 a3 a4), .int .u64 sd] w fun e w' => e = .returned (.bool true) ∧ Below w.heap.size w w' := by
  have HM := Aside0.mk hM
  have Q2 := Aside0.mk b2
  have Q3 := Aside0.mk b3
  have M3 := Aside0.mk m3
  have N2 := Aside0.mk n2
  have N4 := Aside0.mk n4
  have N7 := Aside0.mk n7
  have HT := Aside0.mk hT
  have BW := Aside0.mk (((Below.refl w.heap.size w).alloc (Nat.le_refl _) (.cells (CF a0 a1 a2 a3 a4) 23 (0, 0))))
  have KC := Aside0.mk (blk_new w (.cells (CF a0 a1 a2 a3 a4) 23 (0, 0)))
  clear hM b2 b3 m3 n2 n4 n7 hT
  go_enter Try.func3, Try.ntmps3
  have x0 := blk_cell KC.out 0
  have x1 := blk_cell KC.out 1
  have x2 := blk_cell KC.out 2
  have x3 := blk_cell KC.out 3
  have x4 := blk_cell KC.out 4
  simp [CF] at x0 x1 x2 x3 x4
  go_wp2_with (first
    | (go_at_call 9; have _t := MA; go_loud (refine (model_Make.calls K a0 a1 a2 a3 a4 sd r c l2 l3 l4 r' c' l7 0 _ HM.out).mono ?_; rintro e w3 ⟨v2, v3, v4, v7, rfl, hr2, hs3, hr4, hr7, hb⟩; obtain ⟨B2, bc2, rfl, e2, h2⟩ := Kd.R_reads hr2; obtain ⟨B3, bc3, rfl, e3, h3⟩ := Kd.S_reads hs3; obtain ⟨B4, bc4, rfl, e4, h4⟩ := Kd.R_reads hr4; obtain ⟨B7, bc7, rfl, e7, h7⟩ := Kd.R_reads hr7; have MB := Aside0.mk (Mod.mk ⟨h2, e2⟩ ⟨h3, e3⟩ ⟨h4, e4⟩ ⟨h7, e7⟩); clear hr2 hs3 hr4 hr7 e2 h2 e3 h3 e4 h4 e7 h7); have KC3 := Aside0.mk (blk_below KC2.out hb); have BA3 := Aside0.mk (blk_below BA2.out hb); have BW3 := Aside0.mk (BW2.out.trans (hb.mono BW2.out.size)); have MA3 := Aside0.mk (MA2.out.step hb); clear hb; clear x0 x1 x2 x3 x4; have x0 := blk_cell KC3.out 0; have x1 := blk_cell KC3.out 1; have x2 := blk_cell KC3.out 2; have x3 := blk_cell KC3.out 3; have x4 := blk_cell KC3.out 4; simp [CF] at x0 x1 x2 x3 x4)
    | (go_at_call 9; go_loud (refine (model_Make.calls K a0 a1 a2 a3 a4 sd r c l2 l3 l4 r' c' l7 0 _ HM.out).mono ?_; rintro e w1 ⟨v2, v3, v4, v7, rfl, hr2, hs3, hr4, hr7, hb⟩; obtain ⟨A2, ac2, rfl, e2, h2⟩ := Kd.R_reads hr2; obtain ⟨A3, ac3, rfl, e3, h3⟩ := Kd.S_reads hs3; obtain ⟨A4, ac4, rfl, e4, h4⟩ := Kd.R_reads hr4; obtain ⟨A7, ac7, rfl, e7, h7⟩ := Kd.R_reads hr7; have MA := Aside0.mk (Mod.mk ⟨h2, e2⟩ ⟨h3, e3⟩ ⟨h4, e4⟩ ⟨h7, e7⟩); clear hr2 hs3 hr4 hr7 e2 h2 e3 h3 e4 h4 e7 h7); have KC1 := Aside0.mk (blk_below KC.out hb); have BW1 := Aside0.mk (BW.out.trans (hb.mono BW.out.size)); clear hb; clear x0 x1 x2 x3 x4; have x0 := blk_cell KC1.out 0; have x1 := blk_cell KC1.out 1; have x2 := blk_cell KC1.out 2; have x3 := blk_cell KC1.out 3; have x4 := blk_cell KC1.out 4; simp [CF] at x0 x1 x2 x3 x4)
    | ((with_reducible refine gate_store (t := 30) (p := 5) rfl ?_); go_loud (refine store_new_event (wts r c A2 l2.length ac2 A3 l3.length ac3 A4 l4.length ac4 r' c' A7 l7.length ac7) rfl rfl rfl rfl rfl (by kernel_rfl) rfl (by simp [Value.oneCell']) ?_); have KC2 := Aside0.mk (blk_alloc KC1.out (.cells (wts r c A2 l2.length ac2 A3 l3.length ac3 A4 l4.length ac4 r' c' A7 l7.length ac7) 30 (0, 0))); have BA2 := Aside0.mk (blk_new w1 (.cells (wts r c A2 l2.length ac2 A3 l3.length ac3 A4 l4.length ac4 r' c' A7 l7.length ac7) 30 (0, 0))); have BW2 := Aside0.mk (below_alloc BW1.out (.cells (wts r c A2 l2.length ac2 A3 l3.length ac3 A4 l4.length ac4 r' c' A7 l7.length ac7) 30 (0, 0))); have MA2 := Aside0.mk (MA.out.step (below_alloc (Below.refl w1.heap.size w1) (.cells (wts r c A2 l2.length ac2 A3 l3.length ac3 A4 l4.length ac4 r' c' A7 l7.length ac7) 30 (0, 0)))); generalize w1.alloc (.cells (wts r c A2 l2.length ac2 A3 l3.length ac3 A4 l4.length ac4 r' c' A7 l7.length ac7) 30 (0, 0)) = w2 at KC2 BA2 BW2 MA2 ⊢; clear x0 x1 x2 x3 x4; have x0 := blk_cell KC2.out 0; have x1 := blk_cell KC2.out 1; have x2 := blk_cell KC2.out 2; have x3 := blk_cell KC2.out 3; have x4 := blk_cell KC2.out 4; simp [CF] at x0 x1 x2 x3 x4)
    | ((with_reducible refine gate_store (t := 30) (p := 7) rfl ?_); go_loud (refine store_new_event (wts r c B2 l2.length bc2 B3 l3.length bc3 B4 l4.length bc4 r' c' B7 l7.length bc7) rfl rfl rfl rfl rfl (by kernel_rfl) rfl (by simp [Value.oneCell']) ?_); have KC4 := Aside0.mk (blk_alloc KC3.out (.cells (wts r c B2 l2.length bc2 B3 l3.length bc3 B4 l4.length bc4 r' c' B7 l7.length bc7) 30 (0, 0))); have BA4 := Aside0.mk (blk_alloc BA3.out (.cells (wts r c B2 l2.length bc2 B3 l3.length bc3 B4 l4.length bc4 r' c' B7 l7.length bc7) 30 (0, 0))); have BB4 := Aside0.mk (blk_new w3 (.cells (wts r c B2 l2.length bc2 B3 l3.length bc3 B4 l4.length bc4 r' c' B7 l7.length bc7) 30 (0, 0))); have BW4 := Aside0.mk (below_alloc BW3.out (.cells (wts r c B2 l2.length bc2 B3 l3.length bc3 B4 l4.length bc4 r' c' B7 l7.length bc7) 30 (0, 0))); have MA4 := Aside0.mk (MA3.out.step (below_alloc (Below.refl w3.heap.size w3) (.cells (wts r c B2 l2.length bc2 B3 l3.length bc3 B4 l4.length bc4 r' c' B7 l7.length bc7) 30 (0, 0)))); have MB4 := Aside0.mk (MB.out.step (below_alloc (Below.refl w3.heap.size w3) (.cells (wts r c B2 l2.length bc2 B3 l3.length bc3 B4 l4.length bc4 r' c' B7 l7.length bc7) 30 (0, 0)))); generalize w3.alloc (.cells (wts r c B2 l2.length bc2 B3 l3.length bc3 B4 l4.length bc4 r' c' B7 l7.length bc7) 30 (0, 0)) = w4 at KC4 BA4 BB4 BW4 MA4 MB4 ⊢; clear x0 x1 x2 x3 x4; have x0 := blk_cell KC4.out 0; have x1 := blk_cell KC4.out 1; have x2 := blk_cell KC4.out 2; have x3 := blk_cell KC4.out 3; have x4 := blk_cell KC4.out 4; simp [CF] at x0 x1 x2 x3 x4; have y2 := blk_cell BA4.out 2; have y3 := blk_cell BA4.out 3; simp at y2 y3))
  clear x0 x1 x2 x3 x4
  go_loopg [44] l2.length (fun kq v44 w' => ∃ i : Nat, v44 = .int .i64 (i : Int) ∧ Aside0 (i + kq = l2.length) ∧ w' = w4)
  case atStart => exact ⟨0, rfl, ⟨Nat.zero_add _⟩, rfl⟩
  case round =>
    obtain ⟨i, rfl, HI, rfl⟩ := hrel
    have hi := HI.out
    have hn2 := N2.out
    cases gk with
    | succ q =>
      have b1 : decide (i < l2.length) = true := decide_eq_true (by omega)
      have p1 : 0 ≤ (i : Int) := by omega
      have q1 : (i : Int) < (l2.length : Int) := by omega
      have i2 : (i : Int) + 1 ≤ 100000 := by omega
      obtain ⟨ax, e1, hx⟩ := int_at MA4.out.h2.1 i (by omega)
      subst e1
      have hbx := Q2.out _ (List.getElem_mem (show i < l2.length by omega))
      generalize l2[i]'(by omega) = x at hx hbx
      have b2 : decide (x < -131072) = false := decide_eq_false (by omega)
      have b3 : decide (131072 ≤ x) = false := decide_eq_false (by omega)
      clear hi hn2 hbx
      go_wp2
      go_roundg q
      case measure => omega
      case rel => exact ⟨i + 1, by go_num, ⟨by have := HI.out; omega⟩, rfl⟩
    | zero =>
      have b1 : decide (i < l2.length) = false := decide_eq_false (by omega)
      clear hi hn2
      go_wp2
      obtain ⟨W4, hW4⟩ : ∃ W4 : World, W4 = wr := ⟨_, rfl⟩
      subst hW4
      have LB := Aside0.mk (Below.refl W4.heap.size W4)
      go_loopg [58] l3.length (fun kq v58 W => ∃ i : Nat, v58 = .int .i64 (i : Int) ∧ Aside0 (i + kq = l3.length) ∧ Aside0 (Below W4.heap.size W4 W))
      case atStart => exact ⟨0, rfl, ⟨Nat.zero_add _⟩, LB⟩
      case round =>
        clear LB
        obtain ⟨i, rfl, HI, LB⟩ := hrel
        have hi := HI.out
        have hm := M3.out
        cases gk with
        | succ q =>
          have b1 : decide (i < l3.length) = true := decide_eq_true (by omega)
          have p1 : 0 ≤ (i : Int) := by omega
          have q1 : (i : Int) < (l3.length : Int) := by omega
          have i2 : (i : Int) + 1 ≤ 1000 := by omega
          obtain ⟨ax, csx, e1, hKx, hcx⟩ := elem_atB MA4.out.h3.1 i (by omega)
          subst e1
          have HX := Aside0.mk (Q3.out (rd_T37 l3 (i : Int)) (by unfold rd_T37; rw [Int.toNat_natCast, List.getD_eq_getElem?_getD, List.getElem?_eq_getElem (by omega)]; exact List.getElem_mem _))
          obtain ⟨X, hX⟩ : ∃ X, rd_T37 l3 (i : Int) = X := ⟨_, rfl⟩
          rw [hX] at hKx HX
          obtain ⟨x0, c_0, x1, c_1, x2, c_2, x3, c_3, x4, c_4, x5, c_5, x6, c_6, x7, c_7, rfl, l_0, g_0, l_1, g_1, l_2, g_2, l_3, g_3, l_4, g_4, l_5, g_5, l_6, g_6, l_7, g_7⟩ := k37_open hKx
          have CX := Aside0.mk (fun j u hj => (LB.out.cell (World.block_lt_of_cell? W4 _ (hcx j u hj))).trans (hcx j u hj))
          have G0 := Aside0.mk (Kd.C_below g_0 LB.out)
          have G5 := Aside0.mk (Kd.C_below g_5 LB.out)
          clear hX hKx hcx hi hm l_0 g_0 l_1 g_1 l_2 g_2 l_3 g_3 l_4 g_4 l_5 g_5 l_6 g_6 l_7 g_7
          go_wp2_with (first
            | ((with_reducible refine gate_dst (N := 61) rfl ?_); go_loud (refine load_any_event [(Value.slice x0 X.f0.length c_0), (Value.int .i64 X.f1.f0), (Value.int .i64 X.f1.f1), (Value.slice x1 X.f1.f2.length c_1), (Value.int .i64 X.f2.f0), (Value.int .i64 X.f2.f1), (Value.slice x2 X.f2.f2.length c_2), (Value.int .i64 X.f3.f0), (Value.int .i64 X.f3.f1), (Value.slice x3 X.f3.f2.length c_3), (Value.int .i64 X.f4.f0), (Value.int .i64 X.f4.f1), (Value.slice x4 X.f4.f2.length c_4), (Value.slice x5 X.f5.length c_5), (Value.int .i64 X.f6.f0), (Value.int .i64 X.f6.f1), (Value.slice x6 X.f6.f2.length c_6), (Value.int .i64 X.f7.f0), (Value.int .i64 X.f7.f1), (Value.slice x7 X.f7.f2.length c_7)] rfl rfl rfl rfl CX.out Try.underlying37 rfl (by kernel_rfl) ?_))
            | ((with_reducible refine gate_store (t := 37) (p := 12) rfl ?_); go_loud (refine store_new_event [(Value.slice x0 X.f0.length c_0), (Value.int .i64 X.f1.f0), (Value.int .i64 X.f1.f1), (Value.slice x1 X.f1.f2.length c_1), (Value.int .i64 X.f2.f0), (Value.int .i64 X.f2.f1), (Value.slice x2 X.f2.f2.length c_2), (Value.int .i64 X.f3.f0), (Value.int .i64 X.f3.f1), (Value.slice x3 X.f3.f2.length c_3), (Value.int .i64 X.f4.f0), (Value.int .i64 X.f4.f1), (Value.slice x4 X.f4.f2.length c_4), (Value.slice x5 X.f5.length c_5), (Value.int .i64 X.f6.f0), (Value.int .i64 X.f6.f1), (Value.slice x6 X.f6.f2.length c_6), (Value.int .i64 X.f7.f0), (Value.int .i64 X.f7.f1), (Value.slice x7 X.f7.f2.length c_7)].toArray rfl rfl rfl rfl rfl (by kernel_rfl) rfl (by simp [Value.oneCell']) ?_); have KB5 := Aside0.mk (blk_new wr (.cells [(Value.slice x0 X.f0.length c_0), (Value.int .i64 X.f1.f0), (Value.int .i64 X.f1.f1), (Value.slice x1 X.f1.f2.length c_1), (Value.int .i64 X.f2.f0), (Value.int .i64 X.f2.f1), (Value.slice x2 X.f2.f2.length c_2), (Value.int .i64 X.f3.f0), (Value.int .i64 X.f3.f1), (Value.slice x3 X.f3.f2.length c_3), (Value.int .i64 X.f4.f0), (Value.int .i64 X.f4.f1), (Value.slice x4 X.f4.f2.length c_4), (Value.slice x5 X.f5.length c_5), (Value.int .i64 X.f6.f0), (Value.int .i64 X.f6.f1), (Value.slice x6 X.f6.f2.length c_6), (Value.int .i64 X.f7.f0), (Value.int .i64 X.f7.f1), (Value.slice x7 X.f7.f2.length c_7)].toArray 37 (0, 0))); have LB5 := Aside0.mk (below_alloc (Below.refl wr.heap.size wr) (.cells [(Value.slice x0 X.f0.length c_0), (Value.int .i64 X.f1.f0), (Value.int .i64 X.f1.f1), (Value.slice x1 X.f1.f2.length c_1), (Value.int .i64 X.f2.f0), (Value.int .i64 X.f2.f1), (Value.slice x2 X.f2.f2.length c_2), (Value.int .i64 X.f3.f0), (Value.int .i64 X.f3.f1), (Value.slice x3 X.f3.f2.length c_3), (Value.int .i64 X.f4.f0), (Value.int .i64 X.f4.f1), (Value.slice x4 X.f4.f2.length c_4), (Value.slice x5 X.f5.length c_5), (Value.int .i64 X.f6.f0), (Value.int .i64 X.f6.f1), (Value.slice x6 X.f6.f2.length c_6), (Value.int .i64 X.f7.f0), (Value.int .i64 X.f7.f1), (Value.slice x7 X.f7.f2.length c_7)].toArray 37 (0, 0))); generalize wr.alloc (.cells [(Value.slice x0 X.f0.length c_0), (Value.int .i64 X.f1.f0), (Value.int .i64 X.f1.f1), (Value.slice x1 X.f1.f2.length c_1), (Value.int .i64 X.f2.f0), (Value.int .i64 X.f2.f1), (Value.slice x2 X.f2.f2.length c_2), (Value.int .i64 X.f3.f0), (Value.int .i64 X.f3.f1), (Value.slice x3 X.f3.f2.length c_3), (Value.int .i64 X.f4.f0), (Value.int .i64 X.f4.f1), (Value.slice x4 X.f4.f2.length c_4), (Value.slice x5 X.f5.length c_5), (Value.int .i64 X.f6.f0), (Value.int .i64 X.f6.f1), (Value.slice x6 X.f6.f2.length c_6), (Value.int .i64 X.f7.f0), (Value.int .i64 X.f7.f1), (Value.slice x7 X.f7.f2.length c_7)].toArray 37 (0, 0)) = w5 at KB5 LB5 ⊢))
          have sn0 : SA w5 wr.heap.size [(Value.slice x0 X.f0.length c_0), (Value.int .i64 X.f1.f0), (Value.int .i64 X.f1.f1), (Value.slice x1 X.f1.f2.length c_1), (Value.int .i64 X.f2.f0), (Value.int .i64 X.f2.f1), (Value.slice x2 X.f2.f2.length c_2), (Value.int .i64 X.f3.f0), (Value.int .i64 X.f3.f1), (Value.slice x3 X.f3.f2.length c_3), (Value.int .i64 X.f4.f0), (Value.int .i64 X.f4.f1), (Value.slice x4 X.f4.f2.length c_4), (Value.slice x5 X.f5.length c_5), (Value.int .i64 X.f6.f0), (Value.int .i64 X.f6.f1), (Value.slice x6 X.f6.f2.length c_6), (Value.int .i64 X.f7.f0), (Value.int .i64 X.f7.f1), (Value.slice x7 X.f7.f2.length c_7)].toArray (Value.slice x0 X.f0.length c_0) (Value.slice x5 X.f5.length c_5) w5 := SA.mk' rfl rfl KB5.out (Below.refl _ _)
          have sn1 := SA.keep rfl rfl sn0 (Below.refl _ _).drew
          obtain ⟨Y, hY⟩ : ∃ Y, X.f0 ++ X.f5 = Y := ⟨_, rfl⟩
          have HYB := Aside0.mk (show (∀ x ∈ Y, 49152 ≤ x ∧ x < 81920) ∧ Y.length ≤ 200000 by have := HX.out; rw [← hY, List.length_append]; exact ⟨this.1, by omega⟩)
          have HY := Aside0.mk hY
          clear hY
          have sn2 := SA.keep rfl rfl sn0 (below_alloc (Below.refl w5.heap.size w5) (.cells #[] 35)).drew
          have HO8 := Aside0.mk (R_empty w5)
          have G0 := Aside0.mk (Kd.C_below G0.out LB5.out)
          have G5 := Aside0.mk (Kd.C_below G5.out LB5.out)
          go_region_held3 (SA w5 wr.heap.size [(Value.slice x0 X.f0.length c_0), (Value.int .i64 X.f1.f0), (Value.int .i64 X.f1.f1), (Value.slice x1 X.f1.f2.length c_1), (Value.int .i64 X.f2.f0), (Value.int .i64 X.f2.f1), (Value.slice x2 X.f2.f2.length c_2), (Value.int .i64 X.f3.f0), (Value.int .i64 X.f3.f1), (Value.slice x3 X.f3.f2.length c_3), (Value.int .i64 X.f4.f0), (Value.int .i64 X.f4.f1), (Value.slice x4 X.f4.f2.length c_4), (Value.slice x5 X.f5.length c_5), (Value.int .i64 X.f6.f0), (Value.int .i64 X.f6.f1), (Value.slice x6 X.f6.f2.length c_6), (Value.int .i64 X.f7.f0), (Value.int .i64 X.f7.f1), (Value.slice x7 X.f7.f2.length c_7)].toArray (Value.slice x0 X.f0.length c_0) (Value.slice x5 X.f5.length c_5))
            (first | exact sn | exact sn2 | exact sn1 | exact sn0)
            (first
            | (refine Kd.R_append_rows_step (Kd.int .i32) (w0 := w5) w5.heap.size (by rfl) (.tmp 65) (.tmp 67) 25 35 (.int .i32 0) 4 rfl Try.underlying25 info35 rfl (by decide) (by omega) v9 X.f0 X.f5 x5 X.f5.length c_5 (fun k_ => w5.heap.size ≤ k_) (fun _ => False) rfl rfl HO9.out (Kd.C_below G5.out sn.2.2.2) (fun _ _ h => h) (fun _ h => h.elim) (fun k hk => Nat.le_trans sn.2.2.2.size hk) sn.2.2.2 sn.2.2.2.size (by have := HX.out; simp; omega) ?_; intro v10 w10 ho hb hg hat; have sn : SA w5 wr.heap.size [(Value.slice x0 X.f0.length c_0), (Value.int .i64 X.f1.f0), (Value.int .i64 X.f1.f1), (Value.slice x1 X.f1.f2.length c_1), (Value.int .i64 X.f2.f0), (Value.int .i64 X.f2.f1), (Value.slice x2 X.f2.f2.length c_2), (Value.int .i64 X.f3.f0), (Value.int .i64 X.f3.f1), (Value.slice x3 X.f3.f2.length c_3), (Value.int .i64 X.f4.f0), (Value.int .i64 X.f4.f1), (Value.slice x4 X.f4.f2.length c_4), (Value.slice x5 X.f5.length c_5), (Value.int .i64 X.f6.f0), (Value.int .i64 X.f6.f1), (Value.slice x6 X.f6.f2.length c_6), (Value.int .i64 X.f7.f0), (Value.int .i64 X.f7.f1), (Value.slice x7 X.f7.f2.length c_7)].toArray (Value.slice x0 X.f0.length c_0) (Value.slice x5 X.f5.length c_5) w10 := SA.mk' rfl rfl (blk_below KB5.out hb) hb; rw [HY.out] at ho; obtain ⟨A10, c10, rfl⟩ := Kd.R_slice ho; have C10 := Aside0.mk (Kd.R_reads' ho).2.2; clear ho hb hg hat)
            | (refine Kd.R_append_rows_step (Kd.int .i32) (w0 := w5) w5.heap.size (by rfl) (.tmp 62) (.tmp 64) 25 35 (.int .i32 0) 4 rfl Try.underlying25 info35 rfl (by decide) (by omega) (.slice (some ⟨w5.heap.size, 0, none⟩) 0 0) [] X.f0 x0 X.f0.length c_0 (fun k_ => w5.heap.size ≤ k_) (fun _ => False) rfl rfl HO8.out (Kd.C_below G0.out sn2.2.2.2) (fun _ _ h => h) (fun _ h => h.elim) (fun k hk => Nat.le_trans sn2.2.2.2.size hk) sn2.2.2.2 sn2.2.2.2.size (by have := HX.out; simp; omega) ?_; intro v9 w9 ho hb hg hat; have sn : SA w5 wr.heap.size [(Value.slice x0 X.f0.length c_0), (Value.int .i64 X.f1.f0), (Value.int .i64 X.f1.f1), (Value.slice x1 X.f1.f2.length c_1), (Value.int .i64 X.f2.f0), (Value.int .i64 X.f2.f1), (Value.slice x2 X.f2.f2.length c_2), (Value.int .i64 X.f3.f0), (Value.int .i64 X.f3.f1), (Value.slice x3 X.f3.f2.length c_3), (Value.int .i64 X.f4.f0), (Value.int .i64 X.f4.f1), (Value.slice x4 X.f4.f2.length c_4), (Value.slice x5 X.f5.length c_5), (Value.int .i64 X.f6.f0), (Value.int .i64 X.f6.f1), (Value.slice x6 X.f6.f2.length c_6), (Value.int .i64 X.f7.f0), (Value.int .i64 X.f7.f1), (Value.slice x7 X.f7.f2.length c_7)].toArray (Value.slice x0 X.f0.length c_0) (Value.slice x5 X.f5.length c_5) w9 := SA.mk' rfl rfl (blk_below KB5.out hb) hb; rw [List.nil_append] at ho; have HO9 := Aside0.mk ho; clear ho hb hg hat))
          have L10 := Aside0.mk (LB.out.trans ((LB5.out.trans (sn.2.2.2.mono LB5.out.size)).mono LB.out.size))
          clear sn sn0 sn1 sn2
          go_wp2
          go_loopg [70] Y.length (fun kq v70 W => ∃ j : Nat, v70 = .int .i64 (j : Int) ∧ Aside0 (j + kq = Y.length) ∧ W = w10)
          case atStart => exact ⟨0, rfl, ⟨Nat.zero_add _⟩, rfl⟩
          case round =>
            obtain ⟨j, rfl, HJ, rfl⟩ := hrel
            have hj := HJ.out
            have hn2 := HYB.out.2
            cases gk with
            | succ q' =>
              have b1 : decide (j < Y.length) = true := decide_eq_true (by omega)
              have p1 : 0 ≤ (j : Int) := by omega
              have q1 : (j : Int) < (Y.length : Int) := by omega
              have i2 : (j : Int) + 1 ≤ 200000 := by omega
              obtain ⟨ay, e1, hx⟩ := int_at C10.out j (by omega)
              subst e1
              have hbx := HYB.out.1 _ (List.getElem_mem (show j < Y.length by omega))
              generalize Y[j]'(by omega) = x at hx hbx
              have b2 : decide (x < 49152) = false := decide_eq_false (by omega)
              have b3 : decide (81920 ≤ x) = false := decide_eq_false (by omega)
              clear hj hn2 hbx
              go_wp2
              go_roundg q'
              case measure => omega
              case rel => exact ⟨j + 1, by go_num, ⟨by have := HJ.out; omega⟩, rfl⟩
            | zero =>
              have b1 : decide (j < Y.length) = false := decide_eq_false (by omega)
              clear hj hn2
              go_wp2
              go_roundg q
              case measure => omega
              case rel => exact ⟨i + 1, by go_num, ⟨by have := HI.out; omega⟩, L10⟩
        | zero =>
          have b1 : decide (i < l3.length) = false := decide_eq_false (by omega)
          clear hi hm
          go_wp2_with (fail)
          have MA5 := Aside0.mk (MA4.out.step LB.out)
          have MB5 := Aside0.mk (MB4.out.step LB.out)
          obtain ⟨L, k, hL, hLen⟩ := HT.out
          obtain ⟨LR, hLR⟩ : ∃ LR, LR = l3.map cvR := ⟨_, rfl⟩
          rw [← hLR] at hL
          have NLR := Aside0.mk (show (∀ b ∈ LR, b.f0.length ≤ 100000 ∧ b.f1.f2.length ≤ 100000 ∧ b.f2.f2.length ≤ 100000 ∧ b.f3.f2.length ≤ 100000 ∧ b.f4.f2.length ≤ 100000 ∧ b.f5.length ≤ 100000 ∧ b.f6.f2.length ≤ 100000 ∧ b.f7.f2.length ≤ 100000) ∧ LR.length ≤ 1000 by rw [hLR]; exact ⟨cvR_lens Q3.out, by rw [List.length_map]; exact M3.out⟩)
          have HLR := Aside0.mk hLR
          clear hLR
          have HL := Aside0.mk hL
          have HLen := Aside0.mk hLen
          clear hL hLen
          have AW := Aside0.mk awake_true
          have sn0 : SZ wr w.heap.size w1.heap.size w3.heap.size a0 a1 a2 a3 a4 (.int .i64 r) (.int .i64 c) (.slice A2 l2.length ac2) (.slice A3 l3.length ac3) (.slice A4 l4.length ac4) (.int .i64 r') (.int .i64 c') (.slice A7 l7.length ac7) (.int .i64 r) (.int .i64 c) (.slice B2 l2.length bc2) (.slice B3 l3.length bc3) (.slice B4 l4.length bc4) (.int .i64 r') (.int .i64 c') (.slice B7 l7.length bc7) wr := SZ.mk' (blk_below KC4.out LB.out) (blk_below BA4.out LB.out) (blk_below BB4.out LB.out) (Below.refl _ _)
          have sn1 := sn0.keep (Below.refl _ _).drew
          go_region_held3 (SZ wr w.heap.size w1.heap.size w3.heap.size a0 a1 a2 a3 a4 (.int .i64 r) (.int .i64 c) (.slice A2 l2.length ac2) (.slice A3 l3.length ac3) (.slice A4 l4.length ac4) (.int .i64 r') (.int .i64 c') (.slice A7 l7.length ac7) (.int .i64 r) (.int .i64 c) (.slice B2 l2.length bc2) (.slice B3 l3.length bc3) (.slice B4 l4.length bc4) (.int .i64 r') (.int .i64 c') (.slice B7 l7.length bc7))
            (first | exact sn | exact sn1 | exact sn0)
            (first
            | (go_at_call 13; (with_reducible refine (tillerref06_List.calls k r c A2 ac2 l2 (fun _ => True) FA fA LR A4 ac4 l4 r' c' A7 ac7 l7 L _ (MA5.out.step (SZ.bel (by assumption))).h2.1 (MA5.out.step (SZ.bel (by assumption))).h2.2 (V_ofC XA.out.1 XA.out.2) (MA5.out.step (SZ.bel (by assumption))).h4.1 (MA5.out.step (SZ.bel (by assumption))).h4.2 (MA5.out.step (SZ.bel (by assumption))).h7.1 (MA5.out.step (SZ.bel (by assumption))).h7.2 HL.out).mono ?_); rintro e wc ⟨vL, rfl, hR, hbc⟩; obtain ⟨AL, cL, rfl⟩ := Kd.R_slice hR; have sn := SZ.keep (by assumption) hbc; clear hR hbc)
            | (go_at_call 11; (with_reducible refine (same_calls r c l2 LR l4 r' c' l7 A2 ac2 FA fA A4 ac4 A7 ac7 B2 bc2 FB fB B4 bc4 B7 bc7 _ (MA5.out.step (SZ.bel (by assumption))).h2 XA.out (MA5.out.step (SZ.bel (by assumption))).h4 (MA5.out.step (SZ.bel (by assumption))).h7 (MB5.out.step (SZ.bel (by assumption))).h2 XB.out (MB5.out.step (SZ.bel (by assumption))).h4 (MB5.out.step (SZ.bel (by assumption))).h7 NLR.out.1 NLR.out.2 N2.out N4.out N7.out).mono ?_); rintro e wc ⟨rfl, hbc⟩; have sn := SZ.keep (by assumption) hbc; clear hbc)
            | (go_at_call 12; (with_reducible refine (full_calls' LR r c l2 l3 l4 r' c' l7 A2 ac2 A3 ac3 A4 ac4 A7 ac7 _ (MA5.out.step (SZ.bel (by assumption))).h3.1 M3.out HLR.out).mono ?_); rintro e wc ⟨FA, fA, rfl, hC, hf, hbc⟩; have sn := SZ.keep (by assumption) hbc; (try have XB := Aside0.mk (And.intro (Kd.C_below XB.out.1 hbc) XB.out.2)); have XA := Aside0.mk (And.intro hC hf); clear hC hf hbc)
            | (go_at_call 12; (with_reducible refine (full_calls' LR r c l2 l3 l4 r' c' l7 B2 bc2 B3 bc3 B4 bc4 B7 bc7 _ (MB5.out.step (SZ.bel (by assumption))).h3.1 M3.out HLR.out).mono ?_); rintro e wc ⟨FB, fB, rfl, hC, hf, hbc⟩; have sn := SZ.keep (by assumption) hbc; (try have XA := Aside0.mk (And.intro (Kd.C_below XA.out.1 hbc) XA.out.2)); have XB := Aside0.mk (And.intro hC hf); clear hC hf hbc)
            | (go_at_call 10; (with_reducible refine (tillerlaw06_awake.calls 50 true _ AW.out).mono ?_); rintro e wc ⟨rfl, hbc⟩; have sn := SZ.keep (by assumption) hbc; clear hbc))
          have HS := Aside0.mk (L10' LB.out (SZ.bel sn) BW4.out)
          clear sn sn0 sn1
          go_wp2

          go_ret
          exact ⟨congrArg (fun b => Ending.returned (Value.bool b)) (beq_iff_eq.mpr HLen.out), HS.out⟩
set_option maxHeartbeats 4000000 in
set_option maxRecDepth 100000 in
theorem bounds_bad (a0 a1 a2 a3 a4 sd er : Int) (K : Nat) (w : World) (hM : model_Make.f K a0 a1 a2 a3 a4 sd = some (0, 0, [], [], [], 0, 0, [], er)) (he : er ≠ 0) :
    Calls Try.prog 3 #[.agg (CF a0 a1 a2 a3 a4), .int .u64 sd] w fun e w' => e = .returned (.bool true) ∧ Below w.heap.size w w' := by
  have HM := Aside0.mk hM
  have d1 : (er != 0) = true := bne_iff_ne.mpr he
  have AW := Aside0.mk awake_true
  have BW := Aside0.mk (((Below.refl w.heap.size w).alloc (Nat.le_refl _) (.cells (CF a0 a1 a2 a3 a4) 23 (0, 0))))
  have KC := Aside0.mk (blk_new w (.cells (CF a0 a1 a2 a3 a4) 23 (0, 0)))
  clear hM he
  go_enter Try.func3, Try.ntmps3
  have x0 := blk_cell KC.out 0
  have x1 := blk_cell KC.out 1
  have x2 := blk_cell KC.out 2
  have x3 := blk_cell KC.out 3
  have x4 := blk_cell KC.out 4
  simp [CF] at x0 x1 x2 x3 x4
  go_wp2_with (first
    | (go_at_call 10; refine (tillerlaw06_awake.calls 50 true _ AW.out).mono ?_; rintro e w5 ⟨rfl, hb⟩; have BW5 := Aside0.mk (BW4.out.trans (hb.mono BW4.out.size)); clear hb)
    | (go_at_call 9; have _t := BW2; go_loud (refine (model_Make.calls K a0 a1 a2 a3 a4 sd 0 0 [] [] [] 0 0 [] er _ HM.out).mono ?_; rintro e w3 ⟨v2, v3, v4, v7, rfl, hr2, hs3, hr4, hr7, hb⟩; obtain ⟨B2, bc2, rfl, e2, h2⟩ := Kd.R_reads hr2; obtain ⟨B3, bc3, rfl, e3, h3⟩ := Kd.S_reads hs3; obtain ⟨B4, bc4, rfl, e4, h4⟩ := Kd.R_reads hr4; obtain ⟨B7, bc7, rfl, e7, h7⟩ := Kd.R_reads hr7; clear hr2 hs3 hr4 hr7 e2 h2 e3 h3 e4 h4 e7 h7); have BW3 := Aside0.mk (BW2.out.trans (hb.mono BW2.out.size)); clear hb)
    | (go_at_call 9; go_loud (refine (model_Make.calls K a0 a1 a2 a3 a4 sd 0 0 [] [] [] 0 0 [] er _ HM.out).mono ?_; rintro e w1 ⟨v2, v3, v4, v7, rfl, hr2, hs3, hr4, hr7, hb⟩; obtain ⟨A2, ac2, rfl, e2, h2⟩ := Kd.R_reads hr2; obtain ⟨A3, ac3, rfl, e3, h3⟩ := Kd.S_reads hs3; obtain ⟨A4, ac4, rfl, e4, h4⟩ := Kd.R_reads hr4; obtain ⟨A7, ac7, rfl, e7, h7⟩ := Kd.R_reads hr7; clear hr2 hs3 hr4 hr7 e2 h2 e3 h3 e4 h4 e7 h7); have KC1 := Aside0.mk (blk_below KC.out hb); have BW1 := Aside0.mk (BW.out.trans (hb.mono BW.out.size)); clear hb; clear x0 x1 x2 x3 x4; have x0 := blk_cell KC1.out 0; have x1 := blk_cell KC1.out 1; have x2 := blk_cell KC1.out 2; have x3 := blk_cell KC1.out 3; have x4 := blk_cell KC1.out 4; simp [CF] at x0 x1 x2 x3 x4)
    | ((with_reducible refine gate_store (t := 30) (p := 5) rfl ?_); go_loud (refine store_new_event (wts 0 0 A2 0 ac2 A3 0 ac3 A4 0 ac4 0 0 A7 0 ac7) rfl rfl rfl rfl rfl (by kernel_rfl) rfl (by simp [Value.oneCell']) ?_); have KC2 := Aside0.mk (blk_alloc KC1.out (.cells (wts 0 0 A2 0 ac2 A3 0 ac3 A4 0 ac4 0 0 A7 0 ac7) 30 (0, 0))); have BW2 := Aside0.mk (below_alloc BW1.out (.cells (wts 0 0 A2 0 ac2 A3 0 ac3 A4 0 ac4 0 0 A7 0 ac7) 30 (0, 0))); generalize w1.alloc (.cells (wts 0 0 A2 0 ac2 A3 0 ac3 A4 0 ac4 0 0 A7 0 ac7) 30 (0, 0)) = w2 at KC2 BW2 ⊢; clear x0 x1 x2 x3 x4; have x0 := blk_cell KC2.out 0; have x1 := blk_cell KC2.out 1; have x2 := blk_cell KC2.out 2; have x3 := blk_cell KC2.out 3; have x4 := blk_cell KC2.out 4; simp [CF] at x0 x1 x2 x3 x4)
    | ((with_reducible refine gate_store (t := 30) (p := 7) rfl ?_); go_loud (refine store_new_event (wts 0 0 B2 0 bc2 B3 0 bc3 B4 0 bc4 0 0 B7 0 bc7) rfl rfl rfl rfl rfl (by kernel_rfl) rfl (by simp [Value.oneCell']) ?_); have BW4 := Aside0.mk (below_alloc BW3.out (.cells (wts 0 0 B2 0 bc2 B3 0 bc3 B4 0 bc4 0 0 B7 0 bc7) 30 (0, 0))); generalize w3.alloc (.cells (wts 0 0 B2 0 bc2 B3 0 bc3 B4 0 bc4 0 0 B7 0 bc7) 30 (0, 0)) = w4 at BW4 ⊢))
  go_ret
  exact ⟨rfl, BW5.out⟩
theorem wz {x : Int} (h1 : -9223372036854775808 ≤ x) (h2 : x ≤ 9223372036854775807) : IntKind.i64.wrap x = x := by rw [i64_w, w64 h1 h2]
theorem blk_mem (d h : Nat) : ∀ (n : Nat) (s : Int), ∀ b ∈ blksOf d h n s, ∃ s', b = blkOf s' d h
  | 0, s, b, hb => by cases hb
  | n + 1, s, b, hb => by
    rcases List.mem_cons.mp hb with rfl | hb
    · exact ⟨s, rfl⟩
    · exact blk_mem d h n _ b hb
theorem blks_length (d h : Nat) : ∀ (n : Nat) (s : Int), (blksOf d h n s).length = n
  | 0, s => rfl
  | n + 1, s => by show (blksOf d h n _).length + 1 = n + 1; rw [blks_length]
theorem gain_bound (s : Int) (n : Nat) : ∀ x ∈ gainL s n, 49152 ≤ x ∧ x < 81920 := by
  intro x hx
  obtain ⟨y, hy, rfl⟩ := List.mem_map.mp hx
  have := rowL_bound (.inr (.inr rfl)) n s y hy
  omega
theorem blk_ok (s : Int) (d h : Nat) (hd : d ≤ 32) (hh : h ≤ 64) : (∀ x ∈ (blkOf s d h).f0 ++ (blkOf s d h).f5, 49152 ≤ x ∧ x < 81920) ∧ (blkOf s d h).f0.length ≤ 100000 ∧ (blkOf s d h).f1.f2.length ≤ 100000 ∧ (blkOf s d h).f2.f2.length ≤ 100000 ∧ (blkOf s d h).f3.f2.length ≤ 100000 ∧ (blkOf s d h).f4.f2.length ≤ 100000 ∧ (blkOf s d h).f5.length ≤ 100000 ∧ (blkOf s d h).f6.f2.length ≤ 100000 ∧ (blkOf s d h).f7.f2.length ≤ 100000 := by
  have h1 : d * d ≤ 1024 := Nat.mul_le_mul hd hd
  have h2 : h * d ≤ 2048 := Nat.mul_le_mul hh hd
  have h3 : d * h ≤ 2048 := Nat.mul_le_mul hd hh
  refine ⟨?_, ?_⟩
  · intro x hx
    rcases List.mem_append.mp hx with hx | hx
    · exact gain_bound _ _ x hx
    · exact gain_bound _ _ x hx
  · simp only [blkOf, gainL_length, rowL_length]
    omega
theorem blk_len (s : Int) (d h : Nat) : blen (cvR (blkOf s d h)) = 2 * d + 4 * (d * d) + 2 * (d * h) := by
  have e : h * d = d * h := Nat.mul_comm _ _
  simp only [blen, mlen, cvR, blkOf, gainL_length, rowL_length, List.map_cons, List.map_nil, List.sum_cons, List.sum_nil]
  omega
theorem blks_sum (d h : Nat) : ∀ (n : Nat) (s : Int), (((blksOf d h n s).map cvR).map blen).sum = n * (2 * d + 4 * (d * d) + 2 * (d * h))
  | 0, s => by simp [blksOf]
  | n + 1, s => by
    show blen (cvR (blkOf s d h)) + (((blksOf d h n _).map cvR).map blen).sum = _
    rw [blks_sum, blk_len]
    generalize 2 * d + 4 * (d * d) + 2 * (d * h) = X
    rw [Nat.succ_mul, Nat.add_comm]
def tillerlaw06_ModelBounds.f (a0 a1 a2 a3 a4 sd : Int) : Option Bool := if 0 ≤ sd ∧ sd < 18446744073709551616 then some true else none
theorem tillerlaw06_ModelBounds.calls (v d hs hid ly sd : Int) (r : Bool) (w : World) (hr_ : Aside0 (r = true)) (h : tillerlaw06_ModelBounds.f v d hs hid ly sd = some r) :
    Calls Try.prog 3 #[.agg #[.int .i64 v, .int .i64 d, .int .i64 hs, .int .i64 hid, .int .i64 ly], .int .u64 sd] w fun e w' => e = .returned (.bool r) ∧ Below w.heap.size w w' := by
  have hr := hr_.out
  subst hr
  clear h
  by_cases c1 : shp v d hs hid ly = 0
  · obtain ⟨⟨v0, v1⟩, ⟨d0, d1⟩, _, ⟨i0, i1⟩, ⟨l0, l1⟩⟩ := shp_ok c1
    obtain ⟨v, rfl⟩ : ∃ n : Nat, v = (n : Int) := ⟨v.toNat, (Int.toNat_of_nonneg (by omega)).symm⟩
    obtain ⟨d, rfl⟩ : ∃ n : Nat, d = (n : Int) := ⟨d.toNat, (Int.toNat_of_nonneg (by omega)).symm⟩
    obtain ⟨hid, rfl⟩ : ∃ n : Nat, hid = (n : Int) := ⟨hid.toNat, (Int.toNat_of_nonneg (by omega)).symm⟩
    obtain ⟨ly, rfl⟩ : ∃ n : Nat, ly = (n : Int) := ⟨ly.toNat, (Int.toNat_of_nonneg (by omega)).symm⟩
    have m1 : v * d ≤ 64 * 32 := Nat.mul_le_mul (show v ≤ 64 by omega) (show d ≤ 32 by omega)
    have m2 : d * d ≤ 32 * 32 := Nat.mul_le_mul (show d ≤ 32 by omega) (show d ≤ 32 by omega)
    have m3 : d * hid ≤ 32 * 64 := Nat.mul_le_mul (show d ≤ 32 by omega) (show hid ≤ 64 by omega)
    refine bounds_calls v d hs hid ly sd _ _ _ _ _ _ _ _ 5000 w (make_ok 5000 v d hid ly hs sd (Nat.le_refl _) c1) (rowL_bound (.inl rfl) _ _) ?_ (by rw [blks_length]; omega) (by rw [rowL_length]; omega) (by rw [gainL_length]; omega) (by rw [rowL_length]; omega) ?_
    · intro b hb
      obtain ⟨s', rfl⟩ := blk_mem _ _ _ _ b hb
      exact blk_ok s' d hid (by omega) (by omega)
    · obtain ⟨L, h1, h2⟩ := list_eq 5000 (v : Int) (d : Int) (rowL sd 131072 (v * d)) ((blksOf d hid ly (stI sd (v * d))).map cvR) (gainL (blksSt d hid ly (stI sd (v * d))) d) (v : Int) (d : Int) (rowL (stI (blksSt d hid ly (stI sd (v * d))) d) 65536 (v * d)) (by rw [List.length_map, blks_length]; omega) (fun b hb => by
          obtain ⟨b', hb', rfl⟩ := List.mem_map.mp hb
          obtain ⟨s', rfl⟩ := blk_mem _ _ _ _ b' hb'
          rw [blk_len]
          omega) (by rw [rowL_length]; omega) (by rw [gainL_length]; omega) (by rw [rowL_length]; omega) (by rw [List.length_map, blks_length]; omega)
      refine ⟨L, 5000, h1, ?_⟩
      rw [h2, blks_sum, rowL_length, gainL_length, rowL_length]
      have p1 : (2 : Int) * v * d = 2 * ((v * d : Nat) : Int) := by push_cast; rw [Int.mul_assoc]
      have p2 : (4 : Int) * d * d = 4 * ((d * d : Nat) : Int) := by push_cast; rw [Int.mul_assoc]
      have p3 : (2 : Int) * d * hid = 2 * ((d * hid : Nat) : Int) := by push_cast; rw [Int.mul_assoc]
      have p4 : (ly : Int) * (2 * d + 4 * ((d * d : Nat) : Int) + 2 * ((d * hid : Nat) : Int)) = ((ly * (2 * d + 4 * (d * d) + 2 * (d * hid)) : Nat) : Int) := by push_cast; rfl
      have m4 : ly * (2 * d + 4 * (d * d) + 2 * (d * hid)) ≤ 4 * (2 * 32 + 4 * 1024 + 2 * 2048) := Nat.mul_le_mul (by omega) (by omega)
      obtain ⟨T, hT⟩ : ∃ T, ly * (2 * d + 4 * (d * d) + 2 * (d * hid)) = T := ⟨_, rfl⟩
      obtain ⟨A, hA⟩ : ∃ A, v * d = A := ⟨_, rfl⟩
      obtain ⟨B, hB⟩ : ∃ B, d * d = B := ⟨_, rfl⟩
      obtain ⟨C, hC⟩ : ∃ C, d * hid = C := ⟨_, rfl⟩
      rw [hT] at p4 m4
      rw [hA] at p1 m1
      rw [hB] at p2 p4 m2
      rw [hC] at p3 p4 m3
      rw [hT, hA]
      rw [wz (x := 2 * (v : Int)) (by omega) (by omega), wz (x := 4 * (d : Int)) (by omega) (by omega), wz (x := 2 * (d : Int)) (by omega) (by omega), p1, p2, p3, wz (x := 2 * (A : Int)) (by omega) (by omega), wz (x := 4 * (B : Int)) (by omega) (by omega), wz (x := 2 * (C : Int)) (by omega) (by omega), wz (x := 2 * (d : Int) + 4 * (B : Int)) (by omega) (by omega), wz (x := 2 * (d : Int) + 4 * (B : Int) + 2 * (C : Int)) (by omega) (by omega), p4, wz (x := (T : Int)) (by omega) (by omega), wz (x := 2 * (A : Int) + (d : Int)) (by omega) (by omega), wz (by omega) (by omega)]
      push_cast
      omega
  · exact bounds_bad v d hs hid ly sd _ 5000 w (make_bad 4998 v d hs hid ly sd c1) c1
end Go.Proofs.Ytdlhodbokkaghaa.OBounds
