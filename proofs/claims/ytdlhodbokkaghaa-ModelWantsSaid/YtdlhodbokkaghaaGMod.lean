/- Models that are laid anew, block by block: what Told, Of and Copy share. -/
import Derived.Test.YtdlhodbokkaghaaGQx8
import Derived.Test.YtdlhodbokkaghaaGQx11
import Derived.Test.YtdlhodbokkaghaaGCheck
import Derived.Test.YtdlhodbokkaghaaWBoxRow
set_option linter.unusedVariables false
set_option linter.unusedSimpArgs false
namespace Go.Proofs.Ytdlhodbokkaghaa.GQ
open Go.RowKit Go.Proofs.YtdlhodbokkaghaaW.PrintWords Go.Proofs.YtdlhodbokkaghaaW.PrintLast Go.Proofs.YtdlhodbokkaghaaW.PrintMore Go.Proofs.Ytdlhodbokkaghaa.U
abbrev NumT : Nat := 35
theorem Rows.at_ {n : Nat} {W : World} {E : List (Value × List Int)} {v : Value} {l : List Int} (h : Rows n W E) (hm : (v, l) ∈ E) : kI.R NumT W n (fun _ => True) v l := h _ hm
/-- Ahead of the new model's own box: what came, the result, the rows made so far. -/
structure T0 (ts td : Nat) (w W : World) (cin : Array Value) (E : List (Value × List Int)) : Prop where
  a : W.heap[w.heap.size]? = some (.cells cin ts (0, 0))
  r : W.heap[w.heap.size + 1]? = some (.cells Z30 td (0, 0))
  e : Rows w.heap.size W E
  bel : Below w.heap.size w W
theorem T0.start {ts td : Nat} {w : World} {cin : Array Value} : T0 ts td w ((w.alloc (.cells cin ts (0, 0))).alloc (.cells Z30 td (0, 0))) cin [] := by
  have e1 : (w.alloc (.cells cin ts (0, 0))).heap.size = w.heap.size + 1 := World.size_alloc _ _
  have h := blk_new (w.alloc (.cells cin ts (0, 0))) (.cells Z30 td (0, 0))
  rw [e1] at h
  exact ⟨blk_alloc (blk_new _ _) _, h, fun p hp => (by cases hp), (below_alloc (Below.refl _ _) _).alloc (by rw [e1]; omega) _⟩
theorem T0.step {ts td : Nat} {w W W' : World} {cin : Array Value} {E : List (Value × List Int)} (h : T0 ts td w W cin E) (hb : Below W.heap.size W W') : T0 ts td w W' cin E := ⟨blk_below h.a hb, blk_below h.r hb, h.e.step hb, h.bel.trans (hb.mono h.bel.size)⟩
theorem T0.made {ts td : Nat} {w W W' : World} {cin : Array Value} {E : List (Value × List Int)} {v : Value} {l : List Int} (h : T0 ts td w W cin E) (hb : Below W.heap.size W W') (hr : kI.R NumT W' W.heap.size (fun _ => True) v l) : T0 ts td w W' cin (E ++ [(v, l)]) :=
  ⟨blk_below h.a hb, blk_below h.r hb, (h.e.step hb).snoc (Kd.R_lower hr h.bel.size), h.bel.trans (hb.mono h.bel.size)⟩
/-- Behind it: the new model's box (block gO), its rows E (below n0), its blocks' row vB (from n0 on). -/
structure Td {β : Type} (kD : Kd β) (ts td tb : Nat) (w W : World) (gO : Nat) (cin cout : Array Value) (E : List (Value × List Int)) (n0 : Nat) (vB : Value) (xs : List β) : Prop where
  a : W.heap[w.heap.size]? = some (.cells cin ts (0, 0))
  r : W.heap[w.heap.size + 1]? = some (.cells Z30 td (0, 0))
  o : W.heap[gO]? = some (.cells cout td (0, 0))
  e : Rows w.heap.size W E
  eb : ∀ p ∈ E, ∀ k, p.1.ownBlock = some k → k < n0
  n : kD.R tb W n0 (fun k => n0 ≤ k) vB xs
  lo : w.heap.size + 2 ≤ gO
  hi : gO < n0
  up : n0 ≤ W.heap.size
  bel : Below w.heap.size w W
section
variable {β : Type} {kD : Kd β} {ts td tb : Nat} {w W W' : World} {gO : Nat} {cin cout : Array Value} {E : List (Value × List Int)} {n0 : Nat} {vB v' : Value} {xs xs' : List β}
theorem Td.step (h : Td kD ts td tb w W gO cin cout E n0 vB xs) (hb : Below W.heap.size W W') : Td kD ts td tb w W' gO cin cout E n0 vB xs :=
  ⟨blk_below h.a hb, blk_below h.r hb, blk_below h.o hb, h.e.step hb, h.eb, Kd.R_below h.n hb, h.lo, h.hi, Nat.le_trans h.up hb.size, h.bel.trans (hb.mono h.bel.size)⟩
theorem Td.grown (h : Td kD ts td tb w W gO cin cout E n0 vB xs) (hn : kD.R tb W' n0 (fun k => n0 ≤ k) v' xs') (hb : Below n0 W W') : Td kD ts td tb w W' gO cin cout E n0 v' xs' :=
  have h1 := h.lo
  have h2 := h.hi
  ⟨(hb.block _ (by omega)).trans h.a, (hb.block _ (by omega)).trans h.r, (hb.block _ h2).trans h.o, fun p hp => Kd.R_mono (Kd.R_step (Kd.R_tight rfl (h.e p hp)) (fun k hk _ => hb.block k (h.eb p hp k hk.symm))) (fun _ _ => trivial), h.eb, hn, h1, h2, Nat.le_trans h.up hb.size, h.bel.trans (hb.mono (by omega))⟩
theorem Td.put (h : Td kD ts td tb w W gO cin cout E n0 vB xs) (ht : ∀ q, q ∈ NumT :: kI.E → q ≠ td) (j : Nat) (u : Value) : Td kD ts td tb w (W.setCell ⟨gO, j, none⟩ u) gO cin (cout.setIfInBounds j u) E n0 vB xs :=
  have h1 := h.lo
  have h2 := h.hi
  ⟨blk_far (p := ⟨gO, j, none⟩) h.a (show w.heap.size ≠ gO by omega) u, blk_far (p := ⟨gO, j, none⟩) h.r (show w.heap.size + 1 ≠ gO by omega) u, blk_set h.o j u, h.e.set h.o ht j u, h.eb, Kd.R_far (p := ⟨gO, j, none⟩) h.n (fun k hk => show k ≠ gO by omega) u, h1, h2, by rw [World.size_setCell]; exact h.up, h.bel.setCell (p := ⟨gO, j, none⟩) (show w.heap.size ≤ gO by omega) u⟩
/-- A round: the element's box, what its rows hold, the rows made in the round. -/
structure Rg {β : Type} (kD : Kd β) (ts td tb sb : Nat) (w W : World) (gO : Nat) (cin cout : Array Value) (E : List (Value × List Int)) (n0 : Nat) (vB : Value) (xs : List β) (gB : Nat) (bc : Array Value) (nB : Nat) (Ls : List (Option Addr × Nat × List Int)) (L : List (Value × List Int)) : Prop where
  t : Td kD ts td tb w W gO cin cout E n0 vB xs
  b : W.heap[gB]? = some (.cells bc sb (0, 0))
  src : ∀ p ∈ Ls, Kd.C kI W p.1 p.2.2.length p.2.2 ∧ p.2.2.length ≤ p.2.1
  rows : Rows nB W L
  ub : nB ≤ W.heap.size
  lb : n0 ≤ nB
variable {sb gB nB : Nat} {bc : Array Value} {Ls : List (Option Addr × Nat × List Int)} {L : List (Value × List Int)} {v : Value} {l : List Int}
theorem Rg.step (h : Rg kD ts td tb sb w W gO cin cout E n0 vB xs gB bc nB Ls L) (hb : Below W.heap.size W W') : Rg kD ts td tb sb w W' gO cin cout E n0 vB xs gB bc nB Ls L :=
  ⟨h.t.step hb, blk_below h.b hb, fun p hp => CB (h.src p hp) hb, h.rows.step hb, Nat.le_trans h.ub hb.size, h.lb⟩
theorem Rg.made (h : Rg kD ts td tb sb w W gO cin cout E n0 vB xs gB bc nB Ls L) (hb : Below W.heap.size W W') (hr : kI.R NumT W' W.heap.size (fun _ => True) v l) : Rg kD ts td tb sb w W' gO cin cout E n0 vB xs gB bc nB Ls (L ++ [(v, l)]) :=
  ⟨h.t.step hb, blk_below h.b hb, fun p hp => CB (h.src p hp) hb, (h.rows.step hb).snoc (Kd.R_lower hr h.ub), Nat.le_trans h.ub hb.size, h.lb⟩
theorem Rg.row (h : Rg kD ts td tb sb w W gO cin cout E n0 vB xs gB bc nB Ls L) (hm : (v, l) ∈ L) : kI.R NumT W n0 (fun k => nB ≤ k) v l := own_row (h.rows _ hm) h.lb
end
/-- The cells that a round's region reads. -/
abbrev SQ (gO gB : Nat) (vB u0 u1 u2 u3 u4 u5 u6 u7 u8 u9 u10 u11 u12 u13 u14 u15 u16 u17 u18 u19 : Value) (W : World) : Prop := W.cell? ⟨gO, 3, none⟩ = some vB ∧ W.cell? ⟨gB, 0, none⟩ = some u0 ∧ W.cell? ⟨gB, 1, none⟩ = some u1 ∧ W.cell? ⟨gB, 2, none⟩ = some u2 ∧ W.cell? ⟨gB, 3, none⟩ = some u3 ∧ W.cell? ⟨gB, 4, none⟩ = some u4 ∧ W.cell? ⟨gB, 5, none⟩ = some u5 ∧ W.cell? ⟨gB, 6, none⟩ = some u6 ∧ W.cell? ⟨gB, 7, none⟩ = some u7 ∧ W.cell? ⟨gB, 8, none⟩ = some u8 ∧ W.cell? ⟨gB, 9, none⟩ = some u9 ∧ W.cell? ⟨gB, 10, none⟩ = some u10 ∧ W.cell? ⟨gB, 11, none⟩ = some u11 ∧ W.cell? ⟨gB, 12, none⟩ = some u12 ∧ W.cell? ⟨gB, 13, none⟩ = some u13 ∧ W.cell? ⟨gB, 14, none⟩ = some u14 ∧ W.cell? ⟨gB, 15, none⟩ = some u15 ∧ W.cell? ⟨gB, 16, none⟩ = some u16 ∧ W.cell? ⟨gB, 17, none⟩ = some u17 ∧ W.cell? ⟨gB, 18, none⟩ = some u18 ∧ W.cell? ⟨gB, 19, none⟩ = some u19
theorem SQ.of {W : World} {gO gB td sb : Nat} {c0 c1 c2 c4 c5 c6 c7 vB u0 u1 u2 u3 u4 u5 u6 u7 u8 u9 u10 u11 u12 u13 u14 u15 u16 u17 u18 u19 : Value} (h1 : W.heap[gO]? = some (.cells #[c0, c1, c2, vB, c4, c5, c6, c7] td (0, 0))) (h2 : W.heap[gB]? = some (.cells #[u0, u1, u2, u3, u4, u5, u6, u7, u8, u9, u10, u11, u12, u13, u14, u15, u16, u17, u18, u19] sb (0, 0))) : SQ gO gB vB u0 u1 u2 u3 u4 u5 u6 u7 u8 u9 u10 u11 u12 u13 u14 u15 u16 u17 u18 u19 W :=
  ⟨blk_cell h1 3, blk_cell h2 0, blk_cell h2 1, blk_cell h2 2, blk_cell h2 3, blk_cell h2 4, blk_cell h2 5, blk_cell h2 6, blk_cell h2 7, blk_cell h2 8, blk_cell h2 9, blk_cell h2 10, blk_cell h2 11, blk_cell h2 12, blk_cell h2 13, blk_cell h2 14, blk_cell h2 15, blk_cell h2 16, blk_cell h2 17, blk_cell h2 18, blk_cell h2 19⟩
/-- The cells of a model's box. -/
abbrev SM (w0 : World) (g : Nat) (t : Nat) (u0 u1 u2 u3 u4 u5 u6 u7 : Value) (W : World) : Prop := W.cell? ⟨g, 0, none⟩ = some u0 ∧ W.cell? ⟨g, 1, none⟩ = some u1 ∧ W.cell? ⟨g, 2, none⟩ = some u2 ∧ W.cell? ⟨g, 3, none⟩ = some u3 ∧ W.cell? ⟨g, 4, none⟩ = some u4 ∧ W.cell? ⟨g, 5, none⟩ = some u5 ∧ W.cell? ⟨g, 6, none⟩ = some u6 ∧ W.cell? ⟨g, 7, none⟩ = some u7 ∧ W.heap[g]? = some (.cells #[u0, u1, u2, u3, u4, u5, u6, u7] t (0, 0)) ∧ Below w0.heap.size w0 W
theorem SM.of {w0 W : World} {g t : Nat} {u0 u1 u2 u3 u4 u5 u6 u7 : Value} (h : W.heap[g]? = some (.cells #[u0, u1, u2, u3, u4, u5, u6, u7] t (0, 0))) (hb : Below w0.heap.size w0 W) : SM w0 g t u0 u1 u2 u3 u4 u5 u6 u7 W := ⟨blk_cell h 0, blk_cell h 1, blk_cell h 2, blk_cell h 3, blk_cell h 4, blk_cell h 5, blk_cell h 6, blk_cell h 7, h, hb⟩
theorem SM.keep {w0 W W' : World} {g t : Nat} {u0 u1 u2 u3 u4 u5 u6 u7 : Value} (h : SM w0 g t u0 u1 u2 u3 u4 u5 u6 u7 W) (hb : Below W.heap.size W W') : SM w0 g t u0 u1 u2 u3 u4 u5 u6 u7 W' := SM.of (blk_below h.2.2.2.2.2.2.2.2.1 hb) (h.2.2.2.2.2.2.2.2.2.trans (hb.mono h.2.2.2.2.2.2.2.2.2.size))
theorem SM.bel {w0 W : World} {g t : Nat} {u0 u1 u2 u3 u4 u5 u6 u7 : Value} (h : SM w0 g t u0 u1 u2 u3 u4 u5 u6 u7 W) : Below w0.heap.size w0 W := h.2.2.2.2.2.2.2.2.2
/-- From the box's whole store on. -/
theorem T0.own {β : Type} {kD : Kd β} {ts td tb : Nat} {w W : World} {cin cz cout : Array Value} {E : List (Value × List Int)} {gO : Nat} (h : T0 ts td w W cin E) (ho : W.heap[gO]? = some (.cells cz td (0, 0))) (hlo : w.heap.size + 2 ≤ gO) (ht : ∀ q, q ∈ NumT :: kI.E → q ≠ td) : Td kD ts td tb w (W.setRow gO cout) gO cin cout E W.heap.size (.slice none 0 0) [] := by
  have hk := keep_setRow W gO cout
  have hs : (W.setRow gO cout).heap.size = W.heap.size := setRow_size W gO cout
  refine ⟨blk_setRow_far h.a (by omega) _, blk_setRow_far h.r (by omega) _, blk_setRow ho _, h.e.call ho ht hk, fun p hp k hk => Kd.R_lt (h.e p hp) k hk, Kd.R_nil _ _ _ _ _, hlo, blk_lt ho, Nat.le_of_eq hs.symm, ?_⟩
  have hb : Below gO W (W.setRow gO cout) := ⟨rfl, rfl, rfl, Nat.le_of_eq hs.symm, fun k hk => setRow_other W gO k cout (by omega)⟩
  exact h.bel.trans (hb.mono (by omega))
theorem SM8 {W : World} {g t : Nat} {u0 u1 u2 u3 u4 u5 u6 u7 : Value} (h : W.heap[g]? = some (.cells #[u0, u1, u2, u3, u4, u5, u6, u7] t (0, 0))) : W.cell? ⟨g, 0, none⟩ = some u0 ∧ W.cell? ⟨g, 1, none⟩ = some u1 ∧ W.cell? ⟨g, 2, none⟩ = some u2 ∧ W.cell? ⟨g, 3, none⟩ = some u3 ∧ W.cell? ⟨g, 4, none⟩ = some u4 ∧ W.cell? ⟨g, 5, none⟩ = some u5 ∧ W.cell? ⟨g, 6, none⟩ = some u6 ∧ W.cell? ⟨g, 7, none⟩ = some u7 := ⟨blk_cell h 0, blk_cell h 1, blk_cell h 2, blk_cell h 3, blk_cell h 4, blk_cell h 5, blk_cell h 6, blk_cell h 7⟩
theorem SQ.of9 {W : World} {gO gB sb : Nat} {vB u0 u1 u2 u3 u4 u5 u6 u7 u8 u9 u10 u11 u12 u13 u14 u15 u16 u17 u18 u19 : Value} (h1 : W.cell? ⟨gO, 3, none⟩ = some vB) (h2 : W.heap[gB]? = some (.cells #[u0, u1, u2, u3, u4, u5, u6, u7, u8, u9, u10, u11, u12, u13, u14, u15, u16, u17, u18, u19] sb (0, 0))) : SQ gO gB vB u0 u1 u2 u3 u4 u5 u6 u7 u8 u9 u10 u11 u12 u13 u14 u15 u16 u17 u18 u19 W :=
  ⟨h1, blk_cell h2 0, blk_cell h2 1, blk_cell h2 2, blk_cell h2 3, blk_cell h2 4, blk_cell h2 5, blk_cell h2 6, blk_cell h2 7, blk_cell h2 8, blk_cell h2 9, blk_cell h2 10, blk_cell h2 11, blk_cell h2 12, blk_cell h2 13, blk_cell h2 14, blk_cell h2 15, blk_cell h2 16, blk_cell h2 17, blk_cell h2 18, blk_cell h2 19⟩
section
variable {β : Type} {kD : Kd β} {ts td tb : Nat} {w W : World} {gO : Nat} {cin cout : Array Value} {n0 n cc : Nat} {vB v2 v4 v7 : Value} {xs : List β} {Z2 Z4 Z7 : List Int} {A : Option Addr}
theorem one8 (h : Td kD ts td tb w W gO cin cout [(v2, Z2), (v4, Z4), (v7, Z7)] n0 vB xs) (r c r' c' : Int) : (#[Value.int .i64 r, .int .i64 c, v2, .slice A n cc, v4, .int .i64 r', .int .i64 c', v7]).all (·.oneCell') = true := by
  obtain ⟨_, _, rfl⟩ := Kd.R_slice (h.e.at_ (v := v2) (l := Z2) (by simp))
  obtain ⟨_, _, rfl⟩ := Kd.R_slice (h.e.at_ (v := v4) (l := Z4) (by simp))
  obtain ⟨_, _, rfl⟩ := Kd.R_slice (h.e.at_ (v := v7) (l := Z7) (by simp))
  simp [Value.oneCell']
theorem Td.fin {cr : Array Value} (h : Td kD ts td tb w W gO cin cout [(v2, Z2), (v4, Z4), (v7, Z7)] n0 vB xs) (ht : ∀ q, q ∈ NumT :: kI.E → q ≠ td) : kI.R NumT (W.setRow (w.heap.size + 1) cr) w.heap.size (fun _ => True) v2 Z2 ∧ kD.R tb (W.setRow (w.heap.size + 1) cr) w.heap.size (fun _ => True) vB xs ∧ kI.R NumT (W.setRow (w.heap.size + 1) cr) w.heap.size (fun _ => True) v4 Z4 ∧ kI.R NumT (W.setRow (w.heap.size + 1) cr) w.heap.size (fun _ => True) v7 Z7 ∧ Below w.heap.size w (W.setRow (w.heap.size + 1) cr) := by
  have hk := keep_setRow W (w.heap.size + 1) cr
  have he := h.e.call h.r ht hk
  have hlo := h.lo
  have hhi := h.hi
  refine ⟨he.at_ (v := v2) (l := Z2) (by simp), Kd.R_lower (Kd.R_mono (Kd.R_keep h.n hk (fun k hk => by omega)) (fun _ _ => trivial)) (by omega), he.at_ (v := v4) (l := Z4) (by simp), he.at_ (v := v7) (l := Z7) (by simp), ?_⟩
  have hs : (W.setRow (w.heap.size + 1) cr).heap.size = W.heap.size := setRow_size W (w.heap.size + 1) cr
  have hb : Below (w.heap.size + 1) W (W.setRow (w.heap.size + 1) cr) := ⟨rfl, rfl, rfl, Nat.le_of_eq hs.symm, fun k hk => setRow_other W (w.heap.size + 1) k cr (by omega)⟩
  exact h.bel.trans (hb.mono (by omega))
end
theorem few_ok (l : List Int) (n : Nat) (hl : l.length < 35184372088832) : tillerlaw03_Few.f l (n : Int) = some (l.take n) := by
  unfold tillerlaw03_Few.f
  by_cases c : (l.length : Int) > (n : Int)
  · rw [if_pos c, if_pos (by omega), if_pos (by omega), Option.bind_some, if_pos (by simp; omega), Int.toNat_natCast, List.nil_append]
  · rw [if_neg c, Option.bind_some, if_pos (by simp; omega), List.nil_append, List.take_of_length_le (by omega)]
theorem few4_ok (r c : Int) (l : List Int) (hl : l.length < 35184372088832) : tillerlaw04_Few.f r c l = some (r, c, l.take 2000) := by
  unfold tillerlaw04_Few.f
  rw [show (2000 : Int) = ((2000 : Nat) : Int) from rfl, few_ok l 2000 hl]
  rfl
theorem num_ok (l : List Int) (hl : l.length < 35184372088832) : api_Num.f l = some l := by
  unfold api_Num.f
  rw [Option.bind_some, if_pos (by simp; omega), List.nil_append]
theorem copyMat_ok (r c : Int) (l : List Int) (hl : l.length < 35184372088832) : model_copyMat.f r c l = some (r, c, l) := by
  unfold model_copyMat.f
  rw [num_ok l hl]
  rfl
section
variable {P : Program} {ops : Array Oper} {o : Oper} {a : Act} {Q : Exit → Act → World → Prop} {K : Act → World → Prop}
/-- A whole value into a box that is known, at a step of a region. -/
theorem store_box_step {W : World} {t t' : TypeId} {p : Tmp} {v : Operand} {g : Nat} {c : Array Value} (c' : Array Value) (hw : Region.wanted o (yielded ops a.tmps) = true) (ho : o.op = .store t (.tmp p) v) (hN : o.dst = none) (hp : a.eval (.tmp p) = .pointer (some ⟨g, 0, none⟩)) (hv : a.eval v = .agg c') (hb : W.heap[g]? = some (.cells c t' (0, 0))) (hi : (P.info? t).map (·.size) = some c'.size) (hs : c.size = c'.size) (h1 : c'.all (·.oneCell') = true)
    (h : K a (W.setRow g c')) : if Region.wanted o (yielded ops a.tmps) = true then Oper.wp P o a W K Q else K (a.put none undef) W := by
  refine skip_ hw hN ?_ h
  have hrun := run_storeVar_row (P := P) W g t' t c c' hb hi hs h1
  unfold execOp
  simp only [ho, hp, hv, Instr.storeAt, Instr.sureAddr, Sem.run_bind, Sem.run_pure, Result.andThen_ok, hrun]
end
/-- All of a block's rows, cut. -/
def lensB (a b : Nat) (x0 x1 x2 x3 x4 x5 x6 x7 : List Int) : Prop := x0.length < 35184372088832 ∧ x1.length < 35184372088832 ∧ x2.length < 35184372088832 ∧ x3.length < 35184372088832 ∧ x4.length < 35184372088832 ∧ x5.length < 35184372088832 ∧ x6.length < 35184372088832 ∧ x7.length < 35184372088832
end Go.Proofs.Ytdlhodbokkaghaa.GQ
