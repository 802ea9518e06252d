/- model.Make, walked by hand. -/
import Derived.Test.YtdlhodbokkaghaaGMakeF
import Derived.Deep.WholeRow
set_option linter.unusedVariables false
set_option linter.unusedSimpArgs false
namespace Go.Proofs.Ytdlhodbokkaghaa.GQ
open Go.RowKit Go.Proofs.YtdlhodbokkaghaaW.PrintWords Go.Proofs.YtdlhodbokkaghaaW.PrintLast Go.Proofs.YtdlhodbokkaghaaW.PrintMore
/-- Rows of numbers that were laid from block n on. -/
def Rows (n : Nat) (W : World) (L : List (Value × List Int)) : Prop := ∀ p ∈ L, kI.R 35 W n (fun _ => True) p.1 p.2
/-- A round of Make: its boxes, the rows of old (told from block n on as the round's), and the round's own rows L. -/
structure Rd (w W : World) (cf : Array Value) (gm gw : Nat) (s : Int) (wc : Array Value) (E : List (Value × List Int)) (n : Nat) (vB : Value) (xs : List BK) (L : List (Value × List Int)) : Prop where
  bf : BF w W cf gm gw s wc
  e : Rows w.heap.size W E
  sb : Kd.S kB 37 W w.heap.size (fun k => k < n ∧ ∀ p ∈ E, some k ≠ p.1.ownBlock) vB xs
  rows : Rows n W L
  lo : w.heap.size ≤ n
  hi : gw < n
  eb : ∀ p ∈ E, ∀ k, p.1.ownBlock = some k → k < n
theorem Rows.step {n : Nat} {W W' : World} {L : List (Value × List Int)} (h : Rows n W L) (hb : Below W.heap.size W W') : Rows n W' L := fun p hp => Kd.R_below (h p hp) hb
theorem Rows.set {n : Nat} {W : World} {L : List (Value × List Int)} (h : Rows n W L) {g t : Nat} {cells : Array Value} (hb : W.heap[g]? = some (.cells cells t (0, 0))) (ht : ∀ q, q ∈ 35 :: kI.E → q ≠ t) (j : Nat) (u : Value) : Rows n (W.setCell ⟨g, j, none⟩ u) L := fun p hp => Kd.R_set (h p hp) hb ht j u
theorem Rows.call {n g t : Nat} {W W' : World} {cells : Array Value} {L : List (Value × List Int)} (h : Rows n W L) (hb : W.heap[g]? = some (.cells cells t (0, 0))) (ht : ∀ q, q ∈ 35 :: kI.E → q ≠ t) (hk : KeepBut W W' g none) : Rows n W' L := fun p hp => Kd.R_mono (Kd.R_keep (Kd.R_types (h p hp) hb ht) hk (fun k hk => hk.2)) (fun k hk => hk.1)
theorem Rows.lower {n n' : Nat} {W : World} {L : List (Value × List Int)} (h : Rows n W L) (hn : n' ≤ n) : Rows n' W L := fun p hp => Kd.R_lower (h p hp) hn
theorem Rows.snoc {n : Nat} {W : World} {L : List (Value × List Int)} {v : Value} {l : List Int} (h : Rows n W L) (hv : kI.R 35 W n (fun _ => True) v l) : Rows n W (L ++ [(v, l)]) := fun p hp => by
  rcases List.mem_append.mp hp with hp | hp
  · exact h p hp
  · rw [List.mem_singleton.mp hp]; exact hv
theorem Rd.step {w W W' : World} {cf wc : Array Value} {gm gw n : Nat} {s : Int} {E L : List (Value × List Int)} {vB : Value} {xs : List BK} (h : Rd w W cf gm gw s wc E n vB xs L) (hb : Below W.heap.size W W') : Rd w W' cf gm gw s wc E n vB xs L :=
  ⟨h.bf.step hb, h.e.step hb, Kd.S_below h.sb hb, h.rows.step hb, h.lo, h.hi, h.eb⟩
/-- A row is made. -/
theorem Rd.made {w W W' : World} {cf wc : Array Value} {gm gw n : Nat} {s s' : Int} {E L : List (Value × List Int)} {vB v : Value} {xs : List BK} {l : List Int} (h : Rd w W cf gm gw s wc E n vB xs L) (hn : n ≤ W.heap.size) (hr : kI.R 35 W' W.heap.size (fun _ => True) v l) (hi : IsS67 w W' gm s') (hb : Below w.heap.size w W') (hk : KeepBut W W' gm none) : Rd w W' cf gm gw s' wc E n vB xs (L ++ [(v, l)]) :=
  ⟨h.bf.call hk hi hb, h.e.call h.bf.m.1 (by decide) hk, Kd.S_mono (Kd.S_keep (Kd.S_types h.sb h.bf.m.1 (by decide)) hk (fun k hk => hk.2)) (fun k hk => hk.1), (h.rows.call h.bf.m.1 (by decide) hk).snoc (Kd.R_lower hr hn), h.lo, h.hi, h.eb⟩
/-- A store into the block under way. -/
theorem Rd.put {w W : World} {cf wc bc : Array Value} {gm gw n g : Nat} {s : Int} {E L : List (Value × List Int)} {vB : Value} {xs : List BK} (h : Rd w W cf gm gw s wc E n vB xs L) (hg : W.heap[g]? = some (.cells bc 37 (0, 0))) (hn : n ≤ g) (j : Nat) (u : Value) : Rd w (W.setCell ⟨g, j, none⟩ u) cf gm gw s wc E n vB xs L :=
  ⟨h.bf.far g j u (by have := h.hi; omega), h.e.set hg (by decide) j u, Kd.S_far h.sb (fun k hk => by have := hk.1; show k ≠ g; omega) u, h.rows.set hg (by decide) j u, h.lo, h.hi, h.eb⟩
/-- A store into the numbers under way. -/
theorem Rd.putw {w W : World} {cf wc : Array Value} {gm gw n : Nat} {s : Int} {E L : List (Value × List Int)} {vB : Value} {xs : List BK} (h : Rd w W cf gm gw s wc E n vB xs L) (j : Nat) (u : Value) : Rd w (W.setCell ⟨gw, j, none⟩ u) cf gm gw s (wc.setIfInBounds j u) E n vB xs L :=
  ⟨h.bf.put j u, h.e.set h.bf.b (by decide) j u, Kd.S_set h.sb h.bf.b (by decide) j u, h.rows.set h.bf.b (by decide) j u, h.lo, h.hi, h.eb⟩
theorem res_read {w W : World} (h : W.heap[w.heap.size + 1]? = some (.cells Z30 30 (0, 0))) : (W.cell? ⟨w.heap.size + 1, 0, none⟩ = some (.int .i64 0) ∧ W.cell? ⟨w.heap.size + 1, 1, none⟩ = some (.int .i64 0) ∧ W.cell? ⟨w.heap.size + 1, 2, none⟩ = some (.slice none 0 0) ∧ W.cell? ⟨w.heap.size + 1, 3, none⟩ = some (.slice none 0 0) ∧ W.cell? ⟨w.heap.size + 1, 4, none⟩ = some (.slice none 0 0) ∧ W.cell? ⟨w.heap.size + 1, 5, none⟩ = some (.int .i64 0) ∧ W.cell? ⟨w.heap.size + 1, 6, none⟩ = some (.int .i64 0) ∧ W.cell? ⟨w.heap.size + 1, 7, none⟩ = some (.slice none 0 0)) ∧
    W.frozen? ⟨w.heap.size + 1, 0, none⟩ = false ∧ W.frozen? ⟨w.heap.size + 1, 1, none⟩ = false ∧ W.frozen? ⟨w.heap.size + 1, 2, none⟩ = false ∧ W.frozen? ⟨w.heap.size + 1, 3, none⟩ = false ∧ W.frozen? ⟨w.heap.size + 1, 4, none⟩ = false ∧ W.frozen? ⟨w.heap.size + 1, 5, none⟩ = false ∧ W.frozen? ⟨w.heap.size + 1, 6, none⟩ = false ∧ W.frozen? ⟨w.heap.size + 1, 7, none⟩ = false :=
  ⟨⟨blk_cell h 0, blk_cell h 1, blk_cell h 2, blk_cell h 3, blk_cell h 4, blk_cell h 5, blk_cell h 6, blk_cell h 7⟩, blk_frozen h 0, blk_frozen h 1, blk_frozen h 2, blk_frozen h 3, blk_frozen h 4, blk_frozen h 5, blk_frozen h 6, blk_frozen h 7⟩
theorem cfg_read {w W : World} {a0 a1 a2 a3 a4 : Int} (h : W.heap[w.heap.size]? = some (.cells #[.int .i64 a0, .int .i64 a1, .int .i64 a2, .int .i64 a3, .int .i64 a4] 23 (0, 0))) : W.cell? ⟨w.heap.size, 0, none⟩ = some (.int .i64 a0) ∧ W.cell? ⟨w.heap.size, 1, none⟩ = some (.int .i64 a1) ∧ W.cell? ⟨w.heap.size, 3, none⟩ = some (.int .i64 a3) ∧ W.cell? ⟨w.heap.size, 4, none⟩ = some (.int .i64 a4) := by
  have x0 := blk_cell h 0
  have x1 := blk_cell h 1
  have x3 := blk_cell h 3
  have x4 := blk_cell h 4
  exact ⟨x0, x1, x3, x4⟩
theorem BF.start {w w1 w2 : World} {cf wc : Array Value} {s s' : Int} (kc : w1.heap[w.heap.size]? = some (.cells cf 23 (0, 0))) (kr : w1.heap[w.heap.size + 1]? = some (.cells Z30 30 (0, 0))) (hk : KeepBut (w1.alloc (.cells #[.int .u64 s] 67 (0, 0))) w2 w1.heap.size none) (hi : IsS67 w w2 w1.heap.size s') (hb : Below w.heap.size w w2) : BF w (w2.alloc (.cells wc 30 (0, 0))) cf w1.heap.size w2.heap.size s' wc := by
  have h1 := blk_lt kr
  have h2 := hk.1
  rw [World.size_alloc] at h2
  exact ⟨blk_alloc (hk.blk (blk_alloc kc _) (by omega) (by simp)) _, blk_alloc (hk.blk (blk_alloc kr _) (by omega) (by simp)) _, ⟨blk_alloc hi.1 _, hi.2⟩, blk_new _ _, by omega, by omega, hb.alloc hb.size _⟩
/-- The maker's own box. -/
theorem maker_new {w w1 : World} (s : Int) (hb : Below w.heap.size w w1) : IsS67 w (w1.alloc (.cells #[.int .u64 s] 67 (0, 0))) w1.heap.size s := ⟨blk_new _ _, hb.size⟩
abbrev CF (a0 a1 a2 a3 a4 : Int) : Array Value := #[.int .i64 a0, .int .i64 a1, .int .i64 a2, .int .i64 a3, .int .i64 a4]
section
variable {P : Program} {ops : Array Oper} {rest : List Oper} {o : Oper} {a : Act} {Q : Exit → Act → World → Prop}
/-- A whole value into the variable that was made last. -/
theorem store_new_event {W : World} {t : TypeId} {p : Tmp} {v : Operand} {c : Array Value} (c' : Array Value) (hgd : o.guard = none) (ho : o.op = .store t (.tmp p) v) (hN : o.dst = none) (hp : a.eval (.tmp p) = .pointer (some ⟨W.heap.size, 0, none⟩)) (hv : a.eval v = .agg c') (hi : (P.info? t).map (·.size) = some c'.size) (hs : c.size = c'.size) (h1 : c'.all (·.oneCell') = true)
    (h : wpList P ops Q rest a (W.alloc (.cells c' t (0, 0)))) : wpList P ops Q (o :: rest) a (W.alloc (.cells c t (0, 0))) := by
  refine store_event (w1 := W.alloc (.cells c' t (0, 0))) hgd ho hN ?_ (fun w' e => by rw [e]; exact h)
  have hrun := run_storeAt_new (P := P) W t c c' hi hs h1
  unfold execOp
  simp only [ho, hp, hv, Sem.run_bind, Sem.run_pure, Result.andThen_ok, hrun]
/-- A whole variable is read. -/
theorem load_row_event {W : World} {t g N : Nat} {p : Tmp} {d : TypeDesc} (c : Array Value) (hgd : o.guard = none) (ho : o.op = .load t (.tmp p)) (hN : o.dst = some N) (hp : a.eval (.tmp p) = .pointer (some ⟨g, 0, none⟩)) (hb : W.heap[g]? = some (.cells c t (0, 0))) (hu : P.underlying t = some d) (hd : (match d with | .struct _ | .array _ _ => true | _ => false) = true) (hi : (P.info? t).map (·.size) = some c.size)
    (h : wpList P ops Q rest (a.put o.dst (.agg c)) W) : wpList P ops Q (o :: rest) a W := by
  refine Kd.event_run (v := .agg c) (w1 := W) hgd ?_ h
  have hrun := run_loadVar_row (P := P) W g t t c (0, 0) d hb hu hd hi
  unfold execOp
  simp only [ho, hp, Instr.loadAt, Instr.sureAddr, Sem.run_bind, Sem.run_pure, Result.andThen_ok, hrun]
end
/-- What a block's numbers are made of. -/
theorem mkBlock_some {k : Nat} {s d h s' : Int} {b : BK} (e : mkBlock k s d h = some (b, s')) : ∃ (la : List Int) (sa : Int) (q1 q2 : Int) (lq : List Int) (sq u1 u2 : Int) (lu : List Int) (su v1 v2 : Int) (lv : List Int) (sv o1 o2 : Int) (lo : List Int) (so : Int) (lb : List Int) (sb x1 x2 : Int) (lx : List Int) (sx y1 y2 : Int) (ly : List Int),
    model_maker_gains.f k s d = some (la, sa) ∧ model_maker_side.f k sa d d 65536 = some (q1, q2, lq, sq) ∧ model_maker_side.f k sq d d 65536 = some (u1, u2, lu, su) ∧ model_maker_side.f k su d d 65536 = some (v1, v2, lv, sv) ∧ model_maker_side.f k sv d d 65536 = some (o1, o2, lo, so) ∧ model_maker_gains.f k so d = some (lb, sb) ∧ model_maker_side.f k sb h d 65536 = some (x1, x2, lx, sx) ∧ model_maker_side.f k sx d h 65536 = some (y1, y2, ly, s') ∧
    b = ⟨la, ⟨q1, q2, lq⟩, ⟨u1, u2, lu⟩, ⟨v1, v2, lv⟩, ⟨o1, o2, lo⟩, lb, ⟨x1, x2, lx⟩, ⟨y1, y2, ly⟩⟩ := by
  unfold mkBlock at e
  obtain ⟨⟨la, sa⟩, h1, e⟩ := Option.bind_eq_some_iff.mp e
  obtain ⟨⟨q1, q2, lq, sq⟩, h2, e⟩ := Option.bind_eq_some_iff.mp e
  obtain ⟨⟨u1, u2, lu, su⟩, h3, e⟩ := Option.bind_eq_some_iff.mp e
  obtain ⟨⟨v1, v2, lv, sv⟩, h4, e⟩ := Option.bind_eq_some_iff.mp e
  obtain ⟨⟨o1, o2, lo, so⟩, h5, e⟩ := Option.bind_eq_some_iff.mp e
  obtain ⟨⟨lb, sb⟩, h6, e⟩ := Option.bind_eq_some_iff.mp e
  obtain ⟨⟨x1, x2, lx, sx⟩, h7, e⟩ := Option.bind_eq_some_iff.mp e
  obtain ⟨⟨y1, y2, ly, sy⟩, h8, e⟩ := Option.bind_eq_some_iff.mp e
  simp only [Option.some.injEq, Prod.mk.injEq] at e
  obtain ⟨rfl, rfl⟩ := e
  exact ⟨la, sa, q1, q2, lq, sq, u1, u2, lu, su, v1, v2, lv, sv, o1, o2, lo, so, lb, sb, x1, x2, lx, sx, y1, y2, ly, h1, h2, h3, h4, h5, h6, h7, h8, rfl⟩
theorem Rd.start {w W : World} {cf wc : Array Value} {gm gw n : Nat} {s : Int} {v : Value} {l : List Int} (hb : BF w W cf gm gw s wc) (hr : kI.R 35 W n (fun _ => True) v l) (hn : w.heap.size ≤ n) : Rd w W cf gm gw s wc [(v, l)] W.heap.size (.slice none 0 0) [] [] :=
  ⟨hb, fun p hp => by rw [List.mem_singleton.mp hp]; exact Kd.R_lower hr hn, Kd.S_bare (Kd.R_nil _ _ _ _ _), fun p hp => (by cases hp), hb.bel.size, hb.gw_lt, fun p hp => by rw [List.mem_singleton.mp hp]; exact Kd.R_lt hr⟩
/-- A new round. -/
theorem Rd.head {w W : World} {cf wc : Array Value} {gm gw n : Nat} {s : Int} {E L : List (Value × List Int)} {vB : Value} {xs : List BK} (h : Rd w W cf gm gw s wc E n vB xs L) : Rd w W cf gm gw s wc E W.heap.size vB xs [] :=
  ⟨h.bf, h.e, Kd.S_mono (Kd.S_bound h.sb) (fun k hk => ⟨hk.2.2.1, hk.1.2⟩), fun p hp => (by cases hp), h.bf.bel.size, h.bf.gw_lt, fun p hp => Kd.R_lt (h.e p hp)⟩
theorem BF.grown {w W W' : World} {cf wc : Array Value} {gm gw : Nat} {s : Int} {row : Option Nat} (h : BF w W cf gm gw s wc) (hg : W.grownBy W' row) (hc : some w.heap.size ≠ row) (hr : some (w.heap.size + 1) ≠ row) (hm : some gm ≠ row) (hw : some gw ≠ row) (hb : Below w.heap.size w W') : BF w W' cf gm gw s wc :=
  ⟨blk_grown h.c hg hc, blk_grown h.r hg hr, ⟨blk_grown h.m.1 hg hm, h.m.2⟩, blk_grown h.b hg hw, h.lo, h.mw, hb⟩
/-- The row of blocks has grown. -/
theorem Rd.grown {w W W' : World} {cf wc : Array Value} {gm gw n : Nat} {s : Int} {E L : List (Value × List Int)} {vB v' : Value} {xs xs' : List BK} (h : Rd w W cf gm gw s wc E n vB xs L) (hs : Kd.S kB 37 W' w.heap.size (fun k => ∀ p ∈ E, some k ≠ p.1.ownBlock) v' xs') (hb : Below w.heap.size w W') (hg : W.grownBy W' vB.ownBlock) : Rd w W' cf gm gw s wc E W'.heap.size v' xs' [] :=
  have hb' := h.bf.grown hg (Kd.S_ne h.sb h.bf.c (by decide)) (Kd.S_ne h.sb h.bf.r (by decide)) (Kd.S_ne h.sb h.bf.m.1 (by decide)) (Kd.S_ne h.sb h.bf.b (by decide)) hb
  have he : Rows w.heap.size W' E := fun p hp => Kd.R_over' (h.e p hp) (Kd.S_typed h.sb) (by decide) hg
  ⟨hb', he, Kd.S_mono (Kd.S_bound hs) (fun k hk => ⟨hk.2.2.1, hk.1⟩), fun p hp => (by cases hp), hb.size, hb'.gw_lt, fun p hp => Kd.R_lt (he p hp)⟩
theorem own_row {W : World} {b n : Nat} {v : Value} {l : List Int} (h : kI.R 35 W n (fun _ => True) v l) (hn : b ≤ n) : kI.R 35 W b (fun k => n ≤ k) v l := Kd.R_lower (Kd.R_mono (Kd.R_bound h) (fun k hk => hk.2.1)) hn
/-- A block that is made of rows of one's own. -/
theorem block_own {w W : World} {cf wc : Array Value} {gm gw n : Nat} {s : Int} {E : List (Value × List Int)} {vB va vq vu vv vo vb vx vy : Value} {xs : List BK} {x : BK} (h : Rd w W cf gm gw s wc E n vB xs [(va, x.f0), (vq, x.f1.f2), (vu, x.f2.f2), (vv, x.f3.f2), (vo, x.f4.f2), (vb, x.f5), (vx, x.f6.f2), (vy, x.f7.f2)]) :
    kB.M W w.heap.size (fun k => n ≤ k) x [va, .int .i64 x.f1.f0, .int .i64 x.f1.f1, vq, .int .i64 x.f2.f0, .int .i64 x.f2.f1, vu, .int .i64 x.f3.f0, .int .i64 x.f3.f1, vv, .int .i64 x.f4.f0, .int .i64 x.f4.f1, vo, vb, .int .i64 x.f6.f0, .int .i64 x.f6.f1, vx, .int .i64 x.f7.f0, .int .i64 x.f7.f1, vy] :=
  have r := fun (v : Value) (l : List Int) (hm : (v, l) ∈ [(va, x.f0), (vq, x.f1.f2), (vu, x.f2.f2), (vv, x.f3.f2), (vo, x.f4.f2), (vb, x.f5), (vx, x.f6.f2), (vy, x.f7.f2)]) => own_row (h.rows (v, l) hm) h.lo
  k37_mkM W w.heap.size _ x (r va x.f0 (by simp)) (r vq x.f1.f2 (by simp)) (r vu x.f2.f2 (by simp)) (r vv x.f3.f2 (by simp)) (r vo x.f4.f2 (by simp)) (r vb x.f5 (by simp)) (r vx x.f6.f2 (by simp)) (r vy x.f7.f2 (by simp))
abbrev wcB (m1 m2 : Int) (v vB : Value) : Array Value := #[.int .i64 m1, .int .i64 m2, v, vB, .slice none 0 0, .int .i64 0, .int .i64 0, .slice none 0 0]
abbrev bc0 (v : Value) : Array Value := #[v, .int .i64 0, .int .i64 0, .slice none 0 0, .int .i64 0, .int .i64 0, .slice none 0 0, .int .i64 0, .int .i64 0, .slice none 0 0, .int .i64 0, .int .i64 0, .slice none 0 0, .slice none 0 0, .int .i64 0, .int .i64 0, .slice none 0 0, .int .i64 0, .int .i64 0, .slice none 0 0]
abbrev bcX (v0 : Value) (q1 q2 : Int) (vq : Value) (u1 u2 : Int) (vu : Value) (v1 v2 : Int) (vv : Value) (o1 o2 : Int) (vo v5 : Value) (x1 x2 : Int) (vx : Value) (y1 y2 : Int) (vy : Value) : Array Value := #[v0, .int .i64 q1, .int .i64 q2, vq, .int .i64 u1, .int .i64 u2, vu, .int .i64 v1, .int .i64 v2, vv, .int .i64 o1, .int .i64 o2, vo, v5, .int .i64 x1, .int .i64 x2, vx, .int .i64 y1, .int .i64 y2, vy]
abbrev nilV : Value := .slice none 0 0
abbrev ptrs (g : Nat) : Array Value := #[.pointer (some ⟨g, 1, none⟩), .pointer (some ⟨g, 4, none⟩), .pointer (some ⟨g, 7, none⟩), .pointer (some ⟨g, 10, none⟩)]
theorem ptr_read {W : World} {g p : Nat} (h : W.heap[p]? = some (.cells (ptrs g) 70 (0, 0))) : W.cell? ⟨p, 0, none⟩ = some (.pointer (some ⟨g, 1, none⟩)) ∧ W.cell? ⟨p, 1, none⟩ = some (.pointer (some ⟨g, 4, none⟩)) ∧ W.cell? ⟨p, 2, none⟩ = some (.pointer (some ⟨g, 7, none⟩)) ∧ W.cell? ⟨p, 3, none⟩ = some (.pointer (some ⟨g, 10, none⟩)) :=
  ⟨blk_cell h 0, blk_cell h 1, blk_cell h 2, blk_cell h 3⟩
theorem box3_read {W : World} {g j : Nat} {bc : Array Value} (h : W.heap[g]? = some (.cells bc 37 (0, 0))) : W.cell? ⟨g, j, none⟩ = bc[j]? ∧ W.cell? ⟨g, j + 1, none⟩ = bc[j + 1]? ∧ W.cell? ⟨g, j + 2, none⟩ = bc[j + 2]? ∧ W.frozen? ⟨g, j, none⟩ = false ∧ W.frozen? ⟨g, j + 1, none⟩ = false ∧ W.frozen? ⟨g, j + 2, none⟩ = false := ⟨blk_cell h j, blk_cell h (j + 1), blk_cell h (j + 2), blk_frozen h j, blk_frozen h (j + 1), blk_frozen h (j + 2)⟩
/-- What a round's walk carries: the round's state, the block under way, the row of pointers. -/
structure Sd (w W : World) (cf : Array Value) (gm gw : Nat) (s : Int) (wc : Array Value) (E : List (Value × List Int)) (n : Nat) (vB : Value) (xs : List BK) (L : List (Value × List Int)) (gb : Nat) (bc : Array Value) (gp : Nat) : Prop where
  rd : Rd w W cf gm gw s wc E n vB xs L
  box : W.heap[gb]? = some (.cells bc 37 (0, 0))
  ptr : W.heap[gp]? = some (.cells (ptrs gb) 70 (0, 0))
  nb : n ≤ gb
  bp : gb < gp
theorem Sd.gp_lt {w W : World} {cf wc bc : Array Value} {gm gw n gb gp : Nat} {s : Int} {E L : List (Value × List Int)} {vB : Value} {xs : List BK} (h : Sd w W cf gm gw s wc E n vB xs L gb bc gp) : gp < W.heap.size := blk_lt h.ptr
theorem Sd.made {w W W' : World} {cf wc bc : Array Value} {gm gw n gb gp : Nat} {s s' : Int} {E L : List (Value × List Int)} {vB v : Value} {xs : List BK} {l : List Int} (h : Sd w W cf gm gw s wc E n vB xs L gb bc gp) (hr : kI.R 35 W' W.heap.size (fun _ => True) v l) (hi : IsS67 w W' gm s') (hb : Below w.heap.size w W') (hk : KeepBut W W' gm none) : Sd w W' cf gm gw s' wc E n vB xs (L ++ [(v, l)]) gb bc gp :=
  have h1 := h.rd.bf.mw
  have h2 := h.rd.hi
  have h3 := h.nb
  have h4 := h.bp
  have h5 := h.gp_lt
  ⟨h.rd.made (by omega) hr hi hb hk, hk.blk h.box (by omega) (by simp), hk.blk h.ptr (by omega) (by simp), h3, h4⟩
theorem Sd.put {w W : World} {cf wc bc : Array Value} {gm gw n gb gp : Nat} {s : Int} {E L : List (Value × List Int)} {vB : Value} {xs : List BK} (h : Sd w W cf gm gw s wc E n vB xs L gb bc gp) (j : Nat) (u : Value) : Sd w (W.setCell ⟨gb, j, none⟩ u) cf gm gw s wc E n vB xs L gb (bc.setIfInBounds j u) gp :=
  ⟨h.rd.put h.box h.nb j u, blk_set h.box j u, blk_far (p := ⟨gb, j, none⟩) h.ptr (show gp ≠ gb by have := h.bp; omega) u, h.nb, h.bp⟩
/-- The result's variable is written. -/
def put8 (W : World) (g : Nat) (u0 u1 u2 u3 u4 u5 u6 u7 : Value) : World := (((((((W.setCell ⟨g, 0, none⟩ u0).setCell ⟨g, 1, none⟩ u1).setCell ⟨g, 2, none⟩ u2).setCell ⟨g, 3, none⟩ u3).setCell ⟨g, 4, none⟩ u4).setCell ⟨g, 5, none⟩ u5).setCell ⟨g, 6, none⟩ u6).setCell ⟨g, 7, none⟩ u7
theorem R_put8 {W : World} {g b t : Nat} {ok : Nat → Prop} {c : Array Value} {v : Value} {l : List Int} (h : kI.R 35 W b ok v l) (hb : W.heap[g]? = some (.cells c t (0, 0))) (ht : ∀ q, q ∈ 35 :: kI.E → q ≠ t) (u0 u1 u2 u3 u4 u5 u6 u7 : Value) : kI.R 35 (put8 W g u0 u1 u2 u3 u4 u5 u6 u7) b ok v l :=
  have b0 := blk_set hb 0 u0
  have b1 := blk_set b0 1 u1
  have b2 := blk_set b1 2 u2
  have b3 := blk_set b2 3 u3
  have b4 := blk_set b3 4 u4
  have b5 := blk_set b4 5 u5
  have b6 := blk_set b5 6 u6
  Kd.R_set (Kd.R_set (Kd.R_set (Kd.R_set (Kd.R_set (Kd.R_set (Kd.R_set (Kd.R_set h hb ht 0 u0) b0 ht 1 u1) b1 ht 2 u2) b2 ht 3 u3) b3 ht 4 u4) b4 ht 5 u5) b5 ht 6 u6) b6 ht 7 u7
theorem S_put8 {W : World} {g b t : Nat} {ok : Nat → Prop} {c : Array Value} {v : Value} {l : List BK} (h : Kd.S kB 37 W b ok v l) (hb : W.heap[g]? = some (.cells c t (0, 0))) (ht : ∀ q, q ∈ 37 :: kB.E → q ≠ t) (u0 u1 u2 u3 u4 u5 u6 u7 : Value) : Kd.S kB 37 (put8 W g u0 u1 u2 u3 u4 u5 u6 u7) b ok v l :=
  have b0 := blk_set hb 0 u0
  have b1 := blk_set b0 1 u1
  have b2 := blk_set b1 2 u2
  have b3 := blk_set b2 3 u3
  have b4 := blk_set b3 4 u4
  have b5 := blk_set b4 5 u5
  have b6 := blk_set b5 6 u6
  Kd.S_set (Kd.S_set (Kd.S_set (Kd.S_set (Kd.S_set (Kd.S_set (Kd.S_set (Kd.S_set h hb ht 0 u0) b0 ht 1 u1) b1 ht 2 u2) b2 ht 3 u3) b3 ht 4 u4) b4 ht 5 u5) b5 ht 6 u6) b6 ht 7 u7
theorem blk_put8 {W : World} {g : Nat} (hb : W.heap[g]? = some (.cells Z30 30 (0, 0))) (u0 u1 u2 u3 u4 u5 u6 u7 : Value) : (put8 W g u0 u1 u2 u3 u4 u5 u6 u7).heap[g]? = some (.cells #[u0, u1, u2, u3, u4, u5, u6, u7] 30 (0, 0)) := by
  have h := blk_set (blk_set (blk_set (blk_set (blk_set (blk_set (blk_set (blk_set hb 0 u0) 1 u1) 2 u2) 3 u3) 4 u4) 5 u5) 6 u6) 7 u7
  simpa [Z30, put8] using h
theorem below_put8 {w W : World} {b g : Nat} (h : Below b w W) (hg : b ≤ g) (u0 u1 u2 u3 u4 u5 u6 u7 : Value) : Below b w (put8 W g u0 u1 u2 u3 u4 u5 u6 u7) :=
  (((((((h.setCell (p := ⟨g, 0, none⟩) hg u0).setCell (p := ⟨g, 1, none⟩) hg u1).setCell (p := ⟨g, 2, none⟩) hg u2).setCell (p := ⟨g, 3, none⟩) hg u3).setCell (p := ⟨g, 4, none⟩) hg u4).setCell (p := ⟨g, 5, none⟩) hg u5).setCell (p := ⟨g, 6, none⟩) hg u6).setCell (p := ⟨g, 7, none⟩) hg u7
set_option maxHeartbeats 16000000 in
set_option maxRecDepth 100000 in
theorem model_Make.calls (k : Nat) (a0_0 a0_1 a0_2 a0_3 a0_4 a1 : Int) (r1 r2 : Int) (r3 : List Int) (r4 : List BK) (r5 : List Int) (r6 r7 : Int) (r8 : List Int) (r9 : Int) (w : World) (h : model_Make.f k a0_0 a0_1 a0_2 a0_3 a0_4 a1 = some (r1, r2, r3, r4, r5, r6, r7, r8, r9)) :
    Calls Try.prog 9 #[.agg #[.int .i64 a0_0, .int .i64 a0_1, .int .i64 a0_2, .int .i64 a0_3, .int .i64 a0_4], .int .u64 a1] w fun e w' => ∃ v2_ v3_ v4_ v7_ : Value, e = .returned (.tuple #[.agg #[.int .i64 r1, .int .i64 r2, v2_, v3_, v4_, .int .i64 r6, .int .i64 r7, v7_], .int .i64 r9]) ∧ Kd.R (Kd.int .i32) 35 w' w.heap.size (fun k_ => some k_ ≠ (v4_ : Value).ownBlock ∧ some k_ ≠ (v7_ : Value).ownBlock) v2_ r3 ∧ Kd.S kB 37 w' w.heap.size (fun k_ => some k_ ≠ (v2_ : Value).ownBlock ∧ some k_ ≠ (v4_ : Value).ownBlock ∧ some k_ ≠ (v7_ : Value).ownBlock) v3_ r4 ∧ Kd.R (Kd.int .i32) 35 w' w.heap.size (fun k_ => some k_ ≠ (v2_ : Value).ownBlock ∧ some k_ ≠ (v7_ : Value).ownBlock) v4_ r5 ∧ Kd.R (Kd.int .i32) 35 w' w.heap.size (fun k_ => some k_ ≠ (v2_ : Value).ownBlock ∧ some k_ ≠ (v4_ : Value).ownBlock) v7_ r8 ∧ Below w.heap.size w w' := by
  unfold model_Make.f at h
  replace h := Option.bind_eq_some_iff.mp h
  obtain ⟨er, hs, h⟩ := h
  have HS := Aside0.mk hs
  have BW := Aside0.mk (((Below.refl w.heap.size w).alloc (Nat.le_refl _) (.cells (CF a0_0 a0_1 a0_2 a0_3 a0_4) 23 (0, 0))).alloc (by rw [World.size_alloc]; omega) (.cells Z30 30 (0, 0)))
  have e1 : (w.alloc (.cells (CF a0_0 a0_1 a0_2 a0_3 a0_4) 23 (0, 0))).heap.size = w.heap.size + 1 := World.size_alloc _ _
  have kc := blk_alloc (blk_new w (.cells (CF a0_0 a0_1 a0_2 a0_3 a0_4) 23 (0, 0))) (.cells Z30 30 (0, 0))
  have kr := blk_new (w.alloc (.cells (CF a0_0 a0_1 a0_2 a0_3 a0_4) 23 (0, 0))) (.cells Z30 30 (0, 0))
  rw [e1] at kr
  have KC := Aside0.mk kc
  have KR := Aside0.mk kr
  clear hs e1 kc kr
  by_cases c1 : er = 0
  · rw [if_pos c1] at h
    by_cases c2 : 0 ≤ a0_4 ∧ a0_4 ≤ 1000
    · rw [if_pos c2] at h
      replace h := Option.bind_eq_some_iff.mp h
      obtain ⟨⟨m1, m2, m3, m4⟩, hm, h⟩ := h
      replace h := Option.bind_eq_some_iff.mp h
      obtain ⟨⟨bs, s1⟩, hbs, h⟩ := h
      replace h := Option.bind_eq_some_iff.mp h
      obtain ⟨⟨g1, g2⟩, hg, h⟩ := h
      replace h := Option.bind_eq_some_iff.mp h
      obtain ⟨⟨o1, o2, o3, o4⟩, ho, h⟩ := h
      simp only [Option.some.injEq, Prod.mk.injEq] at h
      obtain ⟨rfl, rfl, rfl, rfl, rfl, rfl, rfl, rfl, rfl⟩ := h
      have HM := Aside0.mk hm
      have HBS := Aside0.mk hbs
      have HG := Aside0.mk hg
      have HO := Aside0.mk ho
      obtain ⟨n4, rfl⟩ : ∃ n4 : Nat, a0_4 = (n4 : Int) := ⟨a0_4.toNat, (Int.toNat_of_nonneg c2.1).symm⟩
      have N4 := Aside0.mk c2.2
      subst c1
      clear hm hbs hg ho c2
      go_enter Try.func9, Try.ntmps9
      go_wp2_with (first
        | (go_at_call 22; go_loud (refine (model_Shape.calls k _ _ _ _ _ 0 _ HS.out).mono ?_); rintro e w1 ⟨rfl, hb⟩; have KC1 := Aside0.mk (blk_below KC.out hb); have KR1 := Aside0.mk (blk_below KR.out hb); have BW1 := Aside0.mk (BW.out.trans (hb.mono BW.out.size)); obtain ⟨x0, x1, x3, x4⟩ := cfg_read (blk_alloc KC1.out (.cells #[.int .u64 a1] 67 (0, 0))); clear hb)
        | (go_at_call 26; go_loud (refine (model_maker_side.calls k w1.heap.size a1 _ _ 131072 m1 m2 m3 m4 w _ (maker_new a1 BW1.out) (BW1.out.alloc BW1.out.size _) HM.out).mono ?_); rintro e w2 ⟨v2, rfl, hr, hi, hb, hk⟩; obtain ⟨A2, c2, rfl⟩ := Kd.R_slice hr; have R2 := Aside0.mk hr; have B2 := Aside0.mk (BF.start (wc := #[.int .i64 m1, .int .i64 m2, .slice A2 m3.length c2, .slice none 0 0, .slice none 0 0, .int .i64 0, .int .i64 0, .slice none 0 0]) KC1.out KR1.out hk hi hb); obtain ⟨x0, x1, x3, x4⟩ := cfg_read B2.out.c; clear hr hi hb hk))
      have D0 := Aside0.mk (Rd.start B2.out (Kd.R_alloc R2.out _) (show w.heap.size ≤ (w1.alloc (.cells #[.int .u64 a1] 67 (0, 0))).heap.size by rw [World.size_alloc]; exact Nat.le_succ_of_le BW1.out.size))
      have H0 := Aside0.mk (show mkBlocks k a0_1 a0_3 n4 m4 [] = some (bs, s1) from HBS.out)
      clear x0 x1 x3 x4
      go_loopg [30] n4 (fun kq v30 w' => ∃ (i : Nat) (s : Int) (vB : Value) (xs : List BK), v30 = .int .i64 (i : Int) ∧ Aside0 (i + kq = n4) ∧ Aside0 (xs.length = i) ∧ Aside0 (mkBlocks k a0_1 a0_3 kq s xs = some (bs, s1)) ∧ Aside0 (Rd w w' (CF a0_0 a0_1 a0_2 a0_3 n4) w1.heap.size w2.heap.size s (wcB m1 m2 (.slice A2 m3.length c2) vB) [(.slice A2 m3.length c2, m3)] w'.heap.size vB xs []))
      case atStart => exact ⟨0, m4, _, [], rfl, ⟨Nat.zero_add _⟩, ⟨rfl⟩, H0, D0⟩
      case round =>
        clear D0 H0 R2 B2
        obtain ⟨i, s, vB, xs, rfl, HI, HL, HB, HD⟩ := hrel
        have hi := HI.out
        have hn4 := N4.out
        obtain ⟨x0, x1, x3, x4⟩ := cfg_read HD.out.bf.c
        cases gk with
        | succ g =>
          have d1 : decide (i < n4) = true := decide_eq_true (by omega)
          have i2 : (i : Int) + 1 ≤ 1000 := by omega
          have hbs := HB.out
          rw [show mkBlocks k a0_1 a0_3 (g + 1) s xs = (mkBlock k s a0_1 a0_3).bind fun b => mkBlocks k a0_1 a0_3 g b.2 (xs ++ [b.1]) from rfl] at hbs
          replace hbs := Option.bind_eq_some_iff.mp hbs
          obtain ⟨⟨bk, s'⟩, hb1, hb2⟩ := hbs
          obtain ⟨la, sa, q1, q2, lq, sq, u1, u2, lu, su, v1, v2, lv, sv, o1, o2, lo, so, lb, sb, e1, e2, lx, sx, y1, y2, ly, f1, f2, f3, f4, f5, f6, f7, f8, rfl⟩ := mkBlock_some hb1
          have HN := Aside0.mk hb2
          have F1 := Aside0.mk f1
          have F2 := Aside0.mk f2
          have F3 := Aside0.mk f3
          have F4 := Aside0.mk f4
          have F5 := Aside0.mk f5
          have F6 := Aside0.mk f6
          have F7 := Aside0.mk f7
          have F8 := Aside0.mk f8
          clear hb1 hb2 f1 f2 f3 f4 f5 f6 f7 f8 hi hn4 HB
          obtain ⟨AB, cB, rfl⟩ := Kd.S_slice HD.out.sb
          go_wp2_with (first
            | (go_at_call 27; go_loud (refine (model_maker_gains.calls k w1.heap.size s _ la sa w _ HD.out.bf.m HD.out.bf.bel F1.out).mono ?_); rintro e w3 ⟨va, rfl, hr, hi, hb, hk⟩; obtain ⟨Aa, ca, rfl⟩ := Kd.R_slice hr; have D1 := Aside0.mk (HD.out.made (Nat.le_refl _) hr hi hb hk); have W3 := Aside0.mk hk.1; have S1 := Aside0.mk (show Sd w ((w3.alloc (.cells (bc0 (.slice Aa la.length ca)) 37 (0, 0))).alloc (.cells (ptrs w3.heap.size) 70 (0, 0))) _ _ _ _ _ _ _ _ _ _ w3.heap.size (bc0 (.slice Aa la.length ca)) (w3.heap.size + 1) from ⟨(D1.out.step (below_alloc (Below.refl _ _) _)).step (below_alloc (Below.refl _ _) _), blk_alloc (blk_new _ _) _, by (have hh := blk_new (w3.alloc (.cells (bc0 (.slice Aa la.length ca)) 37 (0, 0))) (.cells (ptrs w3.heap.size) 70 (0, 0))); rwa [World.size_alloc] at hh, W3.out, Nat.lt_succ_self _⟩); clear hr hi hb hk; obtain ⟨x0, x1, x3, x4⟩ := cfg_read S1.out.rd.bf.c; obtain ⟨p0, p1, p2, p3⟩ := ptr_read S1.out.ptr)
            | ((with_reducible refine gate_store (t := 37) (p := 9) rfl ?_); go_loud (refine store_new_event (bc0 (.slice Aa la.length ca)) rfl rfl rfl rfl rfl (by kernel_rfl) rfl (by simp [bc0, Value.oneCell']) ?_)))
          refine wp_loop_rounds 5 ?_
          rw [rounds_succ]
          go_wp2_with (go_at_call 26; go_loud (refine (model_maker_side.calls k w1.heap.size sa _ _ 65536 q1 q2 lq sq w _ S1.out.rd.bf.m S1.out.rd.bf.bel F2.out).mono ?_); rintro e w4 ⟨vq, rfl, hr, hi, hb, hk⟩; obtain ⟨Aq, cq, rfl⟩ := Kd.R_slice hr; have T1 := Aside0.mk (S1.out.made hr hi hb hk); obtain ⟨z0, z1, z2, z3, z4, z5⟩ := box3_read (j := 1) T1.out.box; simp at z0 z1 z2; clear hr hi hb hk)
          have U1 := Aside0.mk (((T1.out.put 1 (.int .i64 q1)).put 2 (.int .i64 q2)).put 3 (.slice Aq lq.length cq))
          generalize ((w4.setCell ⟨w3.heap.size, 1, none⟩ (.int .i64 q1)).setCell ⟨w3.heap.size, 2, none⟩ (.int .i64 q2)).setCell ⟨w3.heap.size, 3, none⟩ (.slice Aq lq.length cq) = w5 at U1 ⊢
          have V1 := Aside0.mk (show Sd w w5 (CF a0_0 a0_1 a0_2 a0_3 n4) w1.heap.size w2.heap.size sq (wcB m1 m2 (.slice A2 m3.length c2) (.slice AB xs.length cB)) [(.slice A2 m3.length c2, m3)] wr.heap.size (.slice AB xs.length cB) xs [(.slice Aa la.length ca, la), (.slice Aq lq.length cq, lq)] w3.heap.size (bcX (.slice Aa la.length ca) q1 q2 (.slice Aq lq.length cq) 0 0 nilV 0 0 nilV 0 0 nilV nilV 0 0 nilV 0 0 nilV) (w3.heap.size + 1) from U1.out)
          clear T1 U1 x0 x1 x3 x4 p0 p1 p2 p3 z0 z1 z2 z3 z4 z5
          obtain ⟨x0, x1, x3, x4⟩ := cfg_read V1.out.rd.bf.c
          obtain ⟨p0, p1, p2, p3⟩ := ptr_read V1.out.ptr
          rw [rounds_succ]
          go_wp2_with (go_at_call 26; go_loud (refine (model_maker_side.calls k w1.heap.size sq _ _ 65536 u1 u2 lu su w _ V1.out.rd.bf.m V1.out.rd.bf.bel F3.out).mono ?_); rintro e w6 ⟨vu, rfl, hr, hi, hb, hk⟩; obtain ⟨Au, cu, rfl⟩ := Kd.R_slice hr; have T2 := Aside0.mk (V1.out.made hr hi hb hk); obtain ⟨z0, z1, z2, z3, z4, z5⟩ := box3_read (j := 4) T2.out.box; simp at z0 z1 z2; clear hr hi hb hk)
          have U2 := Aside0.mk (((T2.out.put 4 (.int .i64 u1)).put 5 (.int .i64 u2)).put 6 (.slice Au lu.length cu))
          generalize ((w6.setCell ⟨w3.heap.size, 4, none⟩ (.int .i64 u1)).setCell ⟨w3.heap.size, 5, none⟩ (.int .i64 u2)).setCell ⟨w3.heap.size, 6, none⟩ (.slice Au lu.length cu) = w7 at U2 ⊢
          have V2 := Aside0.mk (show Sd w w7 (CF a0_0 a0_1 a0_2 a0_3 n4) w1.heap.size w2.heap.size su (wcB m1 m2 (.slice A2 m3.length c2) (.slice AB xs.length cB)) [(.slice A2 m3.length c2, m3)] wr.heap.size (.slice AB xs.length cB) xs [(.slice Aa la.length ca, la), (.slice Aq lq.length cq, lq), (.slice Au lu.length cu, lu)] w3.heap.size (bcX (.slice Aa la.length ca) q1 q2 (.slice Aq lq.length cq) u1 u2 (.slice Au lu.length cu) 0 0 nilV 0 0 nilV nilV 0 0 nilV 0 0 nilV) (w3.heap.size + 1) from U2.out)
          clear T2 U2 x0 x1 x3 x4 p0 p1 p2 p3 z0 z1 z2 z3 z4 z5
          obtain ⟨x0, x1, x3, x4⟩ := cfg_read V2.out.rd.bf.c
          obtain ⟨p0, p1, p2, p3⟩ := ptr_read V2.out.ptr
          rw [rounds_succ]
          go_wp2_with (go_at_call 26; go_loud (refine (model_maker_side.calls k w1.heap.size su _ _ 65536 v1 v2 lv sv w _ V2.out.rd.bf.m V2.out.rd.bf.bel F4.out).mono ?_); rintro e w8 ⟨vv, rfl, hr, hi, hb, hk⟩; obtain ⟨Av, cv, rfl⟩ := Kd.R_slice hr; have T3 := Aside0.mk (V2.out.made hr hi hb hk); obtain ⟨z0, z1, z2, z3, z4, z5⟩ := box3_read (j := 7) T3.out.box; simp at z0 z1 z2; clear hr hi hb hk)
          have U3 := Aside0.mk (((T3.out.put 7 (.int .i64 v1)).put 8 (.int .i64 v2)).put 9 (.slice Av lv.length cv))
          generalize ((w8.setCell ⟨w3.heap.size, 7, none⟩ (.int .i64 v1)).setCell ⟨w3.heap.size, 8, none⟩ (.int .i64 v2)).setCell ⟨w3.heap.size, 9, none⟩ (.slice Av lv.length cv) = w9 at U3 ⊢
          have V3 := Aside0.mk (show Sd w w9 (CF a0_0 a0_1 a0_2 a0_3 n4) w1.heap.size w2.heap.size sv (wcB m1 m2 (.slice A2 m3.length c2) (.slice AB xs.length cB)) [(.slice A2 m3.length c2, m3)] wr.heap.size (.slice AB xs.length cB) xs [(.slice Aa la.length ca, la), (.slice Aq lq.length cq, lq), (.slice Au lu.length cu, lu), (.slice Av lv.length cv, lv)] w3.heap.size (bcX (.slice Aa la.length ca) q1 q2 (.slice Aq lq.length cq) u1 u2 (.slice Au lu.length cu) v1 v2 (.slice Av lv.length cv) 0 0 nilV nilV 0 0 nilV 0 0 nilV) (w3.heap.size + 1) from U3.out)
          clear T3 U3 x0 x1 x3 x4 p0 p1 p2 p3 z0 z1 z2 z3 z4 z5
          obtain ⟨x0, x1, x3, x4⟩ := cfg_read V3.out.rd.bf.c
          obtain ⟨p0, p1, p2, p3⟩ := ptr_read V3.out.ptr
          rw [rounds_succ]
          go_wp2_with (go_at_call 26; go_loud (refine (model_maker_side.calls k w1.heap.size sv _ _ 65536 o1 o2 lo so w _ V3.out.rd.bf.m V3.out.rd.bf.bel F5.out).mono ?_); rintro e w10 ⟨vo, rfl, hr, hi, hb, hk⟩; obtain ⟨Ao, co, rfl⟩ := Kd.R_slice hr; have T4 := Aside0.mk (V3.out.made hr hi hb hk); obtain ⟨z0, z1, z2, z3, z4, z5⟩ := box3_read (j := 10) T4.out.box; simp at z0 z1 z2; clear hr hi hb hk)
          have U4 := Aside0.mk (((T4.out.put 10 (.int .i64 o1)).put 11 (.int .i64 o2)).put 12 (.slice Ao lo.length co))
          generalize ((w10.setCell ⟨w3.heap.size, 10, none⟩ (.int .i64 o1)).setCell ⟨w3.heap.size, 11, none⟩ (.int .i64 o2)).setCell ⟨w3.heap.size, 12, none⟩ (.slice Ao lo.length co) = w11 at U4 ⊢
          have V4 := Aside0.mk (show Sd w w11 (CF a0_0 a0_1 a0_2 a0_3 n4) w1.heap.size w2.heap.size so (wcB m1 m2 (.slice A2 m3.length c2) (.slice AB xs.length cB)) [(.slice A2 m3.length c2, m3)] wr.heap.size (.slice AB xs.length cB) xs [(.slice Aa la.length ca, la), (.slice Aq lq.length cq, lq), (.slice Au lu.length cu, lu), (.slice Av lv.length cv, lv), (.slice Ao lo.length co, lo)] w3.heap.size (bcX (.slice Aa la.length ca) q1 q2 (.slice Aq lq.length cq) u1 u2 (.slice Au lu.length cu) v1 v2 (.slice Av lv.length cv) o1 o2 (.slice Ao lo.length co) nilV 0 0 nilV 0 0 nilV) (w3.heap.size + 1) from U4.out)
          clear T4 U4 x0 x1 x3 x4 p0 p1 p2 p3 z0 z1 z2 z3 z4 z5
          obtain ⟨x0, x1, x3, x4⟩ := cfg_read V4.out.rd.bf.c
          obtain ⟨p0, p1, p2, p3⟩ := ptr_read V4.out.ptr
          rw [rounds_succ]
          go_wp2_with (first
            | (go_at_call 27; go_loud (refine (model_maker_gains.calls k w1.heap.size so _ lb sb w _ V4.out.rd.bf.m V4.out.rd.bf.bel F6.out).mono ?_); rintro e w12 ⟨vb, rfl, hr, hi, hb, hk⟩; obtain ⟨Ab, cb, rfl⟩ := Kd.R_slice hr; have T5 := Aside0.mk (V4.out.made hr hi hb hk); obtain ⟨z0, z1, z2, z3, z4, z5⟩ := box3_read (j := 13) T5.out.box; simp at z0 z1 z2; have V5 := Aside0.mk (T5.out.put 13 (.slice Ab lb.length cb)); clear hr hi hb hk x0 x1 x3 x4; obtain ⟨x0, x1, x3, x4⟩ := cfg_read V5.out.rd.bf.c)
            | (go_at_call 26; refine (model_maker_side.calls k w1.heap.size sx _ _ 65536 y1 y2 ly s' w _ V6.out.rd.bf.m V6.out.rd.bf.bel F8.out).mono ?_; rintro e w14 ⟨vy, rfl, hr, hi, hb, hk⟩; obtain ⟨Ay, cy, rfl⟩ := Kd.R_slice hr; have T7 := Aside0.mk (V6.out.made hr hi hb hk); clear z0 z1 z2 z3 z4 z5; obtain ⟨z0, z1, z2, z3, z4, z5⟩ := box3_read (j := 17) T7.out.box; simp at z0 z1 z2; have V7 := Aside0.mk (((T7.out.put 17 (.int .i64 y1)).put 18 (.int .i64 y2)).put 19 (.slice Ay ly.length cy)); clear hr hi hb hk x0 x1 x3 x4; have x5 := blk_cell V7.out.rd.bf.b 3; simp at x5)
            | (go_at_call 26; go_loud (refine (model_maker_side.calls k w1.heap.size sb _ _ 65536 e1 e2 lx sx w _ V5.out.rd.bf.m V5.out.rd.bf.bel F7.out).mono ?_); rintro e w13 ⟨vx, rfl, hr, hi, hb, hk⟩; obtain ⟨Ae, ce, rfl⟩ := Kd.R_slice hr; have T6 := Aside0.mk (V5.out.made hr hi hb hk); clear z0 z1 z2 z3 z4 z5; obtain ⟨z0, z1, z2, z3, z4, z5⟩ := box3_read (j := 14) T6.out.box; simp at z0 z1 z2; have V6 := Aside0.mk (((T6.out.put 14 (.int .i64 e1)).put 15 (.int .i64 e2)).put 16 (.slice Ae lx.length ce)); clear hr hi hb hk x0 x1 x3 x4; obtain ⟨x0, x1, x3, x4⟩ := cfg_read V6.out.rd.bf.c)
            | ((with_reducible refine gate_dst (N := 77) rfl ?_); go_loud (refine load_row_event (bcX (.slice Aa la.length ca) q1 q2 (.slice Aq lq.length cq) u1 u2 (.slice Au lu.length cu) v1 v2 (.slice Av lv.length cv) o1 o2 (.slice Ao lo.length co) (.slice Ab lb.length cb) e1 e2 (.slice Ae lx.length ce) y1 y2 (.slice Ay ly.length cy)) rfl rfl rfl rfl V7.out.box Try.underlying37 rfl (by kernel_rfl) ?_))
            | ((with_reducible refine gate_builtin (b := .append) (xs := #[.tmp 76, .tmp 78]) rfl ?_); go_loud (refine Kd.S_append kB (w0 := w) w.heap.size rfl (.tmp 76) (.tmp 78) 28 37 (.agg #[(.slice none 0 0), (.int .i64 0), (.int .i64 0), (.slice none 0 0), (.int .i64 0), (.int .i64 0), (.slice none 0 0), (.int .i64 0), (.int .i64 0), (.slice none 0 0), (.int .i64 0), (.int .i64 0), (.slice none 0 0), (.slice none 0 0), (.int .i64 0), (.int .i64 0), (.slice none 0 0), (.int .i64 0), (.int .i64 0), (.slice none 0 0)]) 288 rfl Try.underlying28 info37 rfl (by decide) (by omega) (.slice AB xs.length cB) xs (⟨la, ⟨q1, q2, lq⟩, ⟨u1, u2, lu⟩, ⟨v1, v2, lv⟩, ⟨o1, o2, lo⟩, lb, ⟨e1, e2, lx⟩, ⟨y1, y2, ly⟩⟩ : BK) [Value.slice Aa la.length ca, Value.int .i64 q1, Value.int .i64 q2, Value.slice Aq lq.length cq, Value.int .i64 u1, Value.int .i64 u2, Value.slice Au lu.length cu, Value.int .i64 v1, Value.int .i64 v2, Value.slice Av lv.length cv, Value.int .i64 o1, Value.int .i64 o2, Value.slice Ao lo.length co, Value.slice Ab lb.length cb, Value.int .i64 e1, Value.int .i64 e2, Value.slice Ae lx.length ce, Value.int .i64 y1, Value.int .i64 y2, Value.slice Ay ly.length cy] (fun k => ∀ p ∈ [((.slice A2 m3.length c2 : Value), m3)], some k ≠ p.1.ownBlock) (fun k => wr.heap.size ≤ k) rfl (by simp [Act.eval, World.size_setCell]) ?aP ?aQ ?aF ?aO ?aB ?aS ?aL ?_); (case aP => exact block_own (x := (⟨la, ⟨q1, q2, lq⟩, ⟨u1, u2, lu⟩, ⟨v1, v2, lv⟩, ⟨o1, o2, lo⟩, lb, ⟨e1, e2, lx⟩, ⟨y1, y2, ly⟩⟩ : BK)) V7.out.rd); (case aQ => exact fun k hk => ⟨fun p hp e => Nat.not_le_of_lt (V7.out.rd.eb p hp k e.symm) hk, fun e => Nat.not_le_of_lt ((Kd.S_R V7.out.rd.sb).1 k e.symm).1 hk⟩); (case aF => exact fun k hk p hp e => Nat.lt_irrefl _ (Nat.lt_of_lt_of_le (Nat.lt_trans (V7.out.rd.eb p hp k e.symm) (Nat.lt_of_le_of_lt V7.out.nb (Nat.lt_trans V7.out.bp V7.out.gp_lt))) hk)); (case aO => exact Kd.S_mono V7.out.rd.sb (fun k hk => ⟨hk.2, fun h => Nat.not_le_of_lt hk.1 h⟩)); (case aB => exact V7.out.rd.bf.bel); (case aS => exact V7.out.rd.bf.bel.size); (case aL => have := HL.out; omega); intro v15 w15 hS hB hG hat; obtain ⟨A15, c15, rfl⟩ := Kd.S_slice hS; have D15 := Aside0.mk (V7.out.rd.grown hS hB hG); rw [show (xs ++ [(⟨la, ⟨q1, q2, lq⟩, ⟨u1, u2, lu⟩, ⟨v1, v2, lv⟩, ⟨o1, o2, lo⟩, lb, ⟨e1, e2, lx⟩, ⟨y1, y2, ly⟩⟩ : BK)]).length = xs.length + 1 by simp] at D15; have x6 := blk_cell D15.out.bf.b 3; have x7 := blk_frozen D15.out.bf.b 3; simp at x6; have D16 := Aside0.mk (D15.out.putw 3 (.slice A15 (xs.length + 1) c15)); clear hS hB hG hat))
          go_roundg g
          case measure => omega
          case rel => exact ⟨i + 1, s', .slice A15 (xs.length + 1) c15, xs ++ [(⟨la, ⟨q1, q2, lq⟩, ⟨u1, u2, lu⟩, ⟨v1, v2, lv⟩, ⟨o1, o2, lo⟩, lb, ⟨e1, e2, lx⟩, ⟨y1, y2, ly⟩⟩ : BK)], by go_num, ⟨by have := HI.out; omega⟩, ⟨by rw [List.length_append, List.length_singleton]; have := HL.out; omega⟩, HN, ⟨D16.out.head⟩⟩
        | zero =>
          have d1 : decide (i < n4) = false := decide_eq_false (by omega)
          have hb0 := HB.out
          rw [show mkBlocks k a0_1 a0_3 0 s xs = some (xs, s) from rfl] at hb0
          simp only [Option.some.injEq, Prod.mk.injEq] at hb0
          obtain ⟨rfl, rfl⟩ := hb0
          obtain ⟨AB, cB, rfl⟩ := Kd.S_slice HD.out.sb
          clear hi hn4 HB
          go_wp2_with (first
            | (go_at_call 27; go_loud (refine (model_maker_gains.calls k w1.heap.size s _ g1 g2 w _ HD.out.bf.m HD.out.bf.bel HG.out).mono ?_); rintro e w16 ⟨v4, rfl, hr, hi, hb, hk⟩; obtain ⟨A4, c4, rfl⟩ := Kd.R_slice hr; have R4 := Aside0.mk (And.intro (Kd.R_lt hr) (Kd.R_base hr)); have E1 := Aside0.mk (HD.out.made (Nat.le_refl _) hr hi hb hk); have K16 := Aside0.mk hk.1; have y0 := blk_cell E1.out.bf.b 4; have y1 := blk_frozen E1.out.bf.b 4; simp at y0; have E2 := Aside0.mk (E1.out.putw 4 (.slice A4 g1.length c4)); clear hr hi hb hk x0 x1 x3 x4; obtain ⟨x0, x1, x3, x4⟩ := cfg_read E2.out.bf.c)
            | (go_at_call 26; go_loud (refine (model_maker_side.calls k w1.heap.size g2 _ _ 65536 o1 o2 o3 o4 w _ E2.out.bf.m E2.out.bf.bel HO.out).mono ?_); rintro e w17 ⟨v7, rfl, hr, hi, hb, hk⟩; obtain ⟨A7, c7, rfl⟩ := Kd.R_slice hr; have R7 := Aside0.mk (Kd.R_base hr); have E3 := Aside0.mk (E2.out.made (show wr.heap.size ≤ _ by rw [World.size_setCell]; exact K16.out) hr hi hb hk); clear y0 y1; have y0 := blk_cell E3.out.bf.b 5; have y1 := blk_cell E3.out.bf.b 6; have y2 := blk_cell E3.out.bf.b 7; have y3 := blk_frozen E3.out.bf.b 5; have y4 := blk_frozen E3.out.bf.b 6; have y5 := blk_frozen E3.out.bf.b 7; simp at y0 y1 y2; have E4 := Aside0.mk (((E3.out.putw 5 (.int .i64 o1)).putw 6 (.int .i64 o2)).putw 7 (.slice A7 o3.length c7)); clear hr hi hb hk x0 x1 x3 x4; obtain ⟨⟨x0, x1, x2, x3, x4, x5, x6, x7⟩, z0, z1, z2, z3, z4, z5, z6, z7⟩ := res_read E4.out.bf.r)
            | ((with_reducible refine gate_dst (N := 94) rfl ?_); go_loud (refine load_row_event #[.int .i64 m1, .int .i64 m2, .slice A2 m3.length c2, .slice AB xs.length cB, .slice A4 g1.length c4, .int .i64 o1, .int .i64 o2, .slice A7 o3.length c7] rfl rfl rfl rfl E4.out.bf.b Try.underlying30 rfl (by kernel_rfl) ?_)))
          have q2 : ∀ k, (Value.slice A2 m3.length c2).ownBlock = some k → k < wr.heap.size := fun k hk => E4.out.eb (.slice A2 m3.length c2, m3) (by simp) k hk
          have q4 : ∀ k, (Value.slice A4 g1.length c4).ownBlock = some k → wr.heap.size ≤ k ∧ k < w16.heap.size := fun k hk => ⟨R4.out.2 k hk, R4.out.1 k hk⟩
          have q7 : ∀ k, (Value.slice A7 o3.length c7).ownBlock = some k → w16.heap.size ≤ k := fun k hk => by have := R7.out k hk; rwa [World.size_setCell] at this
          have k16 := K16.out
          refine bodyPost_ret (results_ct rfl _ _ (w.heap.size + 1) 30 #[.int .i64 m1, .int .i64 m2, .slice A2 m3.length c2, .slice AB xs.length cB, .slice A4 g1.length c4, .int .i64 o1, .int .i64 o2, .slice A7 o3.length c7] (0, 0) _ rfl (blk_put8 E4.out.bf.r (.int .i64 m1) (.int .i64 m2) (.slice A2 m3.length c2) (.slice AB xs.length cB) (.slice A4 g1.length c4) (.int .i64 o1) (.int .i64 o2) (.slice A7 o3.length c7)) Try.underlying30 rfl (by kernel_rfl)) rfl ⟨_, _, _, _, rfl, ?_, ?_, ?_, ?_, ?_⟩
          · refine R_put8 (Kd.R_mono (Kd.R_tight rfl (E4.out.e (.slice A2 m3.length c2, m3) (by simp))) (fun k hk => ⟨fun e => ?_, fun e => ?_⟩)) E4.out.bf.r (by decide) _ _ _ _ _ _ _ _
            · have := q2 k hk.symm; have := q4 k e.symm; omega
            · have := q2 k hk.symm; have := q7 k e.symm; omega
          · refine S_put8 (Kd.S_mono E4.out.sb (fun k hk => ⟨hk.2 (.slice A2 m3.length c2, m3) (by simp), fun e => ?_, fun e => ?_⟩)) E4.out.bf.r (by decide) _ _ _ _ _ _ _ _
            · have := hk.1; have := q4 k e.symm; omega
            · have := hk.1; have := q7 k e.symm; omega
          · refine R_put8 (Kd.R_lower (Kd.R_mono (Kd.R_tight rfl (E4.out.rows (.slice A4 g1.length c4, g1) (by simp))) (fun k hk => ⟨fun e => ?_, fun e => ?_⟩)) E4.out.lo) E4.out.bf.r (by decide) _ _ _ _ _ _ _ _
            · have := q2 k e.symm; have := q4 k hk.symm; omega
            · have := q4 k hk.symm; have := q7 k e.symm; omega
          · refine R_put8 (Kd.R_lower (Kd.R_mono (Kd.R_tight rfl (E4.out.rows (.slice A7 o3.length c7, o3) (by simp))) (fun k hk => ⟨fun e => ?_, fun e => ?_⟩)) E4.out.lo) E4.out.bf.r (by decide) _ _ _ _ _ _ _ _
            · have := q2 k e.symm; have := q7 k hk.symm; omega
            · have := q4 k e.symm; have := q7 k hk.symm; omega
          · exact below_put8 E4.out.bf.bel (by omega) _ _ _ _ _ _ _ _
    · rw [if_neg c2] at h
      cases h
  · rw [if_neg c1] at h
    simp only [Option.some.injEq, Prod.mk.injEq] at h
    obtain ⟨rfl, rfl, rfl, rfl, rfl, rfl, rfl, rfl, rfl⟩ := h
    have d1 : (er != 0) = true := bne_iff_ne.mpr c1
    clear c1
    go_enter Try.func9, Try.ntmps9
    go_wp2_with (first
      | (go_at_call 22; go_loud (refine (model_Shape.calls k _ _ _ _ _ er _ HS.out).mono ?_); rintro e w1 ⟨rfl, hb⟩; have KR1 := Aside0.mk (blk_below KR.out hb); obtain ⟨⟨x0, x1, x2, x3, x4, x5, x6, x7⟩, z0, z1, z2, z3, z4, z5, z6, z7⟩ := res_read KR1.out; have BW1 := Aside0.mk (BW.out.trans (hb.mono BW.out.size)); clear hb))
    refine bodyPost_ret (results_ct rfl _ _ (w.heap.size + 1) 30 Z30 (0, 0) _ rfl (blk_put8 KR1.out (.int .i64 0) (.int .i64 0) (.slice none 0 0) (.slice none 0 0) (.slice none 0 0) (.int .i64 0) (.int .i64 0) (.slice none 0 0)) Try.underlying30 rfl (by kernel_rfl)) rfl ⟨_, _, _, _, rfl, Kd.R_nil _ _ _ _ _, Kd.S_bare (Kd.R_nil _ _ _ _ _), Kd.R_nil _ _ _ _ _, Kd.R_nil _ _ _ _ _, below_put8 BW1.out (by omega) _ _ _ _ _ _ _ _⟩
end Go.Proofs.Ytdlhodbokkaghaa.GQ
