/- tillerref06.Make, walked by hand. Written by this session's program grmake.py. -/
import Derived.Test.YtdlhodbokkaghaaGQx15
import Derived.Test.YtdlhodbokkaghaaGMod
import Derived.Outline
set_option linter.unusedVariables false
set_option linter.unusedSimpArgs false
namespace Go.Proofs.Ytdlhodbokkaghaa.GQ
open Go.RowKit Go.Proofs.YtdlhodbokkaghaaW.PrintWords Go.Proofs.YtdlhodbokkaghaaW.PrintLast Go.Proofs.YtdlhodbokkaghaaW.PrintMore Go.Proofs.Ytdlhodbokkaghaa.U
/-! What it makes, plain. -/
theorem stI_at (seed : Int) : ∀ (n a : Nat), stI (at_ seed a) n = at_ seed (a + n)
  | 0, a => rfl
  | n + 1, a => by show stI (nx (at_ seed a)) n = _; rw [at_nx, stI_at seed n (a + 1)]; congr 1; omega
theorem rrow_run (seed m more : Int) (h : Most m) (hm : more = 0 ∨ more = 65536 ∧ m = 16384) (at0 N : Nat) (hN : at0 + N ≤ 200000) : ∀ (n i k : Nat) (acc : List Int), i + n = N → n < k → acc.length ≤ i →
    tillerref06_row.l0 k seed (at0 : Int) (N : Int) m more acc (i : Int) = some (acc ++ (rowL (at_ seed (at0 + i)) m n).map (· + more), ((at0 + N : Nat) : Int)) := by
  intro n
  induction n with
  | zero =>
    intro i k acc hi hk ha
    obtain ⟨k, rfl⟩ := succ_of_lt (show 0 < k by omega)
    simp only [tillerref06_row.l0]
    rw [if_neg (by omega), w64 (by omega) (by omega)]
    simp [rowL]
  | succ n ih =>
    intro i k acc hi hk ha
    obtain ⟨k, rfl⟩ := succ_of_lt (show 0 < k by omega)
    simp only [tillerref06_row.l0]
    have hv := rv_bound (at_ seed (at0 + i + 1)) m h
    rw [if_pos (by omega), w64 (x := (at0 : Int) + (i : Int)) (by omega) (by omega), ← Int.natCast_add, rand_eq seed (at0 + i) m (by omega) h, Option.bind_some, if_pos (by omega), w64 (by omega) (by omega), w32 (x := more) (by omega) (by omega), w32 (by rcases h with rfl | rfl | rfl <;> omega) (by rcases h with rfl | rfl | rfl <;> omega), ← Int.natCast_one, ← Int.natCast_add, ih (i + 1) k _ (by omega) (by omega) (by rw [List.length_append, List.length_singleton]; omega)]
    show some ((acc ++ [rv (at_ seed (at0 + i + 1)) m + more]) ++ (rowL (at_ seed (at0 + (i + 1))) m n).map (· + more), _) = some (acc ++ (rv (nx (at_ seed (at0 + i))) m :: rowL (nx (at_ seed (at0 + i))) m n).map (· + more), _)
    rw [at_nx, List.append_assoc]
    rfl
theorem rrow_eq (seed m more : Int) (h : Most m) (hm : more = 0 ∨ more = 65536 ∧ m = 16384) (at0 n k : Nat) (hN : at0 + n ≤ 200000) (hk : n < k) : tillerref06_row.f k seed (at0 : Int) (n : Int) m more = some ((rowL (at_ seed at0) m n).map (· + more), ((at0 + n : Nat) : Int)) := by
  unfold tillerref06_row.f
  have := rrow_run seed m more h hm at0 n hN n 0 k [] (by omega) hk (Nat.le_refl _)
  rwa [List.nil_append, Nat.add_zero] at this
theorem rgain_eq (seed : Int) (at0 n k : Nat) (hN : at0 + n ≤ 200000) (hk : n < k) : tillerref06_row.f k seed (at0 : Int) (n : Int) 16384 65536 = some (gainL (at_ seed at0) n, ((at0 + n : Nat) : Int)) :=
  rrow_eq seed 16384 65536 (.inr (.inr rfl)) (.inr ⟨rfl, rfl⟩) at0 n k hN hk
theorem rsquare_eq (seed m : Int) (h : Most m) (at0 r c k : Nat) (hN : at0 + r * c ≤ 200000) (hk : r * c < k) : tillerref06_square.f k seed (at0 : Int) (r : Int) (c : Int) m = some ((r : Int), (c : Int), rowL (at_ seed at0) m (r * c), ((at0 + r * c : Nat) : Int)) := by
  unfold tillerref06_square.f
  have hb : (r : Int) * (c : Int) = ((r * c : Nat) : Int) := by push_cast; rfl
  rw [hb, w64 (by omega) (by omega), rrow_eq seed m 0 h (.inl rfl) at0 (r * c) k hN hk, Option.bind_some]
  simp
/-- Where the numbers behind a block begin. -/
def bAt (d h at0 : Nat) : Nat := at0 + d + d * d + d * d + d * d + d * d + d + h * d + d * h
theorem blkSt_at (seed : Int) (d h at0 : Nat) : blkSt (at_ seed at0) d h = at_ seed (bAt d h at0) := by
  unfold blkSt bAt
  simp only [stI_at]
/-- A block by the document's calls. -/
theorem rblk_eq (seed : Int) (d h at0 k : Nat) (hd : d ≤ 32) (hh : h ≤ 64) (ha : at0 ≤ 100000) (hk : 5000 ≤ k) : ∃ (m0 m1 m2 m3 m4 m5 m6 m7 : List Int) (b1 b2 b3 b4 b5 b6 b7 : Int),
    tillerref06_row.f k seed (at0 : Int) (d : Int) 16384 65536 = some (m0, b1) ∧ tillerref06_square.f k seed b1 (d : Int) (d : Int) 65536 = some ((d : Int), (d : Int), m1, b2) ∧ tillerref06_square.f k seed b2 (d : Int) (d : Int) 65536 = some ((d : Int), (d : Int), m2, b3) ∧ tillerref06_square.f k seed b3 (d : Int) (d : Int) 65536 = some ((d : Int), (d : Int), m3, b4) ∧ tillerref06_square.f k seed b4 (d : Int) (d : Int) 65536 = some ((d : Int), (d : Int), m4, b5) ∧ tillerref06_row.f k seed b5 (d : Int) 16384 65536 = some (m5, b6) ∧ tillerref06_square.f k seed b6 (h : Int) (d : Int) 65536 = some ((h : Int), (d : Int), m6, b7) ∧ tillerref06_square.f k seed b7 (d : Int) (h : Int) 65536 = some ((d : Int), (h : Int), m7, ((bAt d h at0 : Nat) : Int)) ∧
    cvR (blkOf (at_ seed at0) d h) = ⟨m0, ⟨d, d, m1⟩, ⟨d, d, m2⟩, ⟨d, d, m3⟩, ⟨d, d, m4⟩, m5, ⟨h, d, m6⟩, ⟨d, h, m7⟩⟩ := by
  have h1 : d * d ≤ 1024 := Nat.mul_le_mul hd hd
  have h2 : h * d ≤ 2048 := Nat.mul_le_mul hh hd
  have h3 : d * h ≤ 2048 := Nat.mul_le_mul hd hh
  have m6 : Most 65536 := .inr (.inl rfl)
  refine ⟨_, _, _, _, _, _, _, _, _, _, _, _, _, _, _, rgain_eq seed at0 d k (by omega) (by omega), rsquare_eq seed _ m6 _ d d k (by omega) (by omega), rsquare_eq seed _ m6 _ d d k (by omega) (by omega), rsquare_eq seed _ m6 _ d d k (by omega) (by omega), rsquare_eq seed _ m6 _ d d k (by omega) (by omega), rgain_eq seed _ d k (by omega) (by omega), rsquare_eq seed _ m6 _ h d k (by omega) (by omega), rsquare_eq seed _ m6 _ d h k (by omega) (by omega), ?_⟩
  unfold cvR blkOf
  simp only [stI_at]
/-- A round's boxes: the new model's, the block under way (block gB, younger than the blocks' row), its rows. -/
structure Rm (ts td tb : Nat) (w W : World) (gO : Nat) (cin cout : Array Value) (E : List (Value × List Int)) (n0 : Nat) (vB : Value) (xs : List BR) (gB : Nat) (bc : Array Value) (L : List (Value × List Int)) : Prop where
  a : W.heap[w.heap.size]? = some (.cells cin ts (0, 0))
  r : W.heap[w.heap.size + 1]? = some (.cells Z30 td (0, 0))
  o : W.heap[gO]? = some (.cells cout td (0, 0))
  e : Rows w.heap.size W E
  eb : ∀ p ∈ E, ∀ k, p.1.ownBlock = some k → k < n0
  n : kR.R tb W n0 (fun k => n0 ≤ k ∧ k < gB) vB xs
  lo : w.heap.size + 2 ≤ gO
  hi : gO < n0
  b : W.heap[gB]? = some (.cells bc tb (0, 0))
  rows : Rows gB W L
  lb : n0 ≤ gB
  bel : Below w.heap.size w W
section
variable {ts td tb : Nat} {w W W' : World} {gO gB n0 : Nat} {cin cout bc : Array Value} {E L : List (Value × List Int)} {vB v v' : Value} {xs xs' : List BR} {l : List Int}
theorem Rm.start {o : Obj} (h : Td kR ts td tb w W gO cin cout E n0 vB xs) (ho : o = .cells bc tb (0, 0)) : Rm ts td tb w (W.alloc o) gO cin cout E n0 vB xs W.heap.size bc [] := by
  subst ho
  have hb := below_alloc (Below.refl W.heap.size W) (.cells bc tb (0, 0))
  have h2 := h.step hb
  exact ⟨h2.a, h2.r, h2.o, h2.e, h2.eb, Kd.R_mono (Kd.R_below (Kd.R_bound h.n) hb) (fun k hk => ⟨hk.1, hk.2.2.1⟩), h2.lo, h2.hi, blk_new _ _, fun p hp => (by cases hp), h.up, h2.bel⟩
theorem Rm.step (h : Rm ts td tb w W gO cin cout E n0 vB xs gB bc L) (hb : Below W.heap.size W W') : Rm ts td tb w W' gO cin cout E n0 vB xs gB bc L :=
  ⟨blk_below h.a hb, blk_below h.r hb, blk_below h.o hb, h.e.step hb, h.eb, Kd.R_below h.n hb, h.lo, h.hi, blk_below h.b hb, h.rows.step hb, h.lb, h.bel.trans (hb.mono h.bel.size)⟩
theorem Rm.made (h : Rm ts td tb w W gO cin cout E n0 vB xs gB bc L) (hb : Below W.heap.size W W') (hr : kI.R NumT W' W.heap.size (fun _ => True) v l) : Rm ts td tb w W' gO cin cout E n0 vB xs gB bc (L ++ [(v, l)]) :=
  have h2 := h.step hb
  ⟨h2.a, h2.r, h2.o, h2.e, h2.eb, h2.n, h2.lo, h2.hi, h2.b, h2.rows.snoc (Kd.R_lower hr (Nat.le_of_lt (blk_lt h.b))), h2.lb, h2.bel⟩
theorem Rm.put (h : Rm ts td tb w W gO cin cout E n0 vB xs gB bc L) (ht : ∀ q, q ∈ NumT :: kI.E → q ≠ tb) (j : Nat) (u : Value) : Rm ts td tb w (W.setCell ⟨gB, j, none⟩ u) gO cin cout E n0 vB xs gB (bc.setIfInBounds j u) L :=
  have h1 := h.lo
  have h2 := h.hi
  have h3 := h.lb
  ⟨blk_far (p := ⟨gB, j, none⟩) h.a (show w.heap.size ≠ gB by omega) u, blk_far (p := ⟨gB, j, none⟩) h.r (show w.heap.size + 1 ≠ gB by omega) u, blk_far (p := ⟨gB, j, none⟩) h.o (show gO ≠ gB by omega) u, h.e.set h.b ht j u, h.eb, Kd.R_far (p := ⟨gB, j, none⟩) h.n (fun k hk => show k ≠ gB by omega) u, h1, h2, blk_set h.b j u, h.rows.set h.b ht j u, h3, h.bel.setCell (p := ⟨gB, j, none⟩) (show w.heap.size ≤ gB by omega) u⟩
theorem Rm.cast {bc' : Array Value} (h : Rm ts td tb w W gO cin cout E n0 vB xs gB bc L) (e : bc = bc') : Rm ts td tb w W gO cin cout E n0 vB xs gB bc' L := e ▸ h
theorem Rm.row (h : Rm ts td tb w W gO cin cout E n0 vB xs gB bc L) (hm : (v, l) ∈ L) : kI.R NumT W n0 (fun k => gB ≤ k) v l := own_row (h.rows _ hm) h.lb
theorem Rm.toTd (h : Rm ts td tb w W gO cin cout E n0 vB xs gB bc L) : Td kR ts td tb w W gO cin cout E n0 vB xs :=
  ⟨h.a, h.r, h.o, h.e, h.eb, Kd.R_mono h.n (fun _ hk => hk.1), h.lo, h.hi, Nat.le_trans h.lb (Nat.le_of_lt (blk_lt h.b)), h.bel⟩
end
theorem new3 (w : World) (o1 o2 o3 : Obj) : (((w.alloc o1).alloc o2).alloc o3).heap[w.heap.size + 1 + 1]? = some o3 := by
  have h := blk_new ((w.alloc o1).alloc o2) o3
  rwa [World.size_alloc, World.size_alloc] at h
theorem blksLen (d h : Nat) : ∀ (n : Nat) (s : Int), (blksOf d h n s).length = n
  | 0, s => rfl
  | n + 1, s => by show (blksOf d h n _).length + 1 = n + 1; rw [blksLen d h n]
theorem cfg5 {W : World} {g t : Nat} {v0 v1 v2 v3 v4 : Value} (h : W.heap[g]? = some (.cells #[v0, v1, v2, v3, v4] t (0, 0))) : W.cell? ⟨g, 0, none⟩ = some v0 ∧ W.cell? ⟨g, 1, none⟩ = some v1 ∧ W.cell? ⟨g, 3, none⟩ = some v3 ∧ W.cell? ⟨g, 4, none⟩ = some v4 := ⟨blk_cell h 0, blk_cell h 1, blk_cell h 3, blk_cell h 4⟩
theorem at3 {W : World} {g j t : Nat} {bc : Array Value} (h : W.heap[g]? = some (.cells bc t (0, 0))) : W.cell? ⟨g, j, none⟩ = bc[j]? ∧ W.cell? ⟨g, j + 1, none⟩ = bc[j + 1]? ∧ W.cell? ⟨g, j + 2, none⟩ = bc[j + 2]? ∧ W.frozen? ⟨g, j, none⟩ = false ∧ W.frozen? ⟨g, j + 1, none⟩ = false ∧ W.frozen? ⟨g, j + 2, none⟩ = false := ⟨blk_cell h j, blk_cell h (j + 1), blk_cell h (j + 2), blk_frozen h j, blk_frozen h (j + 1), blk_frozen h (j + 2)⟩

theorem T0.ownc {ts td tb : Nat} {w W : World} {cin cz : Array Value} {E : List (Value × List Int)} {gO : Nat} (h : T0 ts td w W cin E) (ho : W.heap[gO]? = some (.cells cz td (0, 0))) (hlo : w.heap.size + 2 ≤ gO) : Td kR ts td tb w W gO cin cz E W.heap.size (.slice none 0 0) [] :=
  ⟨h.a, h.r, ho, h.e, fun p hp k hk => Kd.R_lt (h.e p hp) k hk, Kd.R_nil _ _ _ _ _, hlo, blk_lt ho, Nat.le_refl _, h.bel⟩
/-- Behind the loop: rows may be made still, the blocks' row grows no more. -/
structure Tf (ts td tb : Nat) (w W : World) (gO : Nat) (cin cout : Array Value) (E : List (Value × List Int)) (n0 : Nat) (vB : Value) (xs : List BR) : Prop where
  a : W.heap[w.heap.size]? = some (.cells cin ts (0, 0))
  r : W.heap[w.heap.size + 1]? = some (.cells Z30 td (0, 0))
  o : W.heap[gO]? = some (.cells cout td (0, 0))
  e : Rows w.heap.size W E
  n : kR.R tb W n0 (fun k => n0 ≤ k) vB xs
  lo : w.heap.size + 2 ≤ gO
  hi : gO < n0
  bel : Below w.heap.size w W
section
variable {ts td tb : Nat} {w W W' : World} {gO n0 : Nat} {cin cout : Array Value} {E : List (Value × List Int)} {vB v v2 v4 v7 : Value} {xs : List BR} {l Z2 Z4 Z7 : List Int}
theorem Td.tf (h : Td kR ts td tb w W gO cin cout E n0 vB xs) : Tf ts td tb w W gO cin cout E n0 vB xs := ⟨h.a, h.r, h.o, h.e, h.n, h.lo, h.hi, h.bel⟩
theorem Tf.step (h : Tf ts td tb w W gO cin cout E n0 vB xs) (hb : Below W.heap.size W W') : Tf ts td tb w W' gO cin cout E n0 vB xs :=
  ⟨blk_below h.a hb, blk_below h.r hb, blk_below h.o hb, h.e.step hb, Kd.R_below h.n hb, h.lo, h.hi, h.bel.trans (hb.mono h.bel.size)⟩
theorem Tf.made (h : Tf ts td tb w W gO cin cout E n0 vB xs) (hb : Below W.heap.size W W') (hr : kI.R NumT W' W.heap.size (fun _ => True) v l) : Tf ts td tb w W' gO cin cout (E ++ [(v, l)]) n0 vB xs :=
  have h2 := h.step hb
  ⟨h2.a, h2.r, h2.o, h2.e.snoc (Kd.R_lower hr h.bel.size), h2.n, h2.lo, h2.hi, h2.bel⟩
theorem Tf.put (h : Tf ts td tb w W gO cin cout E n0 vB xs) (ht : ∀ q, q ∈ NumT :: kI.E → q ≠ td) (j : Nat) (u : Value) : Tf ts td tb w (W.setCell ⟨gO, j, none⟩ u) gO cin (cout.setIfInBounds j u) E n0 vB xs :=
  have h1 := h.lo
  have h2 := h.hi
  ⟨blk_far (p := ⟨gO, j, none⟩) h.a (show w.heap.size ≠ gO by omega) u, blk_far (p := ⟨gO, j, none⟩) h.r (show w.heap.size + 1 ≠ gO by omega) u, blk_set h.o j u, h.e.set h.o ht j u, Kd.R_far (p := ⟨gO, j, none⟩) h.n (fun k hk => show k ≠ gO by omega) u, h1, h2, h.bel.setCell (p := ⟨gO, j, none⟩) (show w.heap.size ≤ gO by omega) u⟩
theorem Tf.fin {cr : Array Value} (h : Tf ts td tb w W gO cin cout [(v2, Z2), (v4, Z4), (v7, Z7)] n0 vB xs) (ht : ∀ q, q ∈ NumT :: kI.E → q ≠ td) : kI.R NumT (W.setRow (w.heap.size + 1) cr) w.heap.size (fun _ => True) v2 Z2 ∧ kR.R tb (W.setRow (w.heap.size + 1) cr) w.heap.size (fun _ => True) vB xs ∧ kI.R NumT (W.setRow (w.heap.size + 1) cr) w.heap.size (fun _ => True) v4 Z4 ∧ kI.R NumT (W.setRow (w.heap.size + 1) cr) w.heap.size (fun _ => True) v7 Z7 ∧ Below w.heap.size w (W.setRow (w.heap.size + 1) cr) := by
  have hk := keep_setRow W (w.heap.size + 1) cr
  have he := h.e.call h.r ht hk
  have hlo := h.lo
  have hhi := h.hi
  refine ⟨he.at_ (v := v2) (l := Z2) (by simp), Kd.R_lower (Kd.R_mono (Kd.R_keep h.n hk (fun k hk => by omega)) (fun _ _ => trivial)) (by omega), he.at_ (v := v4) (l := Z4) (by simp), he.at_ (v := v7) (l := Z7) (by simp), ?_⟩
  have hs : (W.setRow (w.heap.size + 1) cr).heap.size = W.heap.size := setRow_size W (w.heap.size + 1) cr
  have hb : Below (w.heap.size + 1) W (W.setRow (w.heap.size + 1) cr) := ⟨rfl, rfl, rfl, Nat.le_of_eq hs.symm, fun k hk => setRow_other W (w.heap.size + 1) k cr (by omega)⟩
  exact h.bel.trans (hb.mono (by omega))
end
theorem blksOf_snoc (d h : Nat) : ∀ (n : Nat) (s : Int), blksOf d h (n + 1) s = blksOf d h n s ++ [blkOf (blksSt d h n s) d h]
  | 0, s => rfl
  | n + 1, s => by
    show blkOf s d h :: blksOf d h (n + 1) (blkSt s d h) = (blkOf s d h :: blksOf d h n (blkSt s d h)) ++ _
    rw [blksOf_snoc d h n]
    rfl
theorem blksSt_snoc (d h : Nat) : ∀ (n : Nat) (s : Int), blksSt d h (n + 1) s = blkSt (blksSt d h n s) d h
  | 0, s => rfl
  | n + 1, s => by
    show blksSt d h (n + 1) (blkSt s d h) = _
    rw [blksSt_snoc d h n]
    rfl
theorem bAt_le (d h a : Nat) (hd : d ≤ 32) (hh : h ≤ 64) : bAt d h a ≤ a + 8256 := by
  have h1 : d * d ≤ 1024 := Nat.mul_le_mul hd hd
  have h2 : h * d ≤ 2048 := Nat.mul_le_mul hh hd
  have h3 : d * h ≤ 2048 := Nat.mul_le_mul hd hh
  unfold bAt
  omega
set_option maxHeartbeats 16000000 in
set_option maxRecDepth 100000 in
theorem rmake_calls (v d hid ly : Nat) (hs seed : Int) (w : World) (s0 : 0 ≤ seed) (s1 : seed < 18446744073709551616) (hv : v ≤ 64) (hd : d ≤ 32) (hh : hid ≤ 64) (hl : ly ≤ 4) :
    Calls Try.prog 21 #[.agg #[.int .i64 v, .int .i64 d, .int .i64 hs, .int .i64 hid, .int .i64 ly], .int .u64 seed] w fun e w' => ∃ v2 v3 v4 v7 : Value, e = .returned (.agg #[.int .i64 v, .int .i64 d, v2, v3, v4, .int .i64 v, .int .i64 d, v7]) ∧ kI.R NumT w' w.heap.size (fun _ => True) v2 (rowL seed 131072 (v * d)) ∧ kR.R 74 w' w.heap.size (fun _ => True) v3 ((blksOf d hid ly (stI seed (v * d))).map cvR) ∧ kI.R NumT w' w.heap.size (fun _ => True) v4 (gainL (blksSt d hid ly (stI seed (v * d))) d) ∧ kI.R NumT w' w.heap.size (fun _ => True) v7 (rowL (stI (blksSt d hid ly (stI seed (v * d))) d) 65536 (v * d)) ∧ Below w.heap.size w w' := by
  have m1 : v * d ≤ 2048 := Nat.mul_le_mul hv hd
  have e0 : at_ seed 0 = seed := at_zero seed s0 s1
  have e1 : stI seed (v * d) = at_ seed (v * d) := by
    have h := stI_at seed (v * d) 0
    rwa [e0, Nat.zero_add] at h
  rw [e1]
  have E0 := Aside0.mk (show tillerref06_square.f 5000 seed 0 (v : Int) (d : Int) 131072 = some ((v : Int), (d : Int), rowL seed 131072 (v * d), ((v * d : Nat) : Int)) by
    have h := rsquare_eq seed 131072 (.inl rfl) 0 v d 5000 (by omega) (by omega)
    rwa [e0, Nat.zero_add] at h)
  have FIN := Aside0.mk (show ∀ a : Nat, a ≤ 40000 → tillerref06_row.f 5000 seed (a : Int) (d : Int) 16384 65536 = some (gainL (at_ seed a) d, ((a + d : Nat) : Int)) ∧ tillerref06_square.f 5000 seed ((a + d : Nat) : Int) (v : Int) (d : Int) 65536 = some ((v : Int), (d : Int), rowL (stI (at_ seed a) d) 65536 (v * d), ((a + d + v * d : Nat) : Int)) from fun a ha => ⟨rgain_eq seed a d 5000 (by omega) (by omega), by rw [stI_at]; exact rsquare_eq seed 65536 (.inr (.inl rfl)) (a + d) v d 5000 (by omega) (by omega)⟩)
  have HB := Aside0.mk (And.intro m1 (And.intro hd (And.intro hh hl)))
  obtain ⟨LE, hLE⟩ : ∃ L, rowL seed 131072 (v * d) = L := ⟨_, rfl⟩
  rw [hLE] at E0 ⊢
  obtain ⟨S0, hS0⟩ : ∃ s, at_ seed (v * d) = s := ⟨_, rfl⟩
  rw [hS0]
  have HS0 := Aside0.mk hS0
  obtain ⟨p0, hp0⟩ : ∃ p : Nat, v * d = p := ⟨_, rfl⟩
  rw [hp0] at E0
  have HP0 := Aside0.mk hp0
  have T := Aside0.mk (T0.start (ts := 23) (td := 41) (w := w) (cin := #[.int .i64 v, .int .i64 d, .int .i64 hs, .int .i64 hid, .int .i64 ly]))
  clear m1 e0 e1 s0 s1 hv hd hh hl hLE hS0 hp0
  go_enter Try.func21, Try.ntmps21
  simp only [Z30] at T
  go_upto_region 2 with (first
    | ((with_reducible refine gate_store (t := 41) (p := 5) rfl ?_); go_loud (refine store_new_event #[.int .i64 0, .int .i64 0, .slice none 0 0, .slice none 0 0, .slice none 0 0, .int .i64 0, .int .i64 0, .slice none 0 0] rfl rfl rfl (by simp [Act.eval, World.size_alloc]) rfl (by kernel_rfl) rfl (by simp [Value.oneCell']) ?_)))
  have T3 := Aside0.mk (T.out.step (below_alloc (Below.refl _ _) (.cells #[.int .i64 0, .int .i64 0, .slice none 0 0, .slice none 0 0, .slice none 0 0, .int .i64 0, .int .i64 0, .slice none 0 0] 41 (0, 0))))
  have KO3 := Aside0.mk (new3 w (.cells #[.int .i64 v, .int .i64 d, .int .i64 hs, .int .i64 hid, .int .i64 ly] 23 (0, 0)) (.cells #[.int .i64 0, .int .i64 0, .slice none 0 0, .slice none 0 0, .slice none 0 0, .int .i64 0, .int .i64 0, .slice none 0 0] 41 (0, 0)) (.cells #[.int .i64 0, .int .i64 0, .slice none 0 0, .slice none 0 0, .slice none 0 0, .int .i64 0, .int .i64 0, .slice none 0 0] 41 (0, 0)))
  generalize ((w.alloc (.cells #[.int .i64 v, .int .i64 d, .int .i64 hs, .int .i64 hid, .int .i64 ly] 23 (0, 0))).alloc (.cells #[.int .i64 0, .int .i64 0, .slice none 0 0, .slice none 0 0, .slice none 0 0, .int .i64 0, .int .i64 0, .slice none 0 0] 41 (0, 0))).alloc (.cells #[.int .i64 0, .int .i64 0, .slice none 0 0, .slice none 0 0, .slice none 0 0, .int .i64 0, .int .i64 0, .slice none 0 0] 41 (0, 0)) = w3 at T3 KO3 ⊢
  have LO := Aside0.mk (show w.heap.size + 1 < w.heap.size + 1 + 1 from Nat.lt_succ_self _)
  generalize w.heap.size + 1 + 1 = gO at KO3 LO ⊢
  obtain ⟨x0, x1, x3, x4⟩ := cfg5 T3.out.a
  go_upto_region 3 with (first
    | (go_at_call 35; go_loud (refine (tillerref06_square.calls 5000 seed 0 (v : Int) (d : Int) 131072 (v : Int) (d : Int) LE (p0 : Int) _ E0.out).mono ?_); rintro e w4 ⟨v2, rfl, hr, hb⟩; obtain ⟨D2, d2, rfl⟩ := Kd.R_slice hr; have T4 := Aside0.mk (T3.out.made hb hr); have KO4 := Aside0.mk (blk_below KO3.out hb); clear hr hb x0 x1 x3 x4)
    | ((with_reducible refine gate_store (t := 27) (p := 6) rfl ?_); go_loud (refine store_new_event #[.int .i64 (v : Int), .int .i64 (d : Int), .slice D2 LE.length d2] rfl rfl rfl rfl rfl (by kernel_rfl) rfl (by simp [Value.oneCell']) ?_); have B5 := below_alloc (Below.refl w4.heap.size w4) (.cells #[.int .i64 (v : Int), .int .i64 (d : Int), .slice D2 LE.length d2] 27 (0, 0)); have T5 := Aside0.mk (T4.out.step B5); have KO5 := Aside0.mk (blk_below KO4.out B5); have KM := Aside0.mk (blk_new w4 (.cells #[.int .i64 (v : Int), .int .i64 (d : Int), .slice D2 LE.length d2] 27 (0, 0))); clear B5; generalize w4.alloc (.cells #[.int .i64 (v : Int), .int .i64 (d : Int), .slice D2 LE.length d2] 27 (0, 0)) = w5 at T5 KO5 KM ⊢; have y0 := blk_cell KM.out 0; have y1 := blk_cell KM.out 1; have y2 := blk_cell KM.out 2; simp at y0 y1 y2; obtain ⟨z0, z1, z2, z3, z4, z5⟩ := at3 (j := 0) KO5.out; simp at z0 z1 z2; obtain ⟨x0, x1, x3, x4⟩ := cfg5 T5.out.a))
  have TD := Aside0.mk ((((T0.ownc (tb := 74) T5.out KO5.out (by have := LO.out; omega)).put (by decide) 0 (.int .i64 (v : Int))).put (by decide) 1 (.int .i64 (d : Int))).put (by decide) 2 (.slice D2 LE.length d2))
  go_wp2_with fail
  clear x0 x1 x3 x4 y0 y1 y2 z0 z1 z2 z3 z4 z5
  obtain ⟨n0, hn0⟩ : ∃ n, w5.heap.size = n := ⟨_, rfl⟩
  rw [hn0] at TD
  clear hn0
  go_loopg [7] ly (fun kq v7 W => ∃ (i a : Nat) (vB : Value), v7 = .int .i64 (a : Int) ∧ Aside0 (i + kq = ly ∧ a ≤ 2048 + 8256 * i ∧ blksSt d hid i S0 = at_ seed a) ∧ Aside0 (Td kR 23 41 74 w W gO #[.int .i64 v, .int .i64 d, .int .i64 hs, .int .i64 hid, .int .i64 ly] #[.int .i64 (v : Int), .int .i64 (d : Int), .slice D2 LE.length d2, vB, .slice none 0 0, .int .i64 0, .int .i64 0, .slice none 0 0] [(.slice D2 LE.length d2, LE)] n0 vB ((blksOf d hid i S0).map cvR)))
  case atStart => exact ⟨0, p0, .slice none 0 0, rfl, ⟨Nat.zero_add _, by have h1 := HP0.out; have h2 := HB.out.1; omega, by rw [← HP0.out, HS0.out]; rfl⟩, TD⟩
  case round =>
    clear TD T5 KO5 KM T4 KO4 T3 KO3 T
    obtain ⟨i, a, vB, rfl, HI, TD⟩ := hrel
    obtain ⟨AB, cB, rfl⟩ := Kd.R_slice TD.out.n
    have hxl : ((blksOf d hid i S0).map cvR).length = i := by rw [List.length_map]; exact blksLen d hid i S0
    rw [hxl] at TD
    cases gk with
    | succ q =>
      have hi := HI.out
      have hbd := HB.out
      have b1 : decide (i < ly) = true := decide_eq_true (by omega)
      obtain ⟨m0, m1, m2, m3, m4, m5, m6, m7, g1, g2, g3, g4, g5, g6, g7, f0, f1, f2, f3, f4, f5, f6, f7, hD⟩ := rblk_eq seed d hid a 5000 (by omega) (by omega) (by omega) (Nat.le_refl _)
      have hXS : (blksOf d hid i S0).map cvR ++ [(⟨m0, ⟨(d : Int), (d : Int), m1⟩, ⟨(d : Int), (d : Int), m2⟩, ⟨(d : Int), (d : Int), m3⟩, ⟨(d : Int), (d : Int), m4⟩, m5, ⟨(hid : Int), (d : Int), m6⟩, ⟨(d : Int), (hid : Int), m7⟩⟩ : BR)] = (blksOf d hid (i + 1) S0).map cvR := by rw [blksOf_snoc, List.map_append, List.map_cons, List.map_nil, hi.2.2, hD]
      have HN := Aside0.mk (show i + 1 + q = ly ∧ bAt d hid a ≤ 2048 + 8256 * (i + 1) ∧ blksSt d hid (i + 1) S0 = at_ seed (bAt d hid a) from ⟨by omega, by have := bAt_le d hid a (by omega) (by omega); omega, by rw [blksSt_snoc, hi.2.2, blkSt_at]⟩)
      obtain ⟨b8, hb8⟩ : ∃ b : Nat, bAt d hid a = b := ⟨_, rfl⟩
      rw [hb8] at f7 HN
      obtain ⟨XS, hXS0⟩ : ∃ XS, (blksOf d hid i S0).map cvR = XS := ⟨_, rfl⟩
      obtain ⟨X2, hXS2⟩ : ∃ XS, (blksOf d hid (i + 1) S0).map cvR = XS := ⟨_, rfl⟩
      have hx2 : X2.length = i + 1 := by rw [← hXS2, List.length_map, blksLen]
      rw [hXS0] at TD hXS hxl
      rw [hXS2] at hXS
      have HX := Aside0.mk hXS
      have HX2 := Aside0.mk hXS2
      have HXL := Aside0.mk hxl
      have HXM := Aside0.mk hx2
      have F0 := Aside0.mk f0
      have F1 := Aside0.mk f1
      have F2 := Aside0.mk f2
      have F3 := Aside0.mk f3
      have F4 := Aside0.mk f4
      have F5 := Aside0.mk f5
      have F6 := Aside0.mk f6
      have F7 := Aside0.mk f7
      clear hi hbd hD hXS hXS0 hXS2 hxl hx2 hb8 f0 f1 f2 f3 f4 f5 f6 f7
      obtain ⟨x0, x1, x3, x4⟩ := cfg5 TD.out.a
      have q3 := blk_cell TD.out.o 3
      simp at q3
      go_wp2_with (first
        | (go_at_call 35; (with_reducible refine (tillerref06_square.calls 5000 seed g7 (d : Int) (hid : Int) 65536 (d : Int) (hid : Int) m7 (b8 : Int) _ F7.out).mono ?_); rintro e w17 ⟨u7, rfl, hr, hb⟩; obtain ⟨B7, c7, rfl⟩ := Kd.R_slice hr; have P7 := Aside0.mk (Q7.out.made hb hr); have Q8 := Aside0.mk (Rm.cast (bc' := #[(.slice B0 m0.length c0), (.int .i64 (d : Int)), (.int .i64 (d : Int)), (.slice B1 m1.length c1), (.int .i64 (d : Int)), (.int .i64 (d : Int)), (.slice B2 m2.length c2), (.int .i64 (d : Int)), (.int .i64 (d : Int)), (.slice B3 m3.length c3), (.int .i64 (d : Int)), (.int .i64 (d : Int)), (.slice B4 m4.length c4), (.slice B5 m5.length c5), (.int .i64 (hid : Int)), (.int .i64 (d : Int)), (.slice B6 m6.length c6), (.int .i64 (d : Int)), (.int .i64 (hid : Int)), (.slice B7 m7.length c7)]) (((P7.out.put (by decide) 17 (.int .i64 (d : Int))).put (by decide) 18 (.int .i64 (hid : Int))).put (by decide) 19 (.slice B7 m7.length c7)) (by simp)); clear hr hb x0 x1 x3 x4; obtain ⟨x0, x1, x3, x4⟩ := cfg5 Q8.out.a; clear z0 z1 z2 z3 z4 z5; obtain ⟨z0, z1, z2, z3, z4, z5⟩ := at3 (j := 17) P7.out.b; simp at z0 z1 z2; have q3 := blk_cell Q8.out.o 3; simp at q3)
        | (go_at_call 35; (with_reducible refine (tillerref06_square.calls 5000 seed g6 (hid : Int) (d : Int) 65536 (hid : Int) (d : Int) m6 g7 _ F6.out).mono ?_); rintro e w16 ⟨u6, rfl, hr, hb⟩; obtain ⟨B6, c6, rfl⟩ := Kd.R_slice hr; have P6 := Aside0.mk (Q6.out.made hb hr); have Q7 := Aside0.mk (Rm.cast (bc' := #[(.slice B0 m0.length c0), (.int .i64 (d : Int)), (.int .i64 (d : Int)), (.slice B1 m1.length c1), (.int .i64 (d : Int)), (.int .i64 (d : Int)), (.slice B2 m2.length c2), (.int .i64 (d : Int)), (.int .i64 (d : Int)), (.slice B3 m3.length c3), (.int .i64 (d : Int)), (.int .i64 (d : Int)), (.slice B4 m4.length c4), (.slice B5 m5.length c5), (.int .i64 (hid : Int)), (.int .i64 (d : Int)), (.slice B6 m6.length c6), (.int .i64 0), (.int .i64 0), (.slice none 0 0)]) (((P6.out.put (by decide) 14 (.int .i64 (hid : Int))).put (by decide) 15 (.int .i64 (d : Int))).put (by decide) 16 (.slice B6 m6.length c6)) (by simp)); clear hr hb x0 x1 x3 x4; obtain ⟨x0, x1, x3, x4⟩ := cfg5 Q7.out.a; clear z0 z1 z2 z3 z4 z5; obtain ⟨z0, z1, z2, z3, z4, z5⟩ := at3 (j := 14) P6.out.b; simp at z0 z1 z2)
        | (go_at_call 36; (with_reducible refine (tillerref06_row.calls 5000 seed g5 (d : Int) 16384 65536 m5 g6 _ F5.out).mono ?_); rintro e w15 ⟨u5, rfl, hr, hb⟩; obtain ⟨B5, c5, rfl⟩ := Kd.R_slice hr; have P5 := Aside0.mk (Q5.out.made hb hr); have Q6 := Aside0.mk (Rm.cast (bc' := #[(.slice B0 m0.length c0), (.int .i64 (d : Int)), (.int .i64 (d : Int)), (.slice B1 m1.length c1), (.int .i64 (d : Int)), (.int .i64 (d : Int)), (.slice B2 m2.length c2), (.int .i64 (d : Int)), (.int .i64 (d : Int)), (.slice B3 m3.length c3), (.int .i64 (d : Int)), (.int .i64 (d : Int)), (.slice B4 m4.length c4), (.slice B5 m5.length c5), (.int .i64 0), (.int .i64 0), (.slice none 0 0), (.int .i64 0), (.int .i64 0), (.slice none 0 0)]) (P5.out.put (by decide) 13 (.slice B5 m5.length c5)) (by simp)); clear hr hb x0 x1 x3 x4; obtain ⟨x0, x1, x3, x4⟩ := cfg5 Q6.out.a; clear z0 z1 z2 z3 z4 z5; obtain ⟨z0, z1, z2, z3, z4, z5⟩ := at3 (j := 13) P5.out.b; simp at z0 z1 z2)
        | (go_at_call 35; (with_reducible refine (tillerref06_square.calls 5000 seed g4 (d : Int) (d : Int) 65536 (d : Int) (d : Int) m4 g5 _ F4.out).mono ?_); rintro e w14 ⟨u4, rfl, hr, hb⟩; obtain ⟨B4, c4, rfl⟩ := Kd.R_slice hr; have P4 := Aside0.mk (Q4.out.made hb hr); have Q5 := Aside0.mk (Rm.cast (bc' := #[(.slice B0 m0.length c0), (.int .i64 (d : Int)), (.int .i64 (d : Int)), (.slice B1 m1.length c1), (.int .i64 (d : Int)), (.int .i64 (d : Int)), (.slice B2 m2.length c2), (.int .i64 (d : Int)), (.int .i64 (d : Int)), (.slice B3 m3.length c3), (.int .i64 (d : Int)), (.int .i64 (d : Int)), (.slice B4 m4.length c4), (.slice none 0 0), (.int .i64 0), (.int .i64 0), (.slice none 0 0), (.int .i64 0), (.int .i64 0), (.slice none 0 0)]) (((P4.out.put (by decide) 10 (.int .i64 (d : Int))).put (by decide) 11 (.int .i64 (d : Int))).put (by decide) 12 (.slice B4 m4.length c4)) (by simp)); clear hr hb x0 x1 x3 x4; obtain ⟨x0, x1, x3, x4⟩ := cfg5 Q5.out.a; clear z0 z1 z2 z3 z4 z5; obtain ⟨z0, z1, z2, z3, z4, z5⟩ := at3 (j := 10) P4.out.b; simp at z0 z1 z2)
        | (go_at_call 35; (with_reducible refine (tillerref06_square.calls 5000 seed g3 (d : Int) (d : Int) 65536 (d : Int) (d : Int) m3 g4 _ F3.out).mono ?_); rintro e w13 ⟨u3, rfl, hr, hb⟩; obtain ⟨B3, c3, rfl⟩ := Kd.R_slice hr; have P3 := Aside0.mk (Q3.out.made hb hr); have Q4 := Aside0.mk (Rm.cast (bc' := #[(.slice B0 m0.length c0), (.int .i64 (d : Int)), (.int .i64 (d : Int)), (.slice B1 m1.length c1), (.int .i64 (d : Int)), (.int .i64 (d : Int)), (.slice B2 m2.length c2), (.int .i64 (d : Int)), (.int .i64 (d : Int)), (.slice B3 m3.length c3), (.int .i64 0), (.int .i64 0), (.slice none 0 0), (.slice none 0 0), (.int .i64 0), (.int .i64 0), (.slice none 0 0), (.int .i64 0), (.int .i64 0), (.slice none 0 0)]) (((P3.out.put (by decide) 7 (.int .i64 (d : Int))).put (by decide) 8 (.int .i64 (d : Int))).put (by decide) 9 (.slice B3 m3.length c3)) (by simp)); clear hr hb x0 x1 x3 x4; obtain ⟨x0, x1, x3, x4⟩ := cfg5 Q4.out.a; clear z0 z1 z2 z3 z4 z5; obtain ⟨z0, z1, z2, z3, z4, z5⟩ := at3 (j := 7) P3.out.b; simp at z0 z1 z2)
        | (go_at_call 35; (with_reducible refine (tillerref06_square.calls 5000 seed g2 (d : Int) (d : Int) 65536 (d : Int) (d : Int) m2 g3 _ F2.out).mono ?_); rintro e w12 ⟨u2, rfl, hr, hb⟩; obtain ⟨B2, c2, rfl⟩ := Kd.R_slice hr; have P2 := Aside0.mk (Q2.out.made hb hr); have Q3 := Aside0.mk (Rm.cast (bc' := #[(.slice B0 m0.length c0), (.int .i64 (d : Int)), (.int .i64 (d : Int)), (.slice B1 m1.length c1), (.int .i64 (d : Int)), (.int .i64 (d : Int)), (.slice B2 m2.length c2), (.int .i64 0), (.int .i64 0), (.slice none 0 0), (.int .i64 0), (.int .i64 0), (.slice none 0 0), (.slice none 0 0), (.int .i64 0), (.int .i64 0), (.slice none 0 0), (.int .i64 0), (.int .i64 0), (.slice none 0 0)]) (((P2.out.put (by decide) 4 (.int .i64 (d : Int))).put (by decide) 5 (.int .i64 (d : Int))).put (by decide) 6 (.slice B2 m2.length c2)) (by simp)); clear hr hb x0 x1 x3 x4; obtain ⟨x0, x1, x3, x4⟩ := cfg5 Q3.out.a; clear z0 z1 z2 z3 z4 z5; obtain ⟨z0, z1, z2, z3, z4, z5⟩ := at3 (j := 4) P2.out.b; simp at z0 z1 z2)
        | (go_at_call 35; (with_reducible refine (tillerref06_square.calls 5000 seed g1 (d : Int) (d : Int) 65536 (d : Int) (d : Int) m1 g2 _ F1.out).mono ?_); rintro e w11 ⟨u1, rfl, hr, hb⟩; obtain ⟨B1, c1, rfl⟩ := Kd.R_slice hr; have P1 := Aside0.mk (Q1.out.made hb hr); have Q2 := Aside0.mk (Rm.cast (bc' := #[(.slice B0 m0.length c0), (.int .i64 (d : Int)), (.int .i64 (d : Int)), (.slice B1 m1.length c1), (.int .i64 0), (.int .i64 0), (.slice none 0 0), (.int .i64 0), (.int .i64 0), (.slice none 0 0), (.int .i64 0), (.int .i64 0), (.slice none 0 0), (.slice none 0 0), (.int .i64 0), (.int .i64 0), (.slice none 0 0), (.int .i64 0), (.int .i64 0), (.slice none 0 0)]) (((P1.out.put (by decide) 1 (.int .i64 (d : Int))).put (by decide) 2 (.int .i64 (d : Int))).put (by decide) 3 (.slice B1 m1.length c1)) (by simp)); clear hr hb x0 x1 x3 x4; obtain ⟨x0, x1, x3, x4⟩ := cfg5 Q2.out.a; clear z0 z1 z2 z3 z4 z5; obtain ⟨z0, z1, z2, z3, z4, z5⟩ := at3 (j := 1) P1.out.b; simp at z0 z1 z2)
        | (go_at_call 36; (with_reducible refine (tillerref06_row.calls 5000 seed (a : Int) (d : Int) 16384 65536 m0 g1 _ F0.out).mono ?_); rintro e w10 ⟨u0, rfl, hr, hb⟩; obtain ⟨B0, c0, rfl⟩ := Kd.R_slice hr; have P0 := Aside0.mk (Q0.out.made hb hr); have Q1 := Aside0.mk (Rm.cast (bc' := #[(.slice B0 m0.length c0), (.int .i64 0), (.int .i64 0), (.slice none 0 0), (.int .i64 0), (.int .i64 0), (.slice none 0 0), (.int .i64 0), (.int .i64 0), (.slice none 0 0), (.int .i64 0), (.int .i64 0), (.slice none 0 0), (.slice none 0 0), (.int .i64 0), (.int .i64 0), (.slice none 0 0), (.int .i64 0), (.int .i64 0), (.slice none 0 0)]) (P0.out.put (by decide) 0 (.slice B0 m0.length c0)) (by simp)); clear hr hb x0 x1 x3 x4; obtain ⟨x0, x1, x3, x4⟩ := cfg5 Q1.out.a; obtain ⟨z0, z1, z2, z3, z4, z5⟩ := at3 (j := 0) P0.out.b; simp at z0 z1 z2)
        | ((with_reducible refine gate_store (t := 74) (p := 8) rfl ?_); go_loud (refine store_new_event #[(.slice none 0 0), (.int .i64 0), (.int .i64 0), (.slice none 0 0), (.int .i64 0), (.int .i64 0), (.slice none 0 0), (.int .i64 0), (.int .i64 0), (.slice none 0 0), (.int .i64 0), (.int .i64 0), (.slice none 0 0), (.slice none 0 0), (.int .i64 0), (.int .i64 0), (.slice none 0 0), (.int .i64 0), (.int .i64 0), (.slice none 0 0)] rfl rfl rfl rfl rfl (by kernel_rfl) rfl (by simp [Value.oneCell']) ?_); have Q0 := Aside0.mk (Rm.start TD.out (bc := #[(.slice none 0 0), (.int .i64 0), (.int .i64 0), (.slice none 0 0), (.int .i64 0), (.int .i64 0), (.slice none 0 0), (.int .i64 0), (.int .i64 0), (.slice none 0 0), (.int .i64 0), (.int .i64 0), (.slice none 0 0), (.slice none 0 0), (.int .i64 0), (.int .i64 0), (.slice none 0 0), (.int .i64 0), (.int .i64 0), (.slice none 0 0)]) rfl); generalize wr.alloc (.cells #[(.slice none 0 0), (.int .i64 0), (.int .i64 0), (.slice none 0 0), (.int .i64 0), (.int .i64 0), (.slice none 0 0), (.int .i64 0), (.int .i64 0), (.slice none 0 0), (.int .i64 0), (.int .i64 0), (.slice none 0 0), (.slice none 0 0), (.int .i64 0), (.int .i64 0), (.slice none 0 0), (.int .i64 0), (.int .i64 0), (.slice none 0 0)] 74 (0, 0)) = w5' at Q0 ⊢; clear x0 x1 x3 x4 q3; obtain ⟨x0, x1, x3, x4⟩ := cfg5 Q0.out.a)
        | ((with_reducible refine gate_dst (N := 114) rfl ?_); go_loud (refine load_row_event #[(Value.slice B0 m0.length c0), (Value.int .i64 (d : Int)), (Value.int .i64 (d : Int)), (Value.slice B1 m1.length c1), (Value.int .i64 (d : Int)), (Value.int .i64 (d : Int)), (Value.slice B2 m2.length c2), (Value.int .i64 (d : Int)), (Value.int .i64 (d : Int)), (Value.slice B3 m3.length c3), (Value.int .i64 (d : Int)), (Value.int .i64 (d : Int)), (Value.slice B4 m4.length c4), (Value.slice B5 m5.length c5), (Value.int .i64 (hid : Int)), (Value.int .i64 (d : Int)), (Value.slice B6 m6.length c6), (Value.int .i64 (d : Int)), (Value.int .i64 (hid : Int)), (Value.slice B7 m7.length c7)] rfl rfl rfl rfl Q8.out.b Try.underlying74 rfl (by kernel_rfl) ?_))
        | ((with_reducible refine gate_builtin (b := .append) (xs := #[.tmp 113, .tmp 115]) rfl ?_); go_loud ((refine Kd.R_append kR n0 rfl (.tmp 113) (.tmp 115) 39 74 (.agg #[(.slice none 0 0), (.int .i64 0), (.int .i64 0), (.slice none 0 0), (.int .i64 0), (.int .i64 0), (.slice none 0 0), (.int .i64 0), (.int .i64 0), (.slice none 0 0), (.int .i64 0), (.int .i64 0), (.slice none 0 0), (.slice none 0 0), (.int .i64 0), (.int .i64 0), (.slice none 0 0), (.int .i64 0), (.int .i64 0), (.slice none 0 0)]) 288 rfl Try.underlying39 info74 rfl (by decide) (by omega) (.slice AB i cB) XS (⟨m0, ⟨(d : Int), (d : Int), m1⟩, ⟨(d : Int), (d : Int), m2⟩, ⟨(d : Int), (d : Int), m3⟩, ⟨(d : Int), (d : Int), m4⟩, m5, ⟨(hid : Int), (d : Int), m6⟩, ⟨(d : Int), (hid : Int), m7⟩⟩ : BR) [(Value.slice B0 m0.length c0), (Value.int .i64 (d : Int)), (Value.int .i64 (d : Int)), (Value.slice B1 m1.length c1), (Value.int .i64 (d : Int)), (Value.int .i64 (d : Int)), (Value.slice B2 m2.length c2), (Value.int .i64 (d : Int)), (Value.int .i64 (d : Int)), (Value.slice B3 m3.length c3), (Value.int .i64 (d : Int)), (Value.int .i64 (d : Int)), (Value.slice B4 m4.length c4), (Value.slice B5 m5.length c5), (Value.int .i64 (hid : Int)), (Value.int .i64 (d : Int)), (Value.slice B6 m6.length c6), (Value.int .i64 (d : Int)), (Value.int .i64 (hid : Int)), (Value.slice B7 m7.length c7)] (fun k => n0 ≤ k) (fun k => wr.heap.size ≤ k) rfl (by simp [Act.eval, World.size_setCell]) ?aP ?aQ ?aF ?aO (Below.refl _ _) ?aS ?aL ?_); (case aP => exact k74_mkM _ n0 (fun k => wr.heap.size ≤ k) (⟨m0, ⟨(d : Int), (d : Int), m1⟩, ⟨(d : Int), (d : Int), m2⟩, ⟨(d : Int), (d : Int), m3⟩, ⟨(d : Int), (d : Int), m4⟩, m5, ⟨(hid : Int), (d : Int), m6⟩, ⟨(d : Int), (hid : Int), m7⟩⟩ : BR) (Q8.out.row (v := .slice B0 m0.length c0) (l := m0) (by simp)) (Q8.out.row (v := .slice B1 m1.length c1) (l := m1) (by simp)) (Q8.out.row (v := .slice B2 m2.length c2) (l := m2) (by simp)) (Q8.out.row (v := .slice B3 m3.length c3) (l := m3) (by simp)) (Q8.out.row (v := .slice B4 m4.length c4) (l := m4) (by simp)) (Q8.out.row (v := .slice B5 m5.length c5) (l := m5) (by simp)) (Q8.out.row (v := .slice B6 m6.length c6) (l := m6) (by simp)) (Q8.out.row (v := .slice B7 m7.length c7) (l := m7) (by simp))); (case aQ => exact fun k hk => ⟨Nat.le_trans Q8.out.lb hk, fun e => by have h1 := Kd.R_lt TD.out.n k e.symm; omega⟩); (case aF => exact fun k hk => Nat.le_trans Q8.out.toTd.up hk); (case aO => exact Q8.out.toTd.n); (case aS => exact Q8.out.toTd.up); (case aL => have e1 := HXL.out; have e2 := HN.out.1; have e3 := HB.out.2.2.2; omega); intro v9 w9 hN hB hg hat; rw [HX.out] at hN; obtain ⟨A9, c9, rfl⟩ := Kd.R_slice hN; have TD9 := Aside0.mk (Q8.out.toTd.grown hN hB); have z6 := blk_cell TD9.out.o 3; have z7 := blk_frozen TD9.out.o 3; simp at z6; have TD10 := Aside0.mk (TD9.out.put (by decide) 3 (.slice A9 X2.length c9)); clear hN hB hg hat)))
      go_roundg q
      case measure => omega
      case rel => exact ⟨i + 1, b8, .slice A9 X2.length c9, rfl, HN, ⟨by rw [HX2.out]; exact TD10.out⟩⟩
    | zero =>
      have hi := HI.out
      have b1 : decide (i < ly) = false := decide_eq_false (by omega)
      obtain rfl : i = ly := by omega
      obtain ⟨f0, f1⟩ := FIN.out a (by have := HB.out.2.2.2; omega)
      rw [← hi.2.2] at f0 f1
      obtain ⟨LG, hLG⟩ : ∃ L, gainL (blksSt d hid i S0) d = L := ⟨_, rfl⟩
      obtain ⟨LO7, hLO⟩ : ∃ L, rowL (stI (blksSt d hid i S0) d) 65536 (v * d) = L := ⟨_, rfl⟩
      rw [hLG] at f0
      rw [hLO] at f1
      have F0 := Aside0.mk f0
      have F1 := Aside0.mk f1
      have HLG := Aside0.mk hLG
      have HLO := Aside0.mk hLO
      have TF := Aside0.mk TD.out.tf
      clear hi f0 f1 hLG hLO hxl TD
      obtain ⟨x0, x1, x3, x4⟩ := cfg5 TF.out.a
      have q3 := blk_cell TF.out.o 3
      simp at q3
      go_wp2_with (first
        | (go_at_call 36; go_loud (refine (tillerref06_row.calls 5000 seed (a : Int) (d : Int) 16384 65536 LG ((a + d : Nat) : Int) _ F0.out).mono ?_); rintro e w6 ⟨v4, rfl, hr, hb⟩; obtain ⟨D4, d4, rfl⟩ := Kd.R_slice hr; have T1 := Aside0.mk (TF.out.made hb hr); have T2 := Aside0.mk (T1.out.put (by decide) 4 (.slice D4 LG.length d4)); clear hr hb x0 x1 x3 x4 q3; obtain ⟨x0, x1, x3, x4⟩ := cfg5 T2.out.a; have z0 := blk_cell T1.out.o 4; have z3 := blk_frozen T1.out.o 4; simp at z0)
        | (go_at_call 35; go_loud (refine (tillerref06_square.calls 5000 seed ((a + d : Nat) : Int) (v : Int) (d : Int) 65536 (v : Int) (d : Int) LO7 ((a + d + v * d : Nat) : Int) _ F1.out).mono ?_); rintro e w7 ⟨v7, rfl, hr, hb⟩; obtain ⟨D7, d7, rfl⟩ := Kd.R_slice hr; have T3 := Aside0.mk (T2.out.made hb hr); have T4 := Aside0.mk (((T3.out.put (by decide) 5 (.int .i64 (v : Int))).put (by decide) 6 (.int .i64 (d : Int))).put (by decide) 7 (.slice D7 LO7.length d7)); clear hr hb x0 x1 x3 x4 z0 z3; obtain ⟨z0, z1, z2, z3, z4, z5⟩ := at3 (j := 5) T3.out.o; simp at z0 z1 z2)
        | ((with_reducible refine gate_dst (N := 138) rfl ?_); go_loud (refine load_row_event #[.int .i64 (v : Int), .int .i64 (d : Int), .slice D2 LE.length d2, .slice AB i cB, .slice D4 LG.length d4, .int .i64 (v : Int), .int .i64 (d : Int), .slice D7 LO7.length d7] rfl rfl rfl rfl T4.out.o Try.underlying41 rfl (by kernel_rfl) ?_))
        | ((with_reducible refine gate_store (t := 41) (p := 4) rfl ?_); go_loud (refine store_box_event #[.int .i64 (v : Int), .int .i64 (d : Int), .slice D2 LE.length d2, .slice AB i cB, .slice D4 LG.length d4, .int .i64 (v : Int), .int .i64 (d : Int), .slice D7 LO7.length d7] rfl rfl rfl rfl rfl T4.out.r (by kernel_rfl) rfl (by simp [Value.oneCell']) ?_)))
      have HF := T4.out.fin (cr := #[.int .i64 (v : Int), .int .i64 (d : Int), .slice D2 LE.length d2, .slice AB i cB, .slice D4 LG.length d4, .int .i64 (v : Int), .int .i64 (d : Int), .slice D7 LO7.length d7]) (by decide)
      refine bodyPost_ret (results_cell_row rfl _ _ (w.heap.size + 1) 41 #[.int .i64 (v : Int), .int .i64 (d : Int), .slice D2 LE.length d2, .slice AB i cB, .slice D4 LG.length d4, .int .i64 (v : Int), .int .i64 (d : Int), .slice D7 LO7.length d7] (0, 0) _ rfl (blk_setRow T4.out.r _) Try.underlying41 rfl (by kernel_rfl)) rfl ⟨_, _, _, _, rfl, HF.1, HF.2.1, by rw [HLG.out]; exact HF.2.2.1, by rw [HLO.out]; exact HF.2.2.2.1, HF.2.2.2.2⟩

end Go.Proofs.Ytdlhodbokkaghaa.GQ
