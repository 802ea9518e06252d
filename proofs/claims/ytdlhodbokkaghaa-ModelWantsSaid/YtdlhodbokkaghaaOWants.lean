/- ModelWants, walked by hand. Written by this session's program gwants.py. -/
import Derived.Test.YtdlhodbokkaghaaGQx3
import Derived.Test.YtdlhodbokkaghaaGSpoil
import Derived.Outline
set_option linter.unusedVariables false
set_option linter.unusedSimpArgs false
namespace Go.Proofs.Ytdlhodbokkaghaa.OWants
open Go.RowKit Go.Proofs.YtdlhodbokkaghaaW.PrintWords Go.Proofs.YtdlhodbokkaghaaW.PrintLast Go.Proofs.YtdlhodbokkaghaaW.PrintMore Go.Proofs.Ytdlhodbokkaghaa.GQ Go.Proofs.Ytdlhodbokkaghaa.U
theorem awake_true : tillerlaw06_awake.f 50 = some true := by decide +kernel
theorem CX {α : Type} {k : Kd α} {w W : World} {A : Option Addr} {c : Nat} {l : List α} (h : k.C w A l.length l ∧ l.length ≤ c) (hb : Below w.heap.size w W) : k.C W A l.length l ∧ l.length ≤ c := ⟨Kd.C_below h.1 hb, h.2⟩
/-- The configuration and the model, cell by cell. -/
abbrev SP (w0 : World) (g0 g1 : Nat) (a0 a1 a2 a3 a4 : Int) (u0 u1 u2 u3 u4 u5 u6 u7 : Value) (W : World) : Prop :=
  (W.cell? ⟨g0, 0, none⟩ = some (.int .i64 a0) ∧ W.cell? ⟨g0, 1, none⟩ = some (.int .i64 a1) ∧ W.cell? ⟨g0, 2, none⟩ = some (.int .i64 a2) ∧ W.cell? ⟨g0, 3, none⟩ = some (.int .i64 a3) ∧ W.cell? ⟨g0, 4, none⟩ = some (.int .i64 a4)) ∧
  (W.cell? ⟨g1, 0, none⟩ = some u0 ∧ W.cell? ⟨g1, 1, none⟩ = some u1 ∧ W.cell? ⟨g1, 2, none⟩ = some u2 ∧ W.cell? ⟨g1, 3, none⟩ = some u3 ∧ W.cell? ⟨g1, 4, none⟩ = some u4 ∧ W.cell? ⟨g1, 5, none⟩ = some u5 ∧ W.cell? ⟨g1, 6, none⟩ = some u6 ∧ W.cell? ⟨g1, 7, none⟩ = some u7) ∧
  W.heap[g0]? = some (.cells (CF a0 a1 a2 a3 a4) 23 (0, 0)) ∧ W.heap[g1]? = some (.cells #[u0, u1, u2, u3, u4, u5, u6, u7] 30 (0, 0)) ∧ Below w0.heap.size w0 W
theorem SP.mk' {w0 W : World} {g0 g1 : Nat} {a0 a1 a2 a3 a4 : Int} {u0 u1 u2 u3 u4 u5 u6 u7 : Value} (h0 : W.heap[g0]? = some (.cells (CF a0 a1 a2 a3 a4) 23 (0, 0))) (h1 : W.heap[g1]? = some (.cells #[u0, u1, u2, u3, u4, u5, u6, u7] 30 (0, 0))) (hb : Below w0.heap.size w0 W) : SP w0 g0 g1 a0 a1 a2 a3 a4 u0 u1 u2 u3 u4 u5 u6 u7 W :=
  ⟨⟨blk_cell h0 0, blk_cell h0 1, blk_cell h0 2, blk_cell h0 3, blk_cell h0 4⟩, ⟨blk_cell h1 0, blk_cell h1 1, blk_cell h1 2, blk_cell h1 3, blk_cell h1 4, blk_cell h1 5, blk_cell h1 6, blk_cell h1 7⟩, h0, h1, hb⟩
theorem SP.keep {w0 W W' : World} {g0 g1 : Nat} {a0 a1 a2 a3 a4 : Int} {u0 u1 u2 u3 u4 u5 u6 u7 : Value} (h : SP w0 g0 g1 a0 a1 a2 a3 a4 u0 u1 u2 u3 u4 u5 u6 u7 W) (hb : Below W.heap.size W W') : SP w0 g0 g1 a0 a1 a2 a3 a4 u0 u1 u2 u3 u4 u5 u6 u7 W' := SP.mk' (blk_below h.2.2.1 hb) (blk_below h.2.2.2.1 hb) (h.2.2.2.2.trans (hb.mono h.2.2.2.2.size))
theorem SP.bel {w0 W : World} {g0 g1 : Nat} {a0 a1 a2 a3 a4 : Int} {u0 u1 u2 u3 u4 u5 u6 u7 : Value} (h : SP w0 g0 g1 a0 a1 a2 a3 a4 u0 u1 u2 u3 u4 u5 u6 u7 W) : Below w0.heap.size w0 W := h.2.2.2.2
theorem blk_mem (d h : Nat) : ∀ (n : Nat) (s : Int), ∀ b ∈ blksOf d h n s, ∃ s', b = blkOf s' d h
  | 0, s, b, hb => by cases hb
  | n + 1, s, b, hb => by
    rcases List.mem_cons.mp hb with rfl | hb
    · exact ⟨s, rfl⟩
    · exact blk_mem d h n _ b hb
theorem sideB_made (r c : Nat) (l : List Int) (h : l.length = r * c) (r1 : 1 ≤ r) (r2 : r ≤ 128) (c1 : 1 ≤ c) (c2 : c ≤ 128) : sideB r c l r c = true := by
  unfold sideB
  refine decide_eq_true ⟨by omega, by omega, by omega, by omega, ?_, rfl, rfl⟩
  rw [h]
  push_cast
  rfl
theorem blksLen (d h : Nat) : ∀ (n : Nat) (s : Int), (blksOf d h n s).length = n
  | 0, s => rfl
  | n + 1, s => by show (blksOf d h n _).length + 1 = n + 1; rw [blksLen d h n]
theorem chk_made (v d hid ly : Nat) (hs : Int) (seed s : Int) (s2 s3 : Int) (h : shp v d hs hid ly = 0) : chk v d hs hid ly v d (rowL seed 131072 (v * d)) (blksOf d hid ly s) (gainL s2 d) v d (rowL s3 65536 (v * d)) = 0 := by
  obtain ⟨⟨v0, v1⟩, ⟨d0, d1⟩, _, ⟨i0, i1⟩, ⟨l0, l1⟩⟩ := shp_ok h
  unfold chk
  rw [if_pos h, if_pos]
  refine ⟨sideB_made v d _ (rowL_length _ _ _) (by omega) (by omega) (by omega) (by omega), sideB_made v d _ (rowL_length _ _ _) (by omega) (by omega) (by omega) (by omega), by rw [gainL_length], by rw [blksLen], ?_⟩
  rw [List.all_eq_true]
  intro b hb
  obtain ⟨s', rfl⟩ := blk_mem _ _ _ _ b hb
  unfold blkB blkOf
  simp only [Bool.and_eq_true, beq_iff_eq]
  refine ⟨sideB_made d d _ (rowL_length _ _ _) (by omega) (by omega) (by omega) (by omega), sideB_made d d _ (rowL_length _ _ _) (by omega) (by omega) (by omega) (by omega), sideB_made d d _ (rowL_length _ _ _) (by omega) (by omega) (by omega) (by omega), sideB_made d d _ (rowL_length _ _ _) (by omega) (by omega) (by omega) (by omega), sideB_made hid d _ (rowL_length _ _ _) (by omega) (by omega) (by omega) (by omega), sideB_made d hid _ (rowL_length _ _ _) (by omega) (by omega) (by omega) (by omega), by rw [gainL_length], by rw [gainL_length]⟩
theorem chk_shp {v d hs hid ly r c : Int} {l2 : List Int} {l3 : List BK} {l4 : List Int} {r' c' : Int} {l7 : List Int} (h : chk v d hs hid ly r c l2 l3 l4 r' c' l7 = 0) : shp v d hs hid ly = 0 ∧ sideB r c l2 v d = true ∧ sideB r' c' l7 v d = true ∧ (l4.length : Int) = d ∧ (l3.length : Int) = ly ∧ l3.all (blkB d hid) = true := by
  unfold chk at h
  split at h
  · rename_i e
    split at h
    · rename_i e2
      exact ⟨e, e2⟩
    · cases h
  · rename_i e
    exact absurd h e
theorem chk_four {v d hs hid ly r c : Int} {l2 : List Int} {l3 : List BK} {l4 : List Int} {r' c' : Int} {l7 : List Int} (h0 : shp v d hs hid ly = 0) (h : ¬ (sideB r c l2 v d = true ∧ sideB r' c' l7 v d = true ∧ (l4.length : Int) = d ∧ (l3.length : Int) = ly ∧ l3.all (blkB d hid) = true)) : chk v d hs hid ly r c l2 l3 l4 r' c' l7 = 4 := by
  unfold chk
  rw [if_pos h0, if_neg h]
theorem side_len {r c a b : Int} {l l' : List Int} (h : sideB r c l a b = true) (hn : l'.length ≠ l.length) : sideB r c l' a b = false := by
  unfold sideB at *
  have h1 := of_decide_eq_true h
  refine decide_eq_false ?_
  rintro ⟨_, _, _, _, e, _⟩
  have := h1.2.2.2.2.1
  omega
/-- The last element with a cell written over. -/
theorem last_put {W : World} {gR n cap j b : Nat} {l3 : List BK} (h : kB.R 37 W b (fun _ => True) (.slice (some ⟨gR, 0, none⟩) n cap) l3) (hp : 1 ≤ n) (hj : j < 20) (u : Value) (x' : BK)
    (hx : ∀ c, kB.M W b (fun k => True ∧ k ≠ gR) (l3.getD (n - 1) z37) c → kB.K (W.setCell ⟨gR, (n - 1) * 20 + j, none⟩ u) x' (c.set j u)) : Kd.C kB (W.setCell ⟨gR, (n - 1) * 20 + j, none⟩ u) (some ⟨gR, 0, none⟩) n (l3.set (n - 1) x') := by
  obtain ⟨hn, hcap, hC⟩ := Kd.R_reads' h
  refine ⟨by rw [List.length_set]; exact hn.symm, by rw [hn]; exact hC.2.1, fun _ => ⟨⟨gR, 0, none⟩, rfl, fun i p hi => ?_⟩⟩
  have hil : i < n := by have := (List.getElem?_eq_some_iff.1 hi).1; rw [List.length_set] at this; omega
  obtain ⟨c, hc1, hM, hc, _⟩ := Kd.R_elem h z37 (i : Int) (by omega) (by omega)
  rw [Int.toNat_natCast] at hM hc
  have hs : ∀ k, i * kB.sz + k = i * 20 + k := fun _ => rfl
  have ha : ∀ k, (⟨gR, 0, none⟩ : Addr).add (i * 20 + k) = ⟨gR, i * 20 + k, none⟩ := fun k => add_plain _ _
  by_cases e : i = n - 1
  · subst e
    rw [List.getElem?_set_self (by omega)] at hi
    obtain rfl := Option.some.inj hi
    refine ⟨c.set j u, by rw [List.length_set]; exact hc1, hx c hM, fun k v hk => ?_⟩
    show World.cell? _ ((⟨gR, 0, none⟩ : Addr).add ((n - 1) * 20 + k)) = _
    rw [ha]
    by_cases ek : k = j
    · subst ek
      have hk2 : k < c.length := by rw [hc1]; exact hj
      rw [List.getElem?_set_self hk2] at hk
      obtain rfl := Option.some.inj hk
      exact World.cell?_setCell_same _ _ _ (hc k _ (List.getElem?_eq_getElem hk2))
    · rw [List.getElem?_set_ne (fun h => ek h.symm)] at hk
      rw [World.cell?_setCell_other _ _ _ _ (fun h : (⟨gR, (n - 1) * 20 + j, none⟩ : Addr) = ⟨gR, (n - 1) * 20 + k, none⟩ => ek (by injection h with h1 h2; omega))]
      exact hc k v hk
  · rw [List.getElem?_set_ne (fun h => e h.symm)] at hi
    have e2 : l3.getD i z37 = p := by rw [List.getD_eq_getElem?_getD, hi]; rfl
    rw [e2] at hM
    refine ⟨c, hc1, ?_, fun k v hk => ?_⟩
    · exact kB.K_of_M (Kd.M_step (w1 := W.setCell ⟨gR, (n - 1) * 20 + j, none⟩ u) hM (fun k hk _ => Below.heap_setCell _ _ _ _ hk.2))
    · show World.cell? _ ((⟨gR, 0, none⟩ : Addr).add (i * 20 + k)) = _
      rw [ha]
      have hk2 : k < 20 := by have := (List.getElem?_eq_some_iff.1 hk).1; rw [hc1] at this; exact this
      rw [World.cell?_setCell_other _ _ _ _ (fun h : (⟨gR, (n - 1) * 20 + j, none⟩ : Addr) = ⟨gR, i * 20 + k, none⟩ => by injection h with h1 h2; omega)]
      exact hc k v hk
/-- What is left behind the law's store: the boxes, the rows, and that they don't fit any more. -/
structure Aft (w W : World) (g9 : Nat) (r c hs a3 a4 : Int) : Prop where
  out : ∃ (U2 : Option Addr) (e2 : Nat) (m2 : List Int) (U3 : Option Addr) (e3 : Nat) (m3 : List BK) (U4 : Option Addr) (e4 : Nat) (m4 : List Int) (U7 : Option Addr) (e7 : Nat) (m7 : List Int),
    W.heap[w.heap.size]? = some (.cells (CF r c hs a3 a4) 23 (0, 0)) ∧ W.heap[g9]? = some (.cells #[.int .i64 r, .int .i64 c, .slice U2 m2.length e2, .slice U3 m3.length e3, .slice U4 m4.length e4, .int .i64 r, .int .i64 c, .slice U7 m7.length e7] 30 (0, 0)) ∧
    (Kd.C kI W U2 m2.length m2 ∧ m2.length ≤ e2) ∧ (Kd.C kB W U3 m3.length m3 ∧ m3.length ≤ e3) ∧ (Kd.C kI W U4 m4.length m4 ∧ m4.length ≤ e4) ∧ (Kd.C kI W U7 m7.length m7 ∧ m7.length ≤ e7) ∧ m3.length ≤ 1000 ∧ chk r c hs a3 a4 r c m2 m3 m4 r c m7 = 4
  bel : Below w.heap.size w W
theorem upd0 {W : World} {gR o b : Nat} {X : BK} {c : List Value} (hM : kB.M W b (fun k => True ∧ k ≠ gR) X c) (A' : Option Addr) (c' : Nat) (l' : List Int) (hl : l'.length ≤ c') (hC : Kd.C kI (W.setCell ⟨gR, o, none⟩ (.slice A' l'.length c')) A' l'.length l') : kB.K (W.setCell ⟨gR, o, none⟩ (.slice A' l'.length c')) ({X with f0 := l'}) (c.set 0 (.slice A' l'.length c')) := by
  obtain ⟨v0, v3, v6, v9, v12, v13, v16, v19, rfl, r0, r1, r2, r3, r4, r5, r6, r7⟩ := k37_openM hM
  obtain ⟨A0, c0, rfl, e0, h0⟩ := Kd.R_reads (Kd.R_far (p := ⟨gR, o, none⟩) r0 (fun k hk => hk.2) (.slice A' l'.length c'))
  obtain ⟨A1, c1, rfl, e1, h1⟩ := Kd.R_reads (Kd.R_far (p := ⟨gR, o, none⟩) r1 (fun k hk => hk.2) (.slice A' l'.length c'))
  obtain ⟨A2, c2, rfl, e2, h2⟩ := Kd.R_reads (Kd.R_far (p := ⟨gR, o, none⟩) r2 (fun k hk => hk.2) (.slice A' l'.length c'))
  obtain ⟨A3, c3, rfl, e3, h3⟩ := Kd.R_reads (Kd.R_far (p := ⟨gR, o, none⟩) r3 (fun k hk => hk.2) (.slice A' l'.length c'))
  obtain ⟨A4, c4, rfl, e4, h4⟩ := Kd.R_reads (Kd.R_far (p := ⟨gR, o, none⟩) r4 (fun k hk => hk.2) (.slice A' l'.length c'))
  obtain ⟨A5, c5, rfl, e5, h5⟩ := Kd.R_reads (Kd.R_far (p := ⟨gR, o, none⟩) r5 (fun k hk => hk.2) (.slice A' l'.length c'))
  obtain ⟨A6, c6, rfl, e6, h6⟩ := Kd.R_reads (Kd.R_far (p := ⟨gR, o, none⟩) r6 (fun k hk => hk.2) (.slice A' l'.length c'))
  obtain ⟨A7, c7, rfl, e7, h7⟩ := Kd.R_reads (Kd.R_far (p := ⟨gR, o, none⟩) r7 (fun k hk => hk.2) (.slice A' l'.length c'))
  exact k37_mk _ ({X with f0 := l'}) hl hC e1 h1 e2 h2 e3 h3 e4 h4 e5 h5 e6 h6 e7 h7
theorem bad0 {X : BK} {d h : Int} (hX : blkB d h X = true) (l' : List Int) (hn : l'.length ≠ X.f0.length) : blkB d h ({X with f0 := l'}) = false := by
  unfold blkB at *
  simp only [Bool.and_eq_true, beq_iff_eq] at hX
  obtain ⟨q1, q2, q3, q4, q6, q7, q0, q5⟩ := hX
  have hs : ((l'.length : Int) == d) = false := beq_eq_false_iff_ne.mpr (by omega)
  simp [hs]
theorem upd1 {W : World} {gR o b : Nat} {X : BK} {c : List Value} (hM : kB.M W b (fun k => True ∧ k ≠ gR) X c) (A' : Option Addr) (c' : Nat) (l' : List Int) (hl : l'.length ≤ c') (hC : Kd.C kI (W.setCell ⟨gR, o, none⟩ (.slice A' l'.length c')) A' l'.length l') : kB.K (W.setCell ⟨gR, o, none⟩ (.slice A' l'.length c')) ({X with f1 := {X.f1 with f2 := l'}}) (c.set 3 (.slice A' l'.length c')) := by
  obtain ⟨v0, v3, v6, v9, v12, v13, v16, v19, rfl, r0, r1, r2, r3, r4, r5, r6, r7⟩ := k37_openM hM
  obtain ⟨A0, c0, rfl, e0, h0⟩ := Kd.R_reads (Kd.R_far (p := ⟨gR, o, none⟩) r0 (fun k hk => hk.2) (.slice A' l'.length c'))
  obtain ⟨A1, c1, rfl, e1, h1⟩ := Kd.R_reads (Kd.R_far (p := ⟨gR, o, none⟩) r1 (fun k hk => hk.2) (.slice A' l'.length c'))
  obtain ⟨A2, c2, rfl, e2, h2⟩ := Kd.R_reads (Kd.R_far (p := ⟨gR, o, none⟩) r2 (fun k hk => hk.2) (.slice A' l'.length c'))
  obtain ⟨A3, c3, rfl, e3, h3⟩ := Kd.R_reads (Kd.R_far (p := ⟨gR, o, none⟩) r3 (fun k hk => hk.2) (.slice A' l'.length c'))
  obtain ⟨A4, c4, rfl, e4, h4⟩ := Kd.R_reads (Kd.R_far (p := ⟨gR, o, none⟩) r4 (fun k hk => hk.2) (.slice A' l'.length c'))
  obtain ⟨A5, c5, rfl, e5, h5⟩ := Kd.R_reads (Kd.R_far (p := ⟨gR, o, none⟩) r5 (fun k hk => hk.2) (.slice A' l'.length c'))
  obtain ⟨A6, c6, rfl, e6, h6⟩ := Kd.R_reads (Kd.R_far (p := ⟨gR, o, none⟩) r6 (fun k hk => hk.2) (.slice A' l'.length c'))
  obtain ⟨A7, c7, rfl, e7, h7⟩ := Kd.R_reads (Kd.R_far (p := ⟨gR, o, none⟩) r7 (fun k hk => hk.2) (.slice A' l'.length c'))
  exact k37_mk _ ({X with f1 := {X.f1 with f2 := l'}}) e0 h0 hl hC e2 h2 e3 h3 e4 h4 e5 h5 e6 h6 e7 h7
theorem bad1 {X : BK} {d h : Int} (hX : blkB d h X = true) (l' : List Int) (hn : l'.length ≠ X.f1.f2.length) : blkB d h ({X with f1 := {X.f1 with f2 := l'}}) = false := by
  unfold blkB at *
  simp only [Bool.and_eq_true, beq_iff_eq] at hX
  obtain ⟨q1, q2, q3, q4, q6, q7, q0, q5⟩ := hX
  have hs := side_len (l' := l') q1 hn
  simp [hs]
theorem upd2 {W : World} {gR o b : Nat} {X : BK} {c : List Value} (hM : kB.M W b (fun k => True ∧ k ≠ gR) X c) (A' : Option Addr) (c' : Nat) (l' : List Int) (hl : l'.length ≤ c') (hC : Kd.C kI (W.setCell ⟨gR, o, none⟩ (.slice A' l'.length c')) A' l'.length l') : kB.K (W.setCell ⟨gR, o, none⟩ (.slice A' l'.length c')) ({X with f2 := {X.f2 with f2 := l'}}) (c.set 6 (.slice A' l'.length c')) := by
  obtain ⟨v0, v3, v6, v9, v12, v13, v16, v19, rfl, r0, r1, r2, r3, r4, r5, r6, r7⟩ := k37_openM hM
  obtain ⟨A0, c0, rfl, e0, h0⟩ := Kd.R_reads (Kd.R_far (p := ⟨gR, o, none⟩) r0 (fun k hk => hk.2) (.slice A' l'.length c'))
  obtain ⟨A1, c1, rfl, e1, h1⟩ := Kd.R_reads (Kd.R_far (p := ⟨gR, o, none⟩) r1 (fun k hk => hk.2) (.slice A' l'.length c'))
  obtain ⟨A2, c2, rfl, e2, h2⟩ := Kd.R_reads (Kd.R_far (p := ⟨gR, o, none⟩) r2 (fun k hk => hk.2) (.slice A' l'.length c'))
  obtain ⟨A3, c3, rfl, e3, h3⟩ := Kd.R_reads (Kd.R_far (p := ⟨gR, o, none⟩) r3 (fun k hk => hk.2) (.slice A' l'.length c'))
  obtain ⟨A4, c4, rfl, e4, h4⟩ := Kd.R_reads (Kd.R_far (p := ⟨gR, o, none⟩) r4 (fun k hk => hk.2) (.slice A' l'.length c'))
  obtain ⟨A5, c5, rfl, e5, h5⟩ := Kd.R_reads (Kd.R_far (p := ⟨gR, o, none⟩) r5 (fun k hk => hk.2) (.slice A' l'.length c'))
  obtain ⟨A6, c6, rfl, e6, h6⟩ := Kd.R_reads (Kd.R_far (p := ⟨gR, o, none⟩) r6 (fun k hk => hk.2) (.slice A' l'.length c'))
  obtain ⟨A7, c7, rfl, e7, h7⟩ := Kd.R_reads (Kd.R_far (p := ⟨gR, o, none⟩) r7 (fun k hk => hk.2) (.slice A' l'.length c'))
  exact k37_mk _ ({X with f2 := {X.f2 with f2 := l'}}) e0 h0 e1 h1 hl hC e3 h3 e4 h4 e5 h5 e6 h6 e7 h7
theorem bad2 {X : BK} {d h : Int} (hX : blkB d h X = true) (l' : List Int) (hn : l'.length ≠ X.f2.f2.length) : blkB d h ({X with f2 := {X.f2 with f2 := l'}}) = false := by
  unfold blkB at *
  simp only [Bool.and_eq_true, beq_iff_eq] at hX
  obtain ⟨q1, q2, q3, q4, q6, q7, q0, q5⟩ := hX
  have hs := side_len (l' := l') q2 hn
  simp [hs]
theorem upd3 {W : World} {gR o b : Nat} {X : BK} {c : List Value} (hM : kB.M W b (fun k => True ∧ k ≠ gR) X c) (A' : Option Addr) (c' : Nat) (l' : List Int) (hl : l'.length ≤ c') (hC : Kd.C kI (W.setCell ⟨gR, o, none⟩ (.slice A' l'.length c')) A' l'.length l') : kB.K (W.setCell ⟨gR, o, none⟩ (.slice A' l'.length c')) ({X with f3 := {X.f3 with f2 := l'}}) (c.set 9 (.slice A' l'.length c')) := by
  obtain ⟨v0, v3, v6, v9, v12, v13, v16, v19, rfl, r0, r1, r2, r3, r4, r5, r6, r7⟩ := k37_openM hM
  obtain ⟨A0, c0, rfl, e0, h0⟩ := Kd.R_reads (Kd.R_far (p := ⟨gR, o, none⟩) r0 (fun k hk => hk.2) (.slice A' l'.length c'))
  obtain ⟨A1, c1, rfl, e1, h1⟩ := Kd.R_reads (Kd.R_far (p := ⟨gR, o, none⟩) r1 (fun k hk => hk.2) (.slice A' l'.length c'))
  obtain ⟨A2, c2, rfl, e2, h2⟩ := Kd.R_reads (Kd.R_far (p := ⟨gR, o, none⟩) r2 (fun k hk => hk.2) (.slice A' l'.length c'))
  obtain ⟨A3, c3, rfl, e3, h3⟩ := Kd.R_reads (Kd.R_far (p := ⟨gR, o, none⟩) r3 (fun k hk => hk.2) (.slice A' l'.length c'))
  obtain ⟨A4, c4, rfl, e4, h4⟩ := Kd.R_reads (Kd.R_far (p := ⟨gR, o, none⟩) r4 (fun k hk => hk.2) (.slice A' l'.length c'))
  obtain ⟨A5, c5, rfl, e5, h5⟩ := Kd.R_reads (Kd.R_far (p := ⟨gR, o, none⟩) r5 (fun k hk => hk.2) (.slice A' l'.length c'))
  obtain ⟨A6, c6, rfl, e6, h6⟩ := Kd.R_reads (Kd.R_far (p := ⟨gR, o, none⟩) r6 (fun k hk => hk.2) (.slice A' l'.length c'))
  obtain ⟨A7, c7, rfl, e7, h7⟩ := Kd.R_reads (Kd.R_far (p := ⟨gR, o, none⟩) r7 (fun k hk => hk.2) (.slice A' l'.length c'))
  exact k37_mk _ ({X with f3 := {X.f3 with f2 := l'}}) e0 h0 e1 h1 e2 h2 hl hC e4 h4 e5 h5 e6 h6 e7 h7
theorem bad3 {X : BK} {d h : Int} (hX : blkB d h X = true) (l' : List Int) (hn : l'.length ≠ X.f3.f2.length) : blkB d h ({X with f3 := {X.f3 with f2 := l'}}) = false := by
  unfold blkB at *
  simp only [Bool.and_eq_true, beq_iff_eq] at hX
  obtain ⟨q1, q2, q3, q4, q6, q7, q0, q5⟩ := hX
  have hs := side_len (l' := l') q3 hn
  simp [hs]
theorem upd4 {W : World} {gR o b : Nat} {X : BK} {c : List Value} (hM : kB.M W b (fun k => True ∧ k ≠ gR) X c) (A' : Option Addr) (c' : Nat) (l' : List Int) (hl : l'.length ≤ c') (hC : Kd.C kI (W.setCell ⟨gR, o, none⟩ (.slice A' l'.length c')) A' l'.length l') : kB.K (W.setCell ⟨gR, o, none⟩ (.slice A' l'.length c')) ({X with f4 := {X.f4 with f2 := l'}}) (c.set 12 (.slice A' l'.length c')) := by
  obtain ⟨v0, v3, v6, v9, v12, v13, v16, v19, rfl, r0, r1, r2, r3, r4, r5, r6, r7⟩ := k37_openM hM
  obtain ⟨A0, c0, rfl, e0, h0⟩ := Kd.R_reads (Kd.R_far (p := ⟨gR, o, none⟩) r0 (fun k hk => hk.2) (.slice A' l'.length c'))
  obtain ⟨A1, c1, rfl, e1, h1⟩ := Kd.R_reads (Kd.R_far (p := ⟨gR, o, none⟩) r1 (fun k hk => hk.2) (.slice A' l'.length c'))
  obtain ⟨A2, c2, rfl, e2, h2⟩ := Kd.R_reads (Kd.R_far (p := ⟨gR, o, none⟩) r2 (fun k hk => hk.2) (.slice A' l'.length c'))
  obtain ⟨A3, c3, rfl, e3, h3⟩ := Kd.R_reads (Kd.R_far (p := ⟨gR, o, none⟩) r3 (fun k hk => hk.2) (.slice A' l'.length c'))
  obtain ⟨A4, c4, rfl, e4, h4⟩ := Kd.R_reads (Kd.R_far (p := ⟨gR, o, none⟩) r4 (fun k hk => hk.2) (.slice A' l'.length c'))
  obtain ⟨A5, c5, rfl, e5, h5⟩ := Kd.R_reads (Kd.R_far (p := ⟨gR, o, none⟩) r5 (fun k hk => hk.2) (.slice A' l'.length c'))
  obtain ⟨A6, c6, rfl, e6, h6⟩ := Kd.R_reads (Kd.R_far (p := ⟨gR, o, none⟩) r6 (fun k hk => hk.2) (.slice A' l'.length c'))
  obtain ⟨A7, c7, rfl, e7, h7⟩ := Kd.R_reads (Kd.R_far (p := ⟨gR, o, none⟩) r7 (fun k hk => hk.2) (.slice A' l'.length c'))
  exact k37_mk _ ({X with f4 := {X.f4 with f2 := l'}}) e0 h0 e1 h1 e2 h2 e3 h3 hl hC e5 h5 e6 h6 e7 h7
theorem bad4 {X : BK} {d h : Int} (hX : blkB d h X = true) (l' : List Int) (hn : l'.length ≠ X.f4.f2.length) : blkB d h ({X with f4 := {X.f4 with f2 := l'}}) = false := by
  unfold blkB at *
  simp only [Bool.and_eq_true, beq_iff_eq] at hX
  obtain ⟨q1, q2, q3, q4, q6, q7, q0, q5⟩ := hX
  have hs := side_len (l' := l') q4 hn
  simp [hs]
theorem upd5 {W : World} {gR o b : Nat} {X : BK} {c : List Value} (hM : kB.M W b (fun k => True ∧ k ≠ gR) X c) (A' : Option Addr) (c' : Nat) (l' : List Int) (hl : l'.length ≤ c') (hC : Kd.C kI (W.setCell ⟨gR, o, none⟩ (.slice A' l'.length c')) A' l'.length l') : kB.K (W.setCell ⟨gR, o, none⟩ (.slice A' l'.length c')) ({X with f5 := l'}) (c.set 13 (.slice A' l'.length c')) := by
  obtain ⟨v0, v3, v6, v9, v12, v13, v16, v19, rfl, r0, r1, r2, r3, r4, r5, r6, r7⟩ := k37_openM hM
  obtain ⟨A0, c0, rfl, e0, h0⟩ := Kd.R_reads (Kd.R_far (p := ⟨gR, o, none⟩) r0 (fun k hk => hk.2) (.slice A' l'.length c'))
  obtain ⟨A1, c1, rfl, e1, h1⟩ := Kd.R_reads (Kd.R_far (p := ⟨gR, o, none⟩) r1 (fun k hk => hk.2) (.slice A' l'.length c'))
  obtain ⟨A2, c2, rfl, e2, h2⟩ := Kd.R_reads (Kd.R_far (p := ⟨gR, o, none⟩) r2 (fun k hk => hk.2) (.slice A' l'.length c'))
  obtain ⟨A3, c3, rfl, e3, h3⟩ := Kd.R_reads (Kd.R_far (p := ⟨gR, o, none⟩) r3 (fun k hk => hk.2) (.slice A' l'.length c'))
  obtain ⟨A4, c4, rfl, e4, h4⟩ := Kd.R_reads (Kd.R_far (p := ⟨gR, o, none⟩) r4 (fun k hk => hk.2) (.slice A' l'.length c'))
  obtain ⟨A5, c5, rfl, e5, h5⟩ := Kd.R_reads (Kd.R_far (p := ⟨gR, o, none⟩) r5 (fun k hk => hk.2) (.slice A' l'.length c'))
  obtain ⟨A6, c6, rfl, e6, h6⟩ := Kd.R_reads (Kd.R_far (p := ⟨gR, o, none⟩) r6 (fun k hk => hk.2) (.slice A' l'.length c'))
  obtain ⟨A7, c7, rfl, e7, h7⟩ := Kd.R_reads (Kd.R_far (p := ⟨gR, o, none⟩) r7 (fun k hk => hk.2) (.slice A' l'.length c'))
  exact k37_mk _ ({X with f5 := l'}) e0 h0 e1 h1 e2 h2 e3 h3 e4 h4 hl hC e6 h6 e7 h7
theorem bad5 {X : BK} {d h : Int} (hX : blkB d h X = true) (l' : List Int) (hn : l'.length ≠ X.f5.length) : blkB d h ({X with f5 := l'}) = false := by
  unfold blkB at *
  simp only [Bool.and_eq_true, beq_iff_eq] at hX
  obtain ⟨q1, q2, q3, q4, q6, q7, q0, q5⟩ := hX
  have hs : ((l'.length : Int) == d) = false := beq_eq_false_iff_ne.mpr (by omega)
  simp [hs]
theorem upd6 {W : World} {gR o b : Nat} {X : BK} {c : List Value} (hM : kB.M W b (fun k => True ∧ k ≠ gR) X c) (A' : Option Addr) (c' : Nat) (l' : List Int) (hl : l'.length ≤ c') (hC : Kd.C kI (W.setCell ⟨gR, o, none⟩ (.slice A' l'.length c')) A' l'.length l') : kB.K (W.setCell ⟨gR, o, none⟩ (.slice A' l'.length c')) ({X with f6 := {X.f6 with f2 := l'}}) (c.set 16 (.slice A' l'.length c')) := by
  obtain ⟨v0, v3, v6, v9, v12, v13, v16, v19, rfl, r0, r1, r2, r3, r4, r5, r6, r7⟩ := k37_openM hM
  obtain ⟨A0, c0, rfl, e0, h0⟩ := Kd.R_reads (Kd.R_far (p := ⟨gR, o, none⟩) r0 (fun k hk => hk.2) (.slice A' l'.length c'))
  obtain ⟨A1, c1, rfl, e1, h1⟩ := Kd.R_reads (Kd.R_far (p := ⟨gR, o, none⟩) r1 (fun k hk => hk.2) (.slice A' l'.length c'))
  obtain ⟨A2, c2, rfl, e2, h2⟩ := Kd.R_reads (Kd.R_far (p := ⟨gR, o, none⟩) r2 (fun k hk => hk.2) (.slice A' l'.length c'))
  obtain ⟨A3, c3, rfl, e3, h3⟩ := Kd.R_reads (Kd.R_far (p := ⟨gR, o, none⟩) r3 (fun k hk => hk.2) (.slice A' l'.length c'))
  obtain ⟨A4, c4, rfl, e4, h4⟩ := Kd.R_reads (Kd.R_far (p := ⟨gR, o, none⟩) r4 (fun k hk => hk.2) (.slice A' l'.length c'))
  obtain ⟨A5, c5, rfl, e5, h5⟩ := Kd.R_reads (Kd.R_far (p := ⟨gR, o, none⟩) r5 (fun k hk => hk.2) (.slice A' l'.length c'))
  obtain ⟨A6, c6, rfl, e6, h6⟩ := Kd.R_reads (Kd.R_far (p := ⟨gR, o, none⟩) r6 (fun k hk => hk.2) (.slice A' l'.length c'))
  obtain ⟨A7, c7, rfl, e7, h7⟩ := Kd.R_reads (Kd.R_far (p := ⟨gR, o, none⟩) r7 (fun k hk => hk.2) (.slice A' l'.length c'))
  exact k37_mk _ ({X with f6 := {X.f6 with f2 := l'}}) e0 h0 e1 h1 e2 h2 e3 h3 e4 h4 e5 h5 hl hC e7 h7
theorem bad6 {X : BK} {d h : Int} (hX : blkB d h X = true) (l' : List Int) (hn : l'.length ≠ X.f6.f2.length) : blkB d h ({X with f6 := {X.f6 with f2 := l'}}) = false := by
  unfold blkB at *
  simp only [Bool.and_eq_true, beq_iff_eq] at hX
  obtain ⟨q1, q2, q3, q4, q6, q7, q0, q5⟩ := hX
  have hs := side_len (l' := l') q6 hn
  simp [hs]
theorem upd7 {W : World} {gR o b : Nat} {X : BK} {c : List Value} (hM : kB.M W b (fun k => True ∧ k ≠ gR) X c) (A' : Option Addr) (c' : Nat) (l' : List Int) (hl : l'.length ≤ c') (hC : Kd.C kI (W.setCell ⟨gR, o, none⟩ (.slice A' l'.length c')) A' l'.length l') : kB.K (W.setCell ⟨gR, o, none⟩ (.slice A' l'.length c')) ({X with f7 := {X.f7 with f2 := l'}}) (c.set 19 (.slice A' l'.length c')) := by
  obtain ⟨v0, v3, v6, v9, v12, v13, v16, v19, rfl, r0, r1, r2, r3, r4, r5, r6, r7⟩ := k37_openM hM
  obtain ⟨A0, c0, rfl, e0, h0⟩ := Kd.R_reads (Kd.R_far (p := ⟨gR, o, none⟩) r0 (fun k hk => hk.2) (.slice A' l'.length c'))
  obtain ⟨A1, c1, rfl, e1, h1⟩ := Kd.R_reads (Kd.R_far (p := ⟨gR, o, none⟩) r1 (fun k hk => hk.2) (.slice A' l'.length c'))
  obtain ⟨A2, c2, rfl, e2, h2⟩ := Kd.R_reads (Kd.R_far (p := ⟨gR, o, none⟩) r2 (fun k hk => hk.2) (.slice A' l'.length c'))
  obtain ⟨A3, c3, rfl, e3, h3⟩ := Kd.R_reads (Kd.R_far (p := ⟨gR, o, none⟩) r3 (fun k hk => hk.2) (.slice A' l'.length c'))
  obtain ⟨A4, c4, rfl, e4, h4⟩ := Kd.R_reads (Kd.R_far (p := ⟨gR, o, none⟩) r4 (fun k hk => hk.2) (.slice A' l'.length c'))
  obtain ⟨A5, c5, rfl, e5, h5⟩ := Kd.R_reads (Kd.R_far (p := ⟨gR, o, none⟩) r5 (fun k hk => hk.2) (.slice A' l'.length c'))
  obtain ⟨A6, c6, rfl, e6, h6⟩ := Kd.R_reads (Kd.R_far (p := ⟨gR, o, none⟩) r6 (fun k hk => hk.2) (.slice A' l'.length c'))
  obtain ⟨A7, c7, rfl, e7, h7⟩ := Kd.R_reads (Kd.R_far (p := ⟨gR, o, none⟩) r7 (fun k hk => hk.2) (.slice A' l'.length c'))
  exact k37_mk _ ({X with f7 := {X.f7 with f2 := l'}}) e0 h0 e1 h1 e2 h2 e3 h3 e4 h4 e5 h5 e6 h6 hl hC
theorem bad7 {X : BK} {d h : Int} (hX : blkB d h X = true) (l' : List Int) (hn : l'.length ≠ X.f7.f2.length) : blkB d h ({X with f7 := {X.f7 with f2 := l'}}) = false := by
  unfold blkB at *
  simp only [Bool.and_eq_true, beq_iff_eq] at hX
  obtain ⟨q1, q2, q3, q4, q6, q7, q0, q5⟩ := hX
  have hs := side_len (l' := l') q7 hn
  simp [hs]
/-- The law's boxes and rows ahead of its store. -/
structure Bs (w W : World) (g9 : Nat) (r c hs a3 a4 : Int) (A2 : Option Addr) (c2 : Nat) (l2 : List Int) (gR c3 : Nat) (l3 : List BK) (A4 : Option Addr) (c4 : Nat) (l4 : List Int) (A7 : Option Addr) (c7 : Nat) (l7 : List Int) : Prop where
  k : W.heap[w.heap.size]? = some (.cells (CF r c hs a3 a4) 23 (0, 0))
  a : W.heap[g9]? = some (.cells #[.int .i64 r, .int .i64 c, .slice A2 l2.length c2, .slice (some ⟨gR, 0, none⟩) l3.length c3, .slice A4 l4.length c4, .int .i64 r, .int .i64 c, .slice A7 l7.length c7] 30 (0, 0))
  r2 : kI.R NumT W w.heap.size (fun _ => True) (.slice A2 l2.length c2) l2
  r3 : kB.R 37 W w.heap.size (fun _ => True) (.slice (some ⟨gR, 0, none⟩) l3.length c3) l3
  r4 : kI.R NumT W w.heap.size (fun _ => True) (.slice A4 l4.length c4) l4
  r7 : kI.R NumT W w.heap.size (fun _ => True) (.slice A7 l7.length c7) l7
  bel : Below w.heap.size w W
  lo : w.heap.size < g9
theorem Bs.step {w W : World} {g9 : Nat} {r c hs a3 a4 : Int} {A2 : Option Addr} {c2 : Nat} {l2 : List Int} {gR c3 : Nat} {l3 : List BK} {A4 : Option Addr} {c4 : Nat} {l4 : List Int} {A7 : Option Addr} {c7 : Nat} {l7 : List Int} {W' : World} (h : Bs w W g9 r c hs a3 a4 A2 c2 l2 gR c3 l3 A4 c4 l4 A7 c7 l7) (hb : Below W.heap.size W W') : Bs w W' g9 r c hs a3 a4 A2 c2 l2 gR c3 l3 A4 c4 l4 A7 c7 l7 :=
  ⟨blk_below h.k hb, blk_below h.a hb, Kd.R_below h.r2 hb, Kd.R_below h.r3 hb, Kd.R_below h.r4 hb, Kd.R_below h.r7 hb, h.bel.trans (hb.mono h.bel.size), h.lo⟩
theorem chk_calls {w W : World} {g9 : Nat} {r c hs a3 a4 : Int} {A2 : Option Addr} {c2 : Nat} {l2 : List Int} {gR c3 : Nat} {l3 : List BK} {A4 : Option Addr} {c4 : Nat} {l4 : List Int} {A7 : Option Addr} {c7 : Nat} {l7 : List Int} (h : Bs w W g9 r c hs a3 a4 A2 c2 l2 gR c3 l3 A4 c4 l4 A7 c7 l7) (hc : chk r c hs a3 a4 r c l2 l3 l4 r c l7 = 0) (h5 : l3.length ≤ 4) : Calls Try.prog 20 #[.agg #[.int .i64 r, .int .i64 c, .int .i64 hs, .int .i64 a3, .int .i64 a4], .agg #[.int .i64 r, .int .i64 c, .slice A2 l2.length c2, .slice (some ⟨gR, 0, none⟩) l3.length c3, .slice A4 l4.length c4, .int .i64 r, .int .i64 c, .slice A7 l7.length c7]] W fun e w' => e = .returned (.int .i64 0) ∧ Below W.heap.size W w' := by
  have g2 := Kd.R_reads' h.r2
  have g3 := Kd.R_reads' h.r3
  have g4 := Kd.R_reads' h.r4
  have g7 := Kd.R_reads' h.r7
  have hk := check_calls r c hs a3 a4 r c l2 l3 l4 r c l7 A2 c2 (some ⟨gR, 0, none⟩) c3 A4 c4 A7 c7 W ⟨g2.2.2, g2.2.1⟩ ⟨g3.2.2, g3.2.1⟩ ⟨g4.2.2, g4.2.1⟩ ⟨g7.2.2, g7.2.1⟩ (by omega)
  rw [hc] at hk
  exact hk
theorem R_new (W : World) : kI.R NumT (W.alloc (.cells #[] 35)) W.heap.size (fun _ => True) (.slice (some ⟨W.heap.size, 0, none⟩) 0 0) [] :=
  ⟨fun _ _ => trivial, [], World.ownsRow_lit (base := W.heap.size) (e := 35) (size := 1) W #[] 0 (Nat.le_refl _) (by simp [maxLen]) (by simp), Reps.none _ _⟩
/-- A place whose row may be written over: then the numbers don't fit any more. -/
structure Good (w W : World) (g9 gp op : Nat) (r c hs a3 a4 : Int) : Prop where
  out : ∃ (A : Option Addr) (l : List Int) (cc : Nat), W.cell? ⟨gp, op, none⟩ = some (.slice A l.length cc) ∧ W.frozen? ⟨gp, op, none⟩ = false ∧ l.length ≤ cc ∧ 1 ≤ l.length ∧ l.length ≤ 100000 ∧ Kd.F kI W (fun k => k ≠ gp) A l.length l ∧
    ∀ W1, Below W.heap.size W W1 → ∀ A' c' (l' : List Int), l'.length ≠ l.length → l'.length ≤ c' → Kd.F kI W1 (fun k => k ≠ gp) A' l'.length l' → Aft w (W1.setCell ⟨gp, op, none⟩ (.slice A' l'.length c')) g9 r c hs a3 a4
  lt : gp < W.heap.size
theorem side_pos {r c a b : Int} {l : List Int} (h : sideB r c l a b = true) : 1 ≤ l.length ∧ l.length ≤ 100000 := by
  unfold sideB at h
  obtain ⟨h1, h2, h3, h4, h5, _⟩ := of_decide_eq_true h
  have e1 := mul_bound (A := 128) (B := 128) (a := r) (b := c) (by omega) (by omega) (by omega) (by omega) (by omega)
  have e2 : 1 * 1 ≤ r * c := Int.mul_le_mul h1 h3 (by omega) (by omega)
  omega
theorem good_blk0 {w W : World} {g9 : Nat} {r c hs a3 a4 : Int} {A2 : Option Addr} {c2 : Nat} {l2 : List Int} {gR c3 : Nat} {l3 : List BK} {A4 : Option Addr} {c4 : Nat} {l4 : List Int} {A7 : Option Addr} {c7 : Nat} {l7 : List Int} (h : Bs w W g9 r c hs a3 a4 A2 c2 l2 gR c3 l3 A4 c4 l4 A7 c7 l7) (hc : chk r c hs a3 a4 r c l2 l3 l4 r c l7 = 0) (h1 : 1 ≤ l3.length) (h5 : l3.length ≤ 4) : Good w W g9 gR ((l3.length - 1) * 20 + 0) r c hs a3 a4 := by
  obtain ⟨s0, s1, s2, s3, s4, s5⟩ := chk_shp hc
  obtain ⟨_, ⟨d0, d1⟩, _⟩ := shp_ok s0
  obtain ⟨cs, hc1, hM, hcell, hfr⟩ := Kd.R_elem h.r3 z37 ((l3.length - 1 : Nat) : Int) (by omega) (by omega)
  rw [Int.toNat_natCast] at hM hcell hfr
  have hXm : l3.getD (l3.length - 1) z37 ∈ l3 := by rw [List.getD_eq_getElem?_getD, List.getElem?_eq_getElem (by omega)]; exact List.getElem_mem _
  have hX := List.all_eq_true.mp s5 _ hXm
  obtain ⟨cur, hbR⟩ := Kd.R_typed h.r3 gR rfl
  generalize hXe : l3.getD (l3.length - 1) z37 = X at hM hX hXm
  obtain ⟨v0, v3, v6, v9, v12, v13, v16, v19, rfl, r0, r1, r2, r3, r4, r5, r6, r7⟩ := k37_openM hM
  obtain ⟨A, cc, rfl⟩ := Kd.R_slice r0
  have hX2 := hX
  unfold blkB at hX2
  simp only [Bool.and_eq_true, beq_iff_eq] at hX2
  obtain ⟨q1, q2, q3, q4, q6, q7, q0, q5⟩ := hX2
  refine ⟨⟨A, X.f0, cc, hcell 0 _ rfl, hfr 0, (Kd.R_reads' r0).2.1, by omega, by omega, Kd.F_mono (Kd.R_F r0) (fun k hk => hk.2), fun W1 hb A' c' l' hn hl hF => ?_⟩, blk_lt hbR⟩
  have h2 := h.step hb
  have hbR2 := blk_below hbR hb
  have hF2 : Kd.F kI (W1.setCell ⟨gR, (l3.length - 1) * 20 + 0, none⟩ (.slice A' l'.length c')) (fun k => k ≠ gR) A' l'.length l' := Kd.F_step hF (fun k hk _ => Below.heap_setCell _ _ _ _ hk)
  have hC3 := last_put (j := 0) h2.r3 h1 (by decide) (.slice A' l'.length c') ({X with f0 := l'}) (fun cs hM2 => by
    rw [hXe] at hM2
    exact upd0 hM2 A' c' l' hl (Kd.F_now hF2))
  have g1 := Kd.R_reads' (Kd.R_set h2.r2 hbR2 (by decide) ((l3.length - 1) * 20 + 0) (.slice A' l'.length c'))
  have g4 := Kd.R_reads' (Kd.R_set h2.r4 hbR2 (by decide) ((l3.length - 1) * 20 + 0) (.slice A' l'.length c'))
  have g7 := Kd.R_reads' (Kd.R_set h2.r7 hbR2 (by decide) ((l3.length - 1) * 20 + 0) (.slice A' l'.length c'))
  have hlen : (l3.set (l3.length - 1) ({X with f0 := l'})).length = l3.length := List.length_set
  refine ⟨⟨A2, c2, l2, some ⟨gR, 0, none⟩, c3, l3.set (l3.length - 1) ({X with f0 := l'}), A4, c4, l4, A7, c7, l7, blk_far (p := ⟨gR, _, none⟩) h2.k (blk_ne h2.k hbR2 (by decide)) _, ?_, ⟨g1.2.2, g1.2.1⟩, ?_, ⟨g4.2.2, g4.2.1⟩, ⟨g7.2.2, g7.2.1⟩, by rw [hlen]; omega, ?_⟩, h2.bel.setCell (p := ⟨gR, _, none⟩) (Kd.R_base h2.r3 gR rfl) _⟩
  · rw [hlen]
    exact blk_far (p := ⟨gR, _, none⟩) h2.a (blk_ne h2.a hbR2 (by decide)) _
  · rw [hlen]
    exact ⟨hC3, (Kd.R_reads' h2.r3).2.1⟩
  · refine chk_four s0 ?_
    rintro ⟨_, _, _, _, e⟩
    have hb2 := bad0 hX l' hn
    have hmem : ({X with f0 := l'}) ∈ l3.set (l3.length - 1) ({X with f0 := l'}) := List.mem_set (by omega) _
    rw [List.all_eq_true.mp e _ hmem] at hb2
    cases hb2
theorem good_blk1 {w W : World} {g9 : Nat} {r c hs a3 a4 : Int} {A2 : Option Addr} {c2 : Nat} {l2 : List Int} {gR c3 : Nat} {l3 : List BK} {A4 : Option Addr} {c4 : Nat} {l4 : List Int} {A7 : Option Addr} {c7 : Nat} {l7 : List Int} (h : Bs w W g9 r c hs a3 a4 A2 c2 l2 gR c3 l3 A4 c4 l4 A7 c7 l7) (hc : chk r c hs a3 a4 r c l2 l3 l4 r c l7 = 0) (h1 : 1 ≤ l3.length) (h5 : l3.length ≤ 4) : Good w W g9 gR ((l3.length - 1) * 20 + 3) r c hs a3 a4 := by
  obtain ⟨s0, s1, s2, s3, s4, s5⟩ := chk_shp hc
  obtain ⟨_, ⟨d0, d1⟩, _⟩ := shp_ok s0
  obtain ⟨cs, hc1, hM, hcell, hfr⟩ := Kd.R_elem h.r3 z37 ((l3.length - 1 : Nat) : Int) (by omega) (by omega)
  rw [Int.toNat_natCast] at hM hcell hfr
  have hXm : l3.getD (l3.length - 1) z37 ∈ l3 := by rw [List.getD_eq_getElem?_getD, List.getElem?_eq_getElem (by omega)]; exact List.getElem_mem _
  have hX := List.all_eq_true.mp s5 _ hXm
  obtain ⟨cur, hbR⟩ := Kd.R_typed h.r3 gR rfl
  generalize hXe : l3.getD (l3.length - 1) z37 = X at hM hX hXm
  obtain ⟨v0, v3, v6, v9, v12, v13, v16, v19, rfl, r0, r1, r2, r3, r4, r5, r6, r7⟩ := k37_openM hM
  obtain ⟨A, cc, rfl⟩ := Kd.R_slice r1
  have hX2 := hX
  unfold blkB at hX2
  simp only [Bool.and_eq_true, beq_iff_eq] at hX2
  obtain ⟨q1, q2, q3, q4, q6, q7, q0, q5⟩ := hX2
  refine ⟨⟨A, X.f1.f2, cc, hcell 3 _ rfl, hfr 3, (Kd.R_reads' r1).2.1, (side_pos q1).1, (side_pos q1).2, Kd.F_mono (Kd.R_F r1) (fun k hk => hk.2), fun W1 hb A' c' l' hn hl hF => ?_⟩, blk_lt hbR⟩
  have h2 := h.step hb
  have hbR2 := blk_below hbR hb
  have hF2 : Kd.F kI (W1.setCell ⟨gR, (l3.length - 1) * 20 + 3, none⟩ (.slice A' l'.length c')) (fun k => k ≠ gR) A' l'.length l' := Kd.F_step hF (fun k hk _ => Below.heap_setCell _ _ _ _ hk)
  have hC3 := last_put (j := 3) h2.r3 h1 (by decide) (.slice A' l'.length c') ({X with f1 := {X.f1 with f2 := l'}}) (fun cs hM2 => by
    rw [hXe] at hM2
    exact upd1 hM2 A' c' l' hl (Kd.F_now hF2))
  have g1 := Kd.R_reads' (Kd.R_set h2.r2 hbR2 (by decide) ((l3.length - 1) * 20 + 3) (.slice A' l'.length c'))
  have g4 := Kd.R_reads' (Kd.R_set h2.r4 hbR2 (by decide) ((l3.length - 1) * 20 + 3) (.slice A' l'.length c'))
  have g7 := Kd.R_reads' (Kd.R_set h2.r7 hbR2 (by decide) ((l3.length - 1) * 20 + 3) (.slice A' l'.length c'))
  have hlen : (l3.set (l3.length - 1) ({X with f1 := {X.f1 with f2 := l'}})).length = l3.length := List.length_set
  refine ⟨⟨A2, c2, l2, some ⟨gR, 0, none⟩, c3, l3.set (l3.length - 1) ({X with f1 := {X.f1 with f2 := l'}}), A4, c4, l4, A7, c7, l7, blk_far (p := ⟨gR, _, none⟩) h2.k (blk_ne h2.k hbR2 (by decide)) _, ?_, ⟨g1.2.2, g1.2.1⟩, ?_, ⟨g4.2.2, g4.2.1⟩, ⟨g7.2.2, g7.2.1⟩, by rw [hlen]; omega, ?_⟩, h2.bel.setCell (p := ⟨gR, _, none⟩) (Kd.R_base h2.r3 gR rfl) _⟩
  · rw [hlen]
    exact blk_far (p := ⟨gR, _, none⟩) h2.a (blk_ne h2.a hbR2 (by decide)) _
  · rw [hlen]
    exact ⟨hC3, (Kd.R_reads' h2.r3).2.1⟩
  · refine chk_four s0 ?_
    rintro ⟨_, _, _, _, e⟩
    have hb2 := bad1 hX l' hn
    have hmem : ({X with f1 := {X.f1 with f2 := l'}}) ∈ l3.set (l3.length - 1) ({X with f1 := {X.f1 with f2 := l'}}) := List.mem_set (by omega) _
    rw [List.all_eq_true.mp e _ hmem] at hb2
    cases hb2
theorem good_blk2 {w W : World} {g9 : Nat} {r c hs a3 a4 : Int} {A2 : Option Addr} {c2 : Nat} {l2 : List Int} {gR c3 : Nat} {l3 : List BK} {A4 : Option Addr} {c4 : Nat} {l4 : List Int} {A7 : Option Addr} {c7 : Nat} {l7 : List Int} (h : Bs w W g9 r c hs a3 a4 A2 c2 l2 gR c3 l3 A4 c4 l4 A7 c7 l7) (hc : chk r c hs a3 a4 r c l2 l3 l4 r c l7 = 0) (h1 : 1 ≤ l3.length) (h5 : l3.length ≤ 4) : Good w W g9 gR ((l3.length - 1) * 20 + 6) r c hs a3 a4 := by
  obtain ⟨s0, s1, s2, s3, s4, s5⟩ := chk_shp hc
  obtain ⟨_, ⟨d0, d1⟩, _⟩ := shp_ok s0
  obtain ⟨cs, hc1, hM, hcell, hfr⟩ := Kd.R_elem h.r3 z37 ((l3.length - 1 : Nat) : Int) (by omega) (by omega)
  rw [Int.toNat_natCast] at hM hcell hfr
  have hXm : l3.getD (l3.length - 1) z37 ∈ l3 := by rw [List.getD_eq_getElem?_getD, List.getElem?_eq_getElem (by omega)]; exact List.getElem_mem _
  have hX := List.all_eq_true.mp s5 _ hXm
  obtain ⟨cur, hbR⟩ := Kd.R_typed h.r3 gR rfl
  generalize hXe : l3.getD (l3.length - 1) z37 = X at hM hX hXm
  obtain ⟨v0, v3, v6, v9, v12, v13, v16, v19, rfl, r0, r1, r2, r3, r4, r5, r6, r7⟩ := k37_openM hM
  obtain ⟨A, cc, rfl⟩ := Kd.R_slice r2
  have hX2 := hX
  unfold blkB at hX2
  simp only [Bool.and_eq_true, beq_iff_eq] at hX2
  obtain ⟨q1, q2, q3, q4, q6, q7, q0, q5⟩ := hX2
  refine ⟨⟨A, X.f2.f2, cc, hcell 6 _ rfl, hfr 6, (Kd.R_reads' r2).2.1, (side_pos q2).1, (side_pos q2).2, Kd.F_mono (Kd.R_F r2) (fun k hk => hk.2), fun W1 hb A' c' l' hn hl hF => ?_⟩, blk_lt hbR⟩
  have h2 := h.step hb
  have hbR2 := blk_below hbR hb
  have hF2 : Kd.F kI (W1.setCell ⟨gR, (l3.length - 1) * 20 + 6, none⟩ (.slice A' l'.length c')) (fun k => k ≠ gR) A' l'.length l' := Kd.F_step hF (fun k hk _ => Below.heap_setCell _ _ _ _ hk)
  have hC3 := last_put (j := 6) h2.r3 h1 (by decide) (.slice A' l'.length c') ({X with f2 := {X.f2 with f2 := l'}}) (fun cs hM2 => by
    rw [hXe] at hM2
    exact upd2 hM2 A' c' l' hl (Kd.F_now hF2))
  have g1 := Kd.R_reads' (Kd.R_set h2.r2 hbR2 (by decide) ((l3.length - 1) * 20 + 6) (.slice A' l'.length c'))
  have g4 := Kd.R_reads' (Kd.R_set h2.r4 hbR2 (by decide) ((l3.length - 1) * 20 + 6) (.slice A' l'.length c'))
  have g7 := Kd.R_reads' (Kd.R_set h2.r7 hbR2 (by decide) ((l3.length - 1) * 20 + 6) (.slice A' l'.length c'))
  have hlen : (l3.set (l3.length - 1) ({X with f2 := {X.f2 with f2 := l'}})).length = l3.length := List.length_set
  refine ⟨⟨A2, c2, l2, some ⟨gR, 0, none⟩, c3, l3.set (l3.length - 1) ({X with f2 := {X.f2 with f2 := l'}}), A4, c4, l4, A7, c7, l7, blk_far (p := ⟨gR, _, none⟩) h2.k (blk_ne h2.k hbR2 (by decide)) _, ?_, ⟨g1.2.2, g1.2.1⟩, ?_, ⟨g4.2.2, g4.2.1⟩, ⟨g7.2.2, g7.2.1⟩, by rw [hlen]; omega, ?_⟩, h2.bel.setCell (p := ⟨gR, _, none⟩) (Kd.R_base h2.r3 gR rfl) _⟩
  · rw [hlen]
    exact blk_far (p := ⟨gR, _, none⟩) h2.a (blk_ne h2.a hbR2 (by decide)) _
  · rw [hlen]
    exact ⟨hC3, (Kd.R_reads' h2.r3).2.1⟩
  · refine chk_four s0 ?_
    rintro ⟨_, _, _, _, e⟩
    have hb2 := bad2 hX l' hn
    have hmem : ({X with f2 := {X.f2 with f2 := l'}}) ∈ l3.set (l3.length - 1) ({X with f2 := {X.f2 with f2 := l'}}) := List.mem_set (by omega) _
    rw [List.all_eq_true.mp e _ hmem] at hb2
    cases hb2
theorem good_blk3 {w W : World} {g9 : Nat} {r c hs a3 a4 : Int} {A2 : Option Addr} {c2 : Nat} {l2 : List Int} {gR c3 : Nat} {l3 : List BK} {A4 : Option Addr} {c4 : Nat} {l4 : List Int} {A7 : Option Addr} {c7 : Nat} {l7 : List Int} (h : Bs w W g9 r c hs a3 a4 A2 c2 l2 gR c3 l3 A4 c4 l4 A7 c7 l7) (hc : chk r c hs a3 a4 r c l2 l3 l4 r c l7 = 0) (h1 : 1 ≤ l3.length) (h5 : l3.length ≤ 4) : Good w W g9 gR ((l3.length - 1) * 20 + 9) r c hs a3 a4 := by
  obtain ⟨s0, s1, s2, s3, s4, s5⟩ := chk_shp hc
  obtain ⟨_, ⟨d0, d1⟩, _⟩ := shp_ok s0
  obtain ⟨cs, hc1, hM, hcell, hfr⟩ := Kd.R_elem h.r3 z37 ((l3.length - 1 : Nat) : Int) (by omega) (by omega)
  rw [Int.toNat_natCast] at hM hcell hfr
  have hXm : l3.getD (l3.length - 1) z37 ∈ l3 := by rw [List.getD_eq_getElem?_getD, List.getElem?_eq_getElem (by omega)]; exact List.getElem_mem _
  have hX := List.all_eq_true.mp s5 _ hXm
  obtain ⟨cur, hbR⟩ := Kd.R_typed h.r3 gR rfl
  generalize hXe : l3.getD (l3.length - 1) z37 = X at hM hX hXm
  obtain ⟨v0, v3, v6, v9, v12, v13, v16, v19, rfl, r0, r1, r2, r3, r4, r5, r6, r7⟩ := k37_openM hM
  obtain ⟨A, cc, rfl⟩ := Kd.R_slice r3
  have hX2 := hX
  unfold blkB at hX2
  simp only [Bool.and_eq_true, beq_iff_eq] at hX2
  obtain ⟨q1, q2, q3, q4, q6, q7, q0, q5⟩ := hX2
  refine ⟨⟨A, X.f3.f2, cc, hcell 9 _ rfl, hfr 9, (Kd.R_reads' r3).2.1, (side_pos q3).1, (side_pos q3).2, Kd.F_mono (Kd.R_F r3) (fun k hk => hk.2), fun W1 hb A' c' l' hn hl hF => ?_⟩, blk_lt hbR⟩
  have h2 := h.step hb
  have hbR2 := blk_below hbR hb
  have hF2 : Kd.F kI (W1.setCell ⟨gR, (l3.length - 1) * 20 + 9, none⟩ (.slice A' l'.length c')) (fun k => k ≠ gR) A' l'.length l' := Kd.F_step hF (fun k hk _ => Below.heap_setCell _ _ _ _ hk)
  have hC3 := last_put (j := 9) h2.r3 h1 (by decide) (.slice A' l'.length c') ({X with f3 := {X.f3 with f2 := l'}}) (fun cs hM2 => by
    rw [hXe] at hM2
    exact upd3 hM2 A' c' l' hl (Kd.F_now hF2))
  have g1 := Kd.R_reads' (Kd.R_set h2.r2 hbR2 (by decide) ((l3.length - 1) * 20 + 9) (.slice A' l'.length c'))
  have g4 := Kd.R_reads' (Kd.R_set h2.r4 hbR2 (by decide) ((l3.length - 1) * 20 + 9) (.slice A' l'.length c'))
  have g7 := Kd.R_reads' (Kd.R_set h2.r7 hbR2 (by decide) ((l3.length - 1) * 20 + 9) (.slice A' l'.length c'))
  have hlen : (l3.set (l3.length - 1) ({X with f3 := {X.f3 with f2 := l'}})).length = l3.length := List.length_set
  refine ⟨⟨A2, c2, l2, some ⟨gR, 0, none⟩, c3, l3.set (l3.length - 1) ({X with f3 := {X.f3 with f2 := l'}}), A4, c4, l4, A7, c7, l7, blk_far (p := ⟨gR, _, none⟩) h2.k (blk_ne h2.k hbR2 (by decide)) _, ?_, ⟨g1.2.2, g1.2.1⟩, ?_, ⟨g4.2.2, g4.2.1⟩, ⟨g7.2.2, g7.2.1⟩, by rw [hlen]; omega, ?_⟩, h2.bel.setCell (p := ⟨gR, _, none⟩) (Kd.R_base h2.r3 gR rfl) _⟩
  · rw [hlen]
    exact blk_far (p := ⟨gR, _, none⟩) h2.a (blk_ne h2.a hbR2 (by decide)) _
  · rw [hlen]
    exact ⟨hC3, (Kd.R_reads' h2.r3).2.1⟩
  · refine chk_four s0 ?_
    rintro ⟨_, _, _, _, e⟩
    have hb2 := bad3 hX l' hn
    have hmem : ({X with f3 := {X.f3 with f2 := l'}}) ∈ l3.set (l3.length - 1) ({X with f3 := {X.f3 with f2 := l'}}) := List.mem_set (by omega) _
    rw [List.all_eq_true.mp e _ hmem] at hb2
    cases hb2
theorem good_blk4 {w W : World} {g9 : Nat} {r c hs a3 a4 : Int} {A2 : Option Addr} {c2 : Nat} {l2 : List Int} {gR c3 : Nat} {l3 : List BK} {A4 : Option Addr} {c4 : Nat} {l4 : List Int} {A7 : Option Addr} {c7 : Nat} {l7 : List Int} (h : Bs w W g9 r c hs a3 a4 A2 c2 l2 gR c3 l3 A4 c4 l4 A7 c7 l7) (hc : chk r c hs a3 a4 r c l2 l3 l4 r c l7 = 0) (h1 : 1 ≤ l3.length) (h5 : l3.length ≤ 4) : Good w W g9 gR ((l3.length - 1) * 20 + 12) r c hs a3 a4 := by
  obtain ⟨s0, s1, s2, s3, s4, s5⟩ := chk_shp hc
  obtain ⟨_, ⟨d0, d1⟩, _⟩ := shp_ok s0
  obtain ⟨cs, hc1, hM, hcell, hfr⟩ := Kd.R_elem h.r3 z37 ((l3.length - 1 : Nat) : Int) (by omega) (by omega)
  rw [Int.toNat_natCast] at hM hcell hfr
  have hXm : l3.getD (l3.length - 1) z37 ∈ l3 := by rw [List.getD_eq_getElem?_getD, List.getElem?_eq_getElem (by omega)]; exact List.getElem_mem _
  have hX := List.all_eq_true.mp s5 _ hXm
  obtain ⟨cur, hbR⟩ := Kd.R_typed h.r3 gR rfl
  generalize hXe : l3.getD (l3.length - 1) z37 = X at hM hX hXm
  obtain ⟨v0, v3, v6, v9, v12, v13, v16, v19, rfl, r0, r1, r2, r3, r4, r5, r6, r7⟩ := k37_openM hM
  obtain ⟨A, cc, rfl⟩ := Kd.R_slice r4
  have hX2 := hX
  unfold blkB at hX2
  simp only [Bool.and_eq_true, beq_iff_eq] at hX2
  obtain ⟨q1, q2, q3, q4, q6, q7, q0, q5⟩ := hX2
  refine ⟨⟨A, X.f4.f2, cc, hcell 12 _ rfl, hfr 12, (Kd.R_reads' r4).2.1, (side_pos q4).1, (side_pos q4).2, Kd.F_mono (Kd.R_F r4) (fun k hk => hk.2), fun W1 hb A' c' l' hn hl hF => ?_⟩, blk_lt hbR⟩
  have h2 := h.step hb
  have hbR2 := blk_below hbR hb
  have hF2 : Kd.F kI (W1.setCell ⟨gR, (l3.length - 1) * 20 + 12, none⟩ (.slice A' l'.length c')) (fun k => k ≠ gR) A' l'.length l' := Kd.F_step hF (fun k hk _ => Below.heap_setCell _ _ _ _ hk)
  have hC3 := last_put (j := 12) h2.r3 h1 (by decide) (.slice A' l'.length c') ({X with f4 := {X.f4 with f2 := l'}}) (fun cs hM2 => by
    rw [hXe] at hM2
    exact upd4 hM2 A' c' l' hl (Kd.F_now hF2))
  have g1 := Kd.R_reads' (Kd.R_set h2.r2 hbR2 (by decide) ((l3.length - 1) * 20 + 12) (.slice A' l'.length c'))
  have g4 := Kd.R_reads' (Kd.R_set h2.r4 hbR2 (by decide) ((l3.length - 1) * 20 + 12) (.slice A' l'.length c'))
  have g7 := Kd.R_reads' (Kd.R_set h2.r7 hbR2 (by decide) ((l3.length - 1) * 20 + 12) (.slice A' l'.length c'))
  have hlen : (l3.set (l3.length - 1) ({X with f4 := {X.f4 with f2 := l'}})).length = l3.length := List.length_set
  refine ⟨⟨A2, c2, l2, some ⟨gR, 0, none⟩, c3, l3.set (l3.length - 1) ({X with f4 := {X.f4 with f2 := l'}}), A4, c4, l4, A7, c7, l7, blk_far (p := ⟨gR, _, none⟩) h2.k (blk_ne h2.k hbR2 (by decide)) _, ?_, ⟨g1.2.2, g1.2.1⟩, ?_, ⟨g4.2.2, g4.2.1⟩, ⟨g7.2.2, g7.2.1⟩, by rw [hlen]; omega, ?_⟩, h2.bel.setCell (p := ⟨gR, _, none⟩) (Kd.R_base h2.r3 gR rfl) _⟩
  · rw [hlen]
    exact blk_far (p := ⟨gR, _, none⟩) h2.a (blk_ne h2.a hbR2 (by decide)) _
  · rw [hlen]
    exact ⟨hC3, (Kd.R_reads' h2.r3).2.1⟩
  · refine chk_four s0 ?_
    rintro ⟨_, _, _, _, e⟩
    have hb2 := bad4 hX l' hn
    have hmem : ({X with f4 := {X.f4 with f2 := l'}}) ∈ l3.set (l3.length - 1) ({X with f4 := {X.f4 with f2 := l'}}) := List.mem_set (by omega) _
    rw [List.all_eq_true.mp e _ hmem] at hb2
    cases hb2
theorem good_blk5 {w W : World} {g9 : Nat} {r c hs a3 a4 : Int} {A2 : Option Addr} {c2 : Nat} {l2 : List Int} {gR c3 : Nat} {l3 : List BK} {A4 : Option Addr} {c4 : Nat} {l4 : List Int} {A7 : Option Addr} {c7 : Nat} {l7 : List Int} (h : Bs w W g9 r c hs a3 a4 A2 c2 l2 gR c3 l3 A4 c4 l4 A7 c7 l7) (hc : chk r c hs a3 a4 r c l2 l3 l4 r c l7 = 0) (h1 : 1 ≤ l3.length) (h5 : l3.length ≤ 4) : Good w W g9 gR ((l3.length - 1) * 20 + 13) r c hs a3 a4 := by
  obtain ⟨s0, s1, s2, s3, s4, s5⟩ := chk_shp hc
  obtain ⟨_, ⟨d0, d1⟩, _⟩ := shp_ok s0
  obtain ⟨cs, hc1, hM, hcell, hfr⟩ := Kd.R_elem h.r3 z37 ((l3.length - 1 : Nat) : Int) (by omega) (by omega)
  rw [Int.toNat_natCast] at hM hcell hfr
  have hXm : l3.getD (l3.length - 1) z37 ∈ l3 := by rw [List.getD_eq_getElem?_getD, List.getElem?_eq_getElem (by omega)]; exact List.getElem_mem _
  have hX := List.all_eq_true.mp s5 _ hXm
  obtain ⟨cur, hbR⟩ := Kd.R_typed h.r3 gR rfl
  generalize hXe : l3.getD (l3.length - 1) z37 = X at hM hX hXm
  obtain ⟨v0, v3, v6, v9, v12, v13, v16, v19, rfl, r0, r1, r2, r3, r4, r5, r6, r7⟩ := k37_openM hM
  obtain ⟨A, cc, rfl⟩ := Kd.R_slice r5
  have hX2 := hX
  unfold blkB at hX2
  simp only [Bool.and_eq_true, beq_iff_eq] at hX2
  obtain ⟨q1, q2, q3, q4, q6, q7, q0, q5⟩ := hX2
  refine ⟨⟨A, X.f5, cc, hcell 13 _ rfl, hfr 13, (Kd.R_reads' r5).2.1, by omega, by omega, Kd.F_mono (Kd.R_F r5) (fun k hk => hk.2), fun W1 hb A' c' l' hn hl hF => ?_⟩, blk_lt hbR⟩
  have h2 := h.step hb
  have hbR2 := blk_below hbR hb
  have hF2 : Kd.F kI (W1.setCell ⟨gR, (l3.length - 1) * 20 + 13, none⟩ (.slice A' l'.length c')) (fun k => k ≠ gR) A' l'.length l' := Kd.F_step hF (fun k hk _ => Below.heap_setCell _ _ _ _ hk)
  have hC3 := last_put (j := 13) h2.r3 h1 (by decide) (.slice A' l'.length c') ({X with f5 := l'}) (fun cs hM2 => by
    rw [hXe] at hM2
    exact upd5 hM2 A' c' l' hl (Kd.F_now hF2))
  have g1 := Kd.R_reads' (Kd.R_set h2.r2 hbR2 (by decide) ((l3.length - 1) * 20 + 13) (.slice A' l'.length c'))
  have g4 := Kd.R_reads' (Kd.R_set h2.r4 hbR2 (by decide) ((l3.length - 1) * 20 + 13) (.slice A' l'.length c'))
  have g7 := Kd.R_reads' (Kd.R_set h2.r7 hbR2 (by decide) ((l3.length - 1) * 20 + 13) (.slice A' l'.length c'))
  have hlen : (l3.set (l3.length - 1) ({X with f5 := l'})).length = l3.length := List.length_set
  refine ⟨⟨A2, c2, l2, some ⟨gR, 0, none⟩, c3, l3.set (l3.length - 1) ({X with f5 := l'}), A4, c4, l4, A7, c7, l7, blk_far (p := ⟨gR, _, none⟩) h2.k (blk_ne h2.k hbR2 (by decide)) _, ?_, ⟨g1.2.2, g1.2.1⟩, ?_, ⟨g4.2.2, g4.2.1⟩, ⟨g7.2.2, g7.2.1⟩, by rw [hlen]; omega, ?_⟩, h2.bel.setCell (p := ⟨gR, _, none⟩) (Kd.R_base h2.r3 gR rfl) _⟩
  · rw [hlen]
    exact blk_far (p := ⟨gR, _, none⟩) h2.a (blk_ne h2.a hbR2 (by decide)) _
  · rw [hlen]
    exact ⟨hC3, (Kd.R_reads' h2.r3).2.1⟩
  · refine chk_four s0 ?_
    rintro ⟨_, _, _, _, e⟩
    have hb2 := bad5 hX l' hn
    have hmem : ({X with f5 := l'}) ∈ l3.set (l3.length - 1) ({X with f5 := l'}) := List.mem_set (by omega) _
    rw [List.all_eq_true.mp e _ hmem] at hb2
    cases hb2
theorem good_blk6 {w W : World} {g9 : Nat} {r c hs a3 a4 : Int} {A2 : Option Addr} {c2 : Nat} {l2 : List Int} {gR c3 : Nat} {l3 : List BK} {A4 : Option Addr} {c4 : Nat} {l4 : List Int} {A7 : Option Addr} {c7 : Nat} {l7 : List Int} (h : Bs w W g9 r c hs a3 a4 A2 c2 l2 gR c3 l3 A4 c4 l4 A7 c7 l7) (hc : chk r c hs a3 a4 r c l2 l3 l4 r c l7 = 0) (h1 : 1 ≤ l3.length) (h5 : l3.length ≤ 4) : Good w W g9 gR ((l3.length - 1) * 20 + 16) r c hs a3 a4 := by
  obtain ⟨s0, s1, s2, s3, s4, s5⟩ := chk_shp hc
  obtain ⟨_, ⟨d0, d1⟩, _⟩ := shp_ok s0
  obtain ⟨cs, hc1, hM, hcell, hfr⟩ := Kd.R_elem h.r3 z37 ((l3.length - 1 : Nat) : Int) (by omega) (by omega)
  rw [Int.toNat_natCast] at hM hcell hfr
  have hXm : l3.getD (l3.length - 1) z37 ∈ l3 := by rw [List.getD_eq_getElem?_getD, List.getElem?_eq_getElem (by omega)]; exact List.getElem_mem _
  have hX := List.all_eq_true.mp s5 _ hXm
  obtain ⟨cur, hbR⟩ := Kd.R_typed h.r3 gR rfl
  generalize hXe : l3.getD (l3.length - 1) z37 = X at hM hX hXm
  obtain ⟨v0, v3, v6, v9, v12, v13, v16, v19, rfl, r0, r1, r2, r3, r4, r5, r6, r7⟩ := k37_openM hM
  obtain ⟨A, cc, rfl⟩ := Kd.R_slice r6
  have hX2 := hX
  unfold blkB at hX2
  simp only [Bool.and_eq_true, beq_iff_eq] at hX2
  obtain ⟨q1, q2, q3, q4, q6, q7, q0, q5⟩ := hX2
  refine ⟨⟨A, X.f6.f2, cc, hcell 16 _ rfl, hfr 16, (Kd.R_reads' r6).2.1, (side_pos q6).1, (side_pos q6).2, Kd.F_mono (Kd.R_F r6) (fun k hk => hk.2), fun W1 hb A' c' l' hn hl hF => ?_⟩, blk_lt hbR⟩
  have h2 := h.step hb
  have hbR2 := blk_below hbR hb
  have hF2 : Kd.F kI (W1.setCell ⟨gR, (l3.length - 1) * 20 + 16, none⟩ (.slice A' l'.length c')) (fun k => k ≠ gR) A' l'.length l' := Kd.F_step hF (fun k hk _ => Below.heap_setCell _ _ _ _ hk)
  have hC3 := last_put (j := 16) h2.r3 h1 (by decide) (.slice A' l'.length c') ({X with f6 := {X.f6 with f2 := l'}}) (fun cs hM2 => by
    rw [hXe] at hM2
    exact upd6 hM2 A' c' l' hl (Kd.F_now hF2))
  have g1 := Kd.R_reads' (Kd.R_set h2.r2 hbR2 (by decide) ((l3.length - 1) * 20 + 16) (.slice A' l'.length c'))
  have g4 := Kd.R_reads' (Kd.R_set h2.r4 hbR2 (by decide) ((l3.length - 1) * 20 + 16) (.slice A' l'.length c'))
  have g7 := Kd.R_reads' (Kd.R_set h2.r7 hbR2 (by decide) ((l3.length - 1) * 20 + 16) (.slice A' l'.length c'))
  have hlen : (l3.set (l3.length - 1) ({X with f6 := {X.f6 with f2 := l'}})).length = l3.length := List.length_set
  refine ⟨⟨A2, c2, l2, some ⟨gR, 0, none⟩, c3, l3.set (l3.length - 1) ({X with f6 := {X.f6 with f2 := l'}}), A4, c4, l4, A7, c7, l7, blk_far (p := ⟨gR, _, none⟩) h2.k (blk_ne h2.k hbR2 (by decide)) _, ?_, ⟨g1.2.2, g1.2.1⟩, ?_, ⟨g4.2.2, g4.2.1⟩, ⟨g7.2.2, g7.2.1⟩, by rw [hlen]; omega, ?_⟩, h2.bel.setCell (p := ⟨gR, _, none⟩) (Kd.R_base h2.r3 gR rfl) _⟩
  · rw [hlen]
    exact blk_far (p := ⟨gR, _, none⟩) h2.a (blk_ne h2.a hbR2 (by decide)) _
  · rw [hlen]
    exact ⟨hC3, (Kd.R_reads' h2.r3).2.1⟩
  · refine chk_four s0 ?_
    rintro ⟨_, _, _, _, e⟩
    have hb2 := bad6 hX l' hn
    have hmem : ({X with f6 := {X.f6 with f2 := l'}}) ∈ l3.set (l3.length - 1) ({X with f6 := {X.f6 with f2 := l'}}) := List.mem_set (by omega) _
    rw [List.all_eq_true.mp e _ hmem] at hb2
    cases hb2
theorem good_blk7 {w W : World} {g9 : Nat} {r c hs a3 a4 : Int} {A2 : Option Addr} {c2 : Nat} {l2 : List Int} {gR c3 : Nat} {l3 : List BK} {A4 : Option Addr} {c4 : Nat} {l4 : List Int} {A7 : Option Addr} {c7 : Nat} {l7 : List Int} (h : Bs w W g9 r c hs a3 a4 A2 c2 l2 gR c3 l3 A4 c4 l4 A7 c7 l7) (hc : chk r c hs a3 a4 r c l2 l3 l4 r c l7 = 0) (h1 : 1 ≤ l3.length) (h5 : l3.length ≤ 4) : Good w W g9 gR ((l3.length - 1) * 20 + 19) r c hs a3 a4 := by
  obtain ⟨s0, s1, s2, s3, s4, s5⟩ := chk_shp hc
  obtain ⟨_, ⟨d0, d1⟩, _⟩ := shp_ok s0
  obtain ⟨cs, hc1, hM, hcell, hfr⟩ := Kd.R_elem h.r3 z37 ((l3.length - 1 : Nat) : Int) (by omega) (by omega)
  rw [Int.toNat_natCast] at hM hcell hfr
  have hXm : l3.getD (l3.length - 1) z37 ∈ l3 := by rw [List.getD_eq_getElem?_getD, List.getElem?_eq_getElem (by omega)]; exact List.getElem_mem _
  have hX := List.all_eq_true.mp s5 _ hXm
  obtain ⟨cur, hbR⟩ := Kd.R_typed h.r3 gR rfl
  generalize hXe : l3.getD (l3.length - 1) z37 = X at hM hX hXm
  obtain ⟨v0, v3, v6, v9, v12, v13, v16, v19, rfl, r0, r1, r2, r3, r4, r5, r6, r7⟩ := k37_openM hM
  obtain ⟨A, cc, rfl⟩ := Kd.R_slice r7
  have hX2 := hX
  unfold blkB at hX2
  simp only [Bool.and_eq_true, beq_iff_eq] at hX2
  obtain ⟨q1, q2, q3, q4, q6, q7, q0, q5⟩ := hX2
  refine ⟨⟨A, X.f7.f2, cc, hcell 19 _ rfl, hfr 19, (Kd.R_reads' r7).2.1, (side_pos q7).1, (side_pos q7).2, Kd.F_mono (Kd.R_F r7) (fun k hk => hk.2), fun W1 hb A' c' l' hn hl hF => ?_⟩, blk_lt hbR⟩
  have h2 := h.step hb
  have hbR2 := blk_below hbR hb
  have hF2 : Kd.F kI (W1.setCell ⟨gR, (l3.length - 1) * 20 + 19, none⟩ (.slice A' l'.length c')) (fun k => k ≠ gR) A' l'.length l' := Kd.F_step hF (fun k hk _ => Below.heap_setCell _ _ _ _ hk)
  have hC3 := last_put (j := 19) h2.r3 h1 (by decide) (.slice A' l'.length c') ({X with f7 := {X.f7 with f2 := l'}}) (fun cs hM2 => by
    rw [hXe] at hM2
    exact upd7 hM2 A' c' l' hl (Kd.F_now hF2))
  have g1 := Kd.R_reads' (Kd.R_set h2.r2 hbR2 (by decide) ((l3.length - 1) * 20 + 19) (.slice A' l'.length c'))
  have g4 := Kd.R_reads' (Kd.R_set h2.r4 hbR2 (by decide) ((l3.length - 1) * 20 + 19) (.slice A' l'.length c'))
  have g7 := Kd.R_reads' (Kd.R_set h2.r7 hbR2 (by decide) ((l3.length - 1) * 20 + 19) (.slice A' l'.length c'))
  have hlen : (l3.set (l3.length - 1) ({X with f7 := {X.f7 with f2 := l'}})).length = l3.length := List.length_set
  refine ⟨⟨A2, c2, l2, some ⟨gR, 0, none⟩, c3, l3.set (l3.length - 1) ({X with f7 := {X.f7 with f2 := l'}}), A4, c4, l4, A7, c7, l7, blk_far (p := ⟨gR, _, none⟩) h2.k (blk_ne h2.k hbR2 (by decide)) _, ?_, ⟨g1.2.2, g1.2.1⟩, ?_, ⟨g4.2.2, g4.2.1⟩, ⟨g7.2.2, g7.2.1⟩, by rw [hlen]; omega, ?_⟩, h2.bel.setCell (p := ⟨gR, _, none⟩) (Kd.R_base h2.r3 gR rfl) _⟩
  · rw [hlen]
    exact blk_far (p := ⟨gR, _, none⟩) h2.a (blk_ne h2.a hbR2 (by decide)) _
  · rw [hlen]
    exact ⟨hC3, (Kd.R_reads' h2.r3).2.1⟩
  · refine chk_four s0 ?_
    rintro ⟨_, _, _, _, e⟩
    have hb2 := bad7 hX l' hn
    have hmem : ({X with f7 := {X.f7 with f2 := l'}}) ∈ l3.set (l3.length - 1) ({X with f7 := {X.f7 with f2 := l'}}) := List.mem_set (by omega) _
    rw [List.all_eq_true.mp e _ hmem] at hb2
    cases hb2
theorem good_box2 {w W : World} {g9 : Nat} {r c hs a3 a4 : Int} {A2 : Option Addr} {c2 : Nat} {l2 : List Int} {gR c3 : Nat} {l3 : List BK} {A4 : Option Addr} {c4 : Nat} {l4 : List Int} {A7 : Option Addr} {c7 : Nat} {l7 : List Int} (h : Bs w W g9 r c hs a3 a4 A2 c2 l2 gR c3 l3 A4 c4 l4 A7 c7 l7) (hc : chk r c hs a3 a4 r c l2 l3 l4 r c l7 = 0) (h5 : l3.length ≤ 4) : Good w W g9 g9 2 r c hs a3 a4 := by
  obtain ⟨s0, s1, s2, s3, s4, s5⟩ := chk_shp hc
  obtain ⟨_, ⟨d0, d1⟩, _⟩ := shp_ok s0
  have hlo := h.lo
  refine ⟨⟨A2, l2, c2, blk_cell h.a 2, blk_frozen h.a 2, (Kd.R_reads' h.r2).2.1, (side_pos s1).1, (side_pos s1).2, Kd.F_mono (Kd.R_F (Kd.R_types h.r2 h.a (by decide))) (fun k hk => hk.2), fun W1 hb A' c' l' hn hl hF => ?_⟩, blk_lt h.a⟩
  have h2 := h.step hb
  have hF2 : Kd.F kI (W1.setCell ⟨g9, 2, none⟩ (.slice A' l'.length c')) (fun k => k ≠ g9) A' l'.length l' := Kd.F_step hF (fun k hk _ => Below.heap_setCell _ _ _ _ hk)
  have g2 := Kd.R_reads' (Kd.R_set h2.r2 h2.a (by decide) 2 (.slice A' l'.length c'))
  have g3 := Kd.R_reads' (Kd.R_set h2.r3 h2.a (by decide) 2 (.slice A' l'.length c'))
  have g4 := Kd.R_reads' (Kd.R_set h2.r4 h2.a (by decide) 2 (.slice A' l'.length c'))
  have g7 := Kd.R_reads' (Kd.R_set h2.r7 h2.a (by decide) 2 (.slice A' l'.length c'))
  refine ⟨⟨A', c', l', some ⟨gR, 0, none⟩, c3, l3, A4, c4, l4, A7, c7, l7, blk_far (p := ⟨g9, 2, none⟩) h2.k (show w.heap.size ≠ g9 by omega) _, blk_set h2.a 2 _, ⟨Kd.F_now hF2, hl⟩, ⟨g3.2.2, g3.2.1⟩, ⟨g4.2.2, g4.2.1⟩, ⟨g7.2.2, g7.2.1⟩, by omega, ?_⟩, h2.bel.setCell (p := ⟨g9, 2, none⟩) (show w.heap.size ≤ g9 by omega) _⟩
  · refine chk_four s0 ?_
    rintro ⟨e, _⟩
    rw [side_len s1 hn] at e
    cases e
theorem good_box4 {w W : World} {g9 : Nat} {r c hs a3 a4 : Int} {A2 : Option Addr} {c2 : Nat} {l2 : List Int} {gR c3 : Nat} {l3 : List BK} {A4 : Option Addr} {c4 : Nat} {l4 : List Int} {A7 : Option Addr} {c7 : Nat} {l7 : List Int} (h : Bs w W g9 r c hs a3 a4 A2 c2 l2 gR c3 l3 A4 c4 l4 A7 c7 l7) (hc : chk r c hs a3 a4 r c l2 l3 l4 r c l7 = 0) (h5 : l3.length ≤ 4) : Good w W g9 g9 4 r c hs a3 a4 := by
  obtain ⟨s0, s1, s2, s3, s4, s5⟩ := chk_shp hc
  obtain ⟨_, ⟨d0, d1⟩, _⟩ := shp_ok s0
  have hlo := h.lo
  refine ⟨⟨A4, l4, c4, blk_cell h.a 4, blk_frozen h.a 4, (Kd.R_reads' h.r4).2.1, by omega, by omega, Kd.F_mono (Kd.R_F (Kd.R_types h.r4 h.a (by decide))) (fun k hk => hk.2), fun W1 hb A' c' l' hn hl hF => ?_⟩, blk_lt h.a⟩
  have h2 := h.step hb
  have hF2 : Kd.F kI (W1.setCell ⟨g9, 4, none⟩ (.slice A' l'.length c')) (fun k => k ≠ g9) A' l'.length l' := Kd.F_step hF (fun k hk _ => Below.heap_setCell _ _ _ _ hk)
  have g2 := Kd.R_reads' (Kd.R_set h2.r2 h2.a (by decide) 4 (.slice A' l'.length c'))
  have g3 := Kd.R_reads' (Kd.R_set h2.r3 h2.a (by decide) 4 (.slice A' l'.length c'))
  have g4 := Kd.R_reads' (Kd.R_set h2.r4 h2.a (by decide) 4 (.slice A' l'.length c'))
  have g7 := Kd.R_reads' (Kd.R_set h2.r7 h2.a (by decide) 4 (.slice A' l'.length c'))
  refine ⟨⟨A2, c2, l2, some ⟨gR, 0, none⟩, c3, l3, A', c', l', A7, c7, l7, blk_far (p := ⟨g9, 4, none⟩) h2.k (show w.heap.size ≠ g9 by omega) _, blk_set h2.a 4 _, ⟨g2.2.2, g2.2.1⟩, ⟨g3.2.2, g3.2.1⟩, ⟨Kd.F_now hF2, hl⟩, ⟨g7.2.2, g7.2.1⟩, by omega, ?_⟩, h2.bel.setCell (p := ⟨g9, 4, none⟩) (show w.heap.size ≤ g9 by omega) _⟩
  · refine chk_four s0 ?_
    rintro ⟨_, _, e, _⟩
    omega
theorem good_box7 {w W : World} {g9 : Nat} {r c hs a3 a4 : Int} {A2 : Option Addr} {c2 : Nat} {l2 : List Int} {gR c3 : Nat} {l3 : List BK} {A4 : Option Addr} {c4 : Nat} {l4 : List Int} {A7 : Option Addr} {c7 : Nat} {l7 : List Int} (h : Bs w W g9 r c hs a3 a4 A2 c2 l2 gR c3 l3 A4 c4 l4 A7 c7 l7) (hc : chk r c hs a3 a4 r c l2 l3 l4 r c l7 = 0) (h5 : l3.length ≤ 4) : Good w W g9 g9 7 r c hs a3 a4 := by
  obtain ⟨s0, s1, s2, s3, s4, s5⟩ := chk_shp hc
  obtain ⟨_, ⟨d0, d1⟩, _⟩ := shp_ok s0
  have hlo := h.lo
  refine ⟨⟨A7, l7, c7, blk_cell h.a 7, blk_frozen h.a 7, (Kd.R_reads' h.r7).2.1, (side_pos s2).1, (side_pos s2).2, Kd.F_mono (Kd.R_F (Kd.R_types h.r7 h.a (by decide))) (fun k hk => hk.2), fun W1 hb A' c' l' hn hl hF => ?_⟩, blk_lt h.a⟩
  have h2 := h.step hb
  have hF2 : Kd.F kI (W1.setCell ⟨g9, 7, none⟩ (.slice A' l'.length c')) (fun k => k ≠ g9) A' l'.length l' := Kd.F_step hF (fun k hk _ => Below.heap_setCell _ _ _ _ hk)
  have g2 := Kd.R_reads' (Kd.R_set h2.r2 h2.a (by decide) 7 (.slice A' l'.length c'))
  have g3 := Kd.R_reads' (Kd.R_set h2.r3 h2.a (by decide) 7 (.slice A' l'.length c'))
  have g4 := Kd.R_reads' (Kd.R_set h2.r4 h2.a (by decide) 7 (.slice A' l'.length c'))
  have g7 := Kd.R_reads' (Kd.R_set h2.r7 h2.a (by decide) 7 (.slice A' l'.length c'))
  refine ⟨⟨A2, c2, l2, some ⟨gR, 0, none⟩, c3, l3, A4, c4, l4, A', c', l', blk_far (p := ⟨g9, 7, none⟩) h2.k (show w.heap.size ≠ g9 by omega) _, blk_set h2.a 7 _, ⟨g2.2.2, g2.2.1⟩, ⟨g3.2.2, g3.2.1⟩, ⟨g4.2.2, g4.2.1⟩, ⟨Kd.F_now hF2, hl⟩, by omega, ?_⟩, h2.bel.setCell (p := ⟨g9, 7, none⟩) (show w.heap.size ≤ g9 by omega) _⟩
  · refine chk_four s0 ?_
    rintro ⟨_, e, _⟩
    rw [side_len s2 hn] at e
    cases e
set_option maxHeartbeats 16000000 in
set_option maxRecDepth 100000 in
theorem wants_ok (r c hs a3 a4 sd which : Int) (more : Bool) (l2 : List Int) (l3 : List BK) (l4 l7 : List Int) (w : World)
    (hm : model_Make.f 5000 r c hs a3 a4 sd = some (r, c, l2, l3, l4, r, c, l7, 0)) (hck : chk r c hs a3 a4 r c l2 l3 l4 r c l7 = 0) (h3 : (l3.length : Int) = a4) (h4 : 1 ≤ l3.length) (h5 : l3.length ≤ 4) :
    Calls Try.prog 7 #[.agg (CF r c hs a3 a4), .int .u64 sd, .int .i64 which, .bool more] w fun e w' => e = .returned (.bool true) ∧ Below w.heap.size w w' := by
  have HM := Aside0.mk hm
  have HC := Aside0.mk hck
  have d3 : ((l3.length : Int) != a4) = false := by simp [h3]
  have b3 : (0 : Int) ≤ (l3.length : Int) - 1 := by omega
  have b4 : (l3.length : Int) - 1 < (l3.length : Int) := by omega
  have b5 : (l3.length : Int) ≤ 4 := by omega
  have H4 := Aside0.mk (And.intro h4 h5)
  have AW := Aside0.mk awake_true
  have BW := Aside0.mk (((Below.refl w.heap.size w).alloc (Nat.le_refl _) (.cells (CF r c hs a3 a4) 23 (0, 0))))
  have KC := Aside0.mk (blk_new w (.cells (CF r c hs a3 a4) 23 (0, 0)))
  clear hm hck h3 h4 h5
  go_enter Try.func7, Try.ntmps7
  have x0 := blk_cell KC.out 0
  have x1 := blk_cell KC.out 1
  have x2 := blk_cell KC.out 2
  have x3 := blk_cell KC.out 3
  have x4 := blk_cell KC.out 4
  simp [CF] at x0 x1 x2 x3 x4
  go_upto_region 7 with (first
    | (go_at_call 9; go_loud ((refine (model_Make.calls 5000 r c hs a3 a4 sd r c l2 l3 l4 r c l7 0 _ HM.out).mono ?_); rintro e w1 ⟨v2, v3, v4, v7, rfl, hr2, hs3, hr4, hr7, hb⟩; have hr3 := Kd.S_R hs3; obtain ⟨A2, c2, rfl⟩ := Kd.R_slice hr2; obtain ⟨A3, c3, rfl⟩ := Kd.R_slice hr3; obtain ⟨A4, c4, rfl⟩ := Kd.R_slice hr4; obtain ⟨A7, c7, rfl⟩ := Kd.R_slice hr7; have RA := Aside0.mk (And.intro hr2 (And.intro hr3 (And.intro hr4 hr7))); have KC1 := Aside0.mk (blk_below KC.out hb); have BW1 := Aside0.mk (BW.out.trans (hb.mono BW.out.size)); obtain ⟨gR, hA3⟩ := own_head hr3 H4.out.1; subst hA3; clear hr2 hs3 hr3 hr4 hr7 hb))
    | ((with_reducible refine gate_store (t := 30) (p := 9) rfl ?_); go_loud ((refine store_new_event #[.int .i64 r, .int .i64 c, .slice A2 l2.length c2, .slice (some ⟨gR, 0, none⟩) l3.length c3, .slice A4 l4.length c4, .int .i64 r, .int .i64 c, .slice A7 l7.length c7] rfl rfl rfl rfl rfl (by kernel_rfl) rfl (by simp [Value.oneCell']) ?_); have hb := below_alloc (Below.refl w1.heap.size w1) (.cells #[.int .i64 r, .int .i64 c, .slice A2 l2.length c2, .slice (some ⟨gR, 0, none⟩) l3.length c3, .slice A4 l4.length c4, .int .i64 r, .int .i64 c, .slice A7 l7.length c7] 30 (0, 0)); have KC2 := Aside0.mk (blk_below KC1.out hb); have KA2 := Aside0.mk (blk_new w1 (.cells #[.int .i64 r, .int .i64 c, .slice A2 l2.length c2, .slice (some ⟨gR, 0, none⟩) l3.length c3, .slice A4 l4.length c4, .int .i64 r, .int .i64 c, .slice A7 l7.length c7] 30 (0, 0))); have RA2 := Aside0.mk (And.intro (Kd.R_below RA.out.1 hb) (And.intro (Kd.R_below RA.out.2.1 hb) (And.intro (Kd.R_below RA.out.2.2.1 hb) (Kd.R_below RA.out.2.2.2 hb)))); have BW2 := Aside0.mk (BW1.out.trans (hb.mono BW1.out.size)); clear hb; generalize w1.alloc (.cells #[.int .i64 r, .int .i64 c, .slice A2 l2.length c2, .slice (some ⟨gR, 0, none⟩) l3.length c3, .slice A4 l4.length c4, .int .i64 r, .int .i64 c, .slice A7 l7.length c7] 30 (0, 0)) = w2 at KC2 KA2 RA2 BW2 ⊢; clear x0 x1 x2 x3 x4; have x0 := blk_cell KC2.out 0; have x1 := blk_cell KC2.out 1; have x2 := blk_cell KC2.out 2; have x3 := blk_cell KC2.out 3; have x4 := blk_cell KC2.out 4; simp [CF] at x0 x1 x2 x3 x4; have y3 := blk_cell KA2.out 3; simp at y3)))
  have BS2 := Aside0.mk (show Bs w w2 w1.heap.size r c hs a3 a4 A2 c2 l2 gR c3 l3 A4 c4 l4 A7 c7 l7 from ⟨KC2.out, KA2.out, Kd.R_lower (Kd.R_mono RA2.out.1 (fun _ _ => trivial)) (by rw [World.size_alloc]; omega), Kd.R_lower (Kd.R_mono RA2.out.2.1 (fun _ _ => trivial)) (by rw [World.size_alloc]; omega), Kd.R_lower (Kd.R_mono RA2.out.2.2.1 (fun _ _ => trivial)) (by rw [World.size_alloc]; omega), Kd.R_lower (Kd.R_mono RA2.out.2.2.2 (fun _ _ => trivial)) (by rw [World.size_alloc]; omega), BW2.out, by have := blk_lt KC1.out; exact this⟩)
  obtain ⟨q, hq⟩ : ∃ q, (l3.length - 1) * 20 = q := ⟨_, rfl⟩
  rw [hq]
  have HQ := Aside0.mk hq
  clear hq b3 b4 b5 x0 x1 x2 x3 x4 y3
  clear KC KC1 KC2 KA2 RA RA2 BW BW1 BW2 HM
  obtain ⟨g9, hg9⟩ : ∃ g, w1.heap.size = g := ⟨_, rfl⟩
  rw [hg9] at BS2 ⊢
  clear hg9
  refine start_ (n := 37) (S := fun w' => True) (ds := []) #[false, false, false, false, false, false, false, false, false, false, false, false, false, false, false, false, false, false, false, false, false, false, false, false, false, false, false, false, false, false, false, false, false, false, false, false, false] (by kernel_rfl) rfl rfl trivial (fun hHeld => ?_)
  refine pure_ (i := 0) (N := some 36) (v := ?_) (a' := ?_) #[true, false, false, false, false, false, false, false, false, false, false, false, false, false, false, false, false, false, false, false, false, false, false, false, false, false, false, false, false, false, false, false, false, false, false, false, false] rfl rfl (by kernel_rfl) (fun _ _ _ h => h) (Or.inl ⟨by rfl, ?_⟩) ?_ ?_
  rotate_left
  · intro w'
    go_simp
    with_reducible rfl
  rotate_left
  · simp only [Act.put, List.setIfInBounds_toArray, List.set_cons_zero, List.set_cons_succ, i64_w, i32_w]
    rfl
  refine pure_ (i := 1) (N := some 37) (v := ?_) (a' := ?_) #[true, true, false, false, false, false, false, false, false, false, false, false, false, false, false, false, false, false, false, false, false, false, false, false, false, false, false, false, false, false, false, false, false, false, false, false, false] rfl rfl (by kernel_rfl) (fun _ _ _ h => h) (Or.inl ⟨by rfl, ?_⟩) ?_ ?_
  rotate_left
  · intro w'
    go_simp
    with_reducible rfl
  rotate_left
  · simp only [Act.put, List.setIfInBounds_toArray, List.set_cons_zero, List.set_cons_succ, i64_w, i32_w]
    rfl
  refine pure_ (i := 2) (N := some 38) (v := ?_) (a' := ?_) #[true, true, true, false, false, false, false, false, false, false, false, false, false, false, false, false, false, false, false, false, false, false, false, false, false, false, false, false, false, false, false, false, false, false, false, false, false] rfl rfl (by kernel_rfl) (fun _ _ _ h => h) (Or.inl ⟨by rfl, ?_⟩) ?_ ?_
  rotate_left
  · intro w'
    go_simp
    with_reducible rfl
  rotate_left
  · simp only [Act.put, List.setIfInBounds_toArray, List.set_cons_zero, List.set_cons_succ, i64_w, i32_w]
    rfl
  refine pure_ (i := 3) (N := some 39) (v := ?_) (a' := ?_) #[true, true, true, true, false, false, false, false, false, false, false, false, false, false, false, false, false, false, false, false, false, false, false, false, false, false, false, false, false, false, false, false, false, false, false, false, false] rfl rfl (by kernel_rfl) (fun _ _ _ h => h) (Or.inl ⟨by rfl, ?_⟩) ?_ ?_
  rotate_left
  · intro w'
    go_simp
    with_reducible rfl
  rotate_left
  · simp only [Act.put, List.setIfInBounds_toArray, List.set_cons_zero, List.set_cons_succ, i64_w, i32_w]
    rfl
  refine pure_ (i := 4) (N := some 40) (v := ?_) (a' := ?_) #[true, true, true, true, true, false, false, false, false, false, false, false, false, false, false, false, false, false, false, false, false, false, false, false, false, false, false, false, false, false, false, false, false, false, false, false, false] rfl rfl (by kernel_rfl) (fun _ _ _ h => h) (Or.inl ⟨by rfl, ?_⟩) ?_ ?_
  rotate_left
  · intro w'
    go_simp
    with_reducible rfl
  rotate_left
  · simp only [Act.put, List.setIfInBounds_toArray, List.set_cons_zero, List.set_cons_succ, i64_w, i32_w]
    rfl
  refine pure_ (i := 5) (N := some 41) (v := ?_) (a' := ?_) #[true, true, true, true, true, true, false, false, false, false, false, false, false, false, false, false, false, false, false, false, false, false, false, false, false, false, false, false, false, false, false, false, false, false, false, false, false] rfl rfl (by kernel_rfl) (fun _ _ _ h => h) (Or.inl ⟨by rfl, ?_⟩) ?_ ?_
  rotate_left
  · intro w'
    go_simp
    with_reducible rfl
  rotate_left
  · simp only [Act.put, List.setIfInBounds_toArray, List.set_cons_zero, List.set_cons_succ, i64_w, i32_w]
    rfl
  refine pure_ (i := 6) (N := some 42) (v := ?_) (a' := ?_) #[true, true, true, true, true, true, true, false, false, false, false, false, false, false, false, false, false, false, false, false, false, false, false, false, false, false, false, false, false, false, false, false, false, false, false, false, false] rfl rfl (by kernel_rfl) (fun _ _ _ h => h) (Or.inl ⟨by rfl, ?_⟩) ?_ ?_
  rotate_left
  · intro w'
    go_simp
    with_reducible rfl
  rotate_left
  · simp only [Act.put, List.setIfInBounds_toArray, List.set_cons_zero, List.set_cons_succ, i64_w, i32_w]
    rfl
  refine pure_ (i := 7) (N := some 43) (v := ?_) (a' := ?_) #[true, true, true, true, true, true, true, true, false, false, false, false, false, false, false, false, false, false, false, false, false, false, false, false, false, false, false, false, false, false, false, false, false, false, false, false, false] rfl rfl (by kernel_rfl) (fun _ _ _ h => h) (Or.inl ⟨by rfl, ?_⟩) ?_ ?_
  rotate_left
  · intro w'
    go_simp
    with_reducible rfl
  rotate_left
  · simp only [Act.put, List.setIfInBounds_toArray, List.set_cons_zero, List.set_cons_succ, i64_w, i32_w]
    rfl
  refine pure_ (i := 8) (N := some 44) (v := ?_) (a' := ?_) #[true, true, true, true, true, true, true, true, true, false, false, false, false, false, false, false, false, false, false, false, false, false, false, false, false, false, false, false, false, false, false, false, false, false, false, false, false] rfl rfl (by kernel_rfl) (fun _ _ _ h => h) (Or.inl ⟨by rfl, ?_⟩) ?_ ?_
  rotate_left
  · intro w'
    go_simp
    with_reducible rfl
  rotate_left
  · simp only [Act.put, List.setIfInBounds_toArray, List.set_cons_zero, List.set_cons_succ, i64_w, i32_w]
    rfl
  refine pure_ (i := 9) (N := some 45) (v := ?_) (a' := ?_) #[true, true, true, true, true, true, true, true, true, true, false, false, false, false, false, false, false, false, false, false, false, false, false, false, false, false, false, false, false, false, false, false, false, false, false, false, false] rfl rfl (by kernel_rfl) (fun _ _ _ h => h) (Or.inl ⟨by rfl, ?_⟩) ?_ ?_
  rotate_left
  · intro w'
    go_simp
    with_reducible rfl
  rotate_left
  · simp only [Act.put, List.setIfInBounds_toArray, List.set_cons_zero, List.set_cons_succ, i64_w, i32_w]
    rfl
  refine pure_ (i := 10) (N := some 46) (v := ?_) (a' := ?_) #[true, true, true, true, true, true, true, true, true, true, true, false, false, false, false, false, false, false, false, false, false, false, false, false, false, false, false, false, false, false, false, false, false, false, false, false, false] rfl rfl (by kernel_rfl) (fun _ _ _ h => h) (Or.inl ⟨by rfl, ?_⟩) ?_ ?_
  rotate_left
  · intro w'
    go_simp
    with_reducible rfl
  rotate_left
  · simp only [Act.put, List.setIfInBounds_toArray, List.set_cons_zero, List.set_cons_succ, i64_w, i32_w]
    rfl
  refine pure_ (i := 11) (N := some 47) (v := ?_) (a' := ?_) #[true, true, true, true, true, true, true, true, true, true, true, true, false, false, false, false, false, false, false, false, false, false, false, false, false, false, false, false, false, false, false, false, false, false, false, false, false] rfl rfl (by kernel_rfl) (fun _ _ _ h => h) (Or.inl ⟨by rfl, ?_⟩) ?_ ?_
  rotate_left
  · intro w'
    go_simp
    with_reducible rfl
  rotate_left
  · simp only [Act.put, List.setIfInBounds_toArray, List.set_cons_zero, List.set_cons_succ, i64_w, i32_w]
    rfl
  refine pure_ (i := 12) (N := some 48) (v := ?_) (a' := ?_) #[true, true, true, true, true, true, true, true, true, true, true, true, true, false, false, false, false, false, false, false, false, false, false, false, false, false, false, false, false, false, false, false, false, false, false, false, false] rfl rfl (by kernel_rfl) (fun _ _ _ h => h) (Or.inl ⟨by rfl, ?_⟩) ?_ ?_
  rotate_left
  · intro w'
    go_simp
    with_reducible rfl
  rotate_left
  · simp only [Act.put, List.setIfInBounds_toArray, List.set_cons_zero, List.set_cons_succ, i64_w, i32_w]
    rfl
  refine pure_ (i := 13) (N := some 49) (v := ?_) (a' := ?_) #[true, true, true, true, true, true, true, true, true, true, true, true, true, true, false, false, false, false, false, false, false, false, false, false, false, false, false, false, false, false, false, false, false, false, false, false, false] rfl rfl (by kernel_rfl) (fun _ _ _ h => h) (Or.inl ⟨by rfl, ?_⟩) ?_ ?_
  rotate_left
  · intro w'
    go_simp
    with_reducible rfl
  rotate_left
  · simp only [Act.put, List.setIfInBounds_toArray, List.set_cons_zero, List.set_cons_succ, i64_w, i32_w]
    rfl
  refine pure_ (i := 14) (N := some 50) (v := ?_) (a' := ?_) #[true, true, true, true, true, true, true, true, true, true, true, true, true, true, true, false, false, false, false, false, false, false, false, false, false, false, false, false, false, false, false, false, false, false, false, false, false] rfl rfl (by kernel_rfl) (fun _ _ _ h => h) (Or.inl ⟨by rfl, ?_⟩) ?_ ?_
  rotate_left
  · intro w'
    go_simp
    with_reducible rfl
  rotate_left
  · simp only [Act.put, List.setIfInBounds_toArray, List.set_cons_zero, List.set_cons_succ, i64_w, i32_w]
    rfl
  refine pure_ (i := 15) (N := some 51) (v := ?_) (a' := ?_) #[true, true, true, true, true, true, true, true, true, true, true, true, true, true, true, true, false, false, false, false, false, false, false, false, false, false, false, false, false, false, false, false, false, false, false, false, false] rfl rfl (by kernel_rfl) (fun _ _ _ h => h) (Or.inl ⟨by rfl, ?_⟩) ?_ ?_
  rotate_left
  · intro w'
    go_simp
    with_reducible rfl
  rotate_left
  · simp only [Act.put, List.setIfInBounds_toArray, List.set_cons_zero, List.set_cons_succ, i64_w, i32_w]
    rfl
  refine pure_ (i := 16) (N := some 52) (v := ?_) (a' := ?_) #[true, true, true, true, true, true, true, true, true, true, true, true, true, true, true, true, true, false, false, false, false, false, false, false, false, false, false, false, false, false, false, false, false, false, false, false, false] rfl rfl (by kernel_rfl) (fun _ _ _ h => h) (Or.inl ⟨by rfl, ?_⟩) ?_ ?_
  rotate_left
  · intro w'
    go_simp
    with_reducible rfl
  rotate_left
  · simp only [Act.put, List.setIfInBounds_toArray, List.set_cons_zero, List.set_cons_succ, i64_w, i32_w]
    rfl
  refine pure_ (i := 17) (N := some 53) (v := ?_) (a' := ?_) #[true, true, true, true, true, true, true, true, true, true, true, true, true, true, true, true, true, true, false, false, false, false, false, false, false, false, false, false, false, false, false, false, false, false, false, false, false] rfl rfl (by kernel_rfl) (fun _ _ _ h => h) (Or.inl ⟨by rfl, ?_⟩) ?_ ?_
  rotate_left
  · intro w'
    go_simp
    with_reducible rfl
  rotate_left
  · simp only [Act.put, List.setIfInBounds_toArray, List.set_cons_zero, List.set_cons_succ, i64_w, i32_w]
    rfl
  refine pure_ (i := 18) (N := some 54) (v := ?_) (a' := ?_) #[true, true, true, true, true, true, true, true, true, true, true, true, true, true, true, true, true, true, true, false, false, false, false, false, false, false, false, false, false, false, false, false, false, false, false, false, false] rfl rfl (by kernel_rfl) (fun _ _ _ h => h) (Or.inl ⟨by rfl, ?_⟩) ?_ ?_
  rotate_left
  · intro w'
    go_simp
    with_reducible rfl
  rotate_left
  · simp only [Act.put, List.setIfInBounds_toArray, List.set_cons_zero, List.set_cons_succ, i64_w, i32_w]
    rfl
  refine pure_ (i := 19) (N := some 55) (v := ?_) (a' := ?_) #[true, true, true, true, true, true, true, true, true, true, true, true, true, true, true, true, true, true, true, true, false, false, false, false, false, false, false, false, false, false, false, false, false, false, false, false, false] rfl rfl (by kernel_rfl) (fun _ _ _ h => h) (Or.inl ⟨by rfl, ?_⟩) ?_ ?_
  rotate_left
  · intro w'
    go_simp
    with_reducible rfl
  rotate_left
  · simp only [Act.put, List.setIfInBounds_toArray, List.set_cons_zero, List.set_cons_succ, i64_w, i32_w]
    rfl
  refine pure_ (i := 20) (N := some 56) (v := ?_) (a' := ?_) #[true, true, true, true, true, true, true, true, true, true, true, true, true, true, true, true, true, true, true, true, true, false, false, false, false, false, false, false, false, false, false, false, false, false, false, false, false] rfl rfl (by kernel_rfl) (fun _ _ _ h => h) (Or.inl ⟨by rfl, ?_⟩) ?_ ?_
  rotate_left
  · intro w'
    go_simp
    with_reducible rfl
  rotate_left
  · simp only [Act.put, List.setIfInBounds_toArray, List.set_cons_zero, List.set_cons_succ, i64_w, i32_w]
    rfl
  refine pure_ (i := 21) (N := some 57) (v := ?_) (a' := ?_) #[true, true, true, true, true, true, true, true, true, true, true, true, true, true, true, true, true, true, true, true, true, true, false, false, false, false, false, false, false, false, false, false, false, false, false, false, false] rfl rfl (by kernel_rfl) (fun _ _ _ h => h) (Or.inl ⟨by rfl, ?_⟩) ?_ ?_
  rotate_left
  · intro w'
    go_simp
    with_reducible rfl
  rotate_left
  · simp only [Act.put, List.setIfInBounds_toArray, List.set_cons_zero, List.set_cons_succ, i64_w, i32_w]
    rfl
  refine pure_ (i := 22) (N := some 58) (v := ?_) (a' := ?_) #[true, true, true, true, true, true, true, true, true, true, true, true, true, true, true, true, true, true, true, true, true, true, true, false, false, false, false, false, false, false, false, false, false, false, false, false, false] rfl rfl (by kernel_rfl) (fun _ _ _ h => h) (Or.inl ⟨by rfl, ?_⟩) ?_ ?_
  rotate_left
  · intro w'
    go_simp
    with_reducible rfl
  rotate_left
  · simp only [Act.put, List.setIfInBounds_toArray, List.set_cons_zero, List.set_cons_succ, i64_w, i32_w]
    rfl
  refine pure_ (i := 23) (N := some 59) (v := ?_) (a' := ?_) #[true, true, true, true, true, true, true, true, true, true, true, true, true, true, true, true, true, true, true, true, true, true, true, true, false, false, false, false, false, false, false, false, false, false, false, false, false] rfl rfl (by kernel_rfl) (fun _ _ _ h => h) (Or.inl ⟨by rfl, ?_⟩) ?_ ?_
  rotate_left
  · intro w'
    go_simp
    with_reducible rfl
  rotate_left
  · simp only [Act.put, List.setIfInBounds_toArray, List.set_cons_zero, List.set_cons_succ, i64_w, i32_w]
    rfl
  refine pure_ (i := 24) (N := some 60) (v := ?_) (a' := ?_) #[true, true, true, true, true, true, true, true, true, true, true, true, true, true, true, true, true, true, true, true, true, true, true, true, true, false, false, false, false, false, false, false, false, false, false, false, false] rfl rfl (by kernel_rfl) (fun _ _ _ h => h) (Or.inl ⟨by rfl, ?_⟩) ?_ ?_
  rotate_left
  · intro w'
    go_simp
    with_reducible rfl
  rotate_left
  · simp only [Act.put, List.setIfInBounds_toArray, List.set_cons_zero, List.set_cons_succ, i64_w, i32_w]
    rfl
  refine pure_ (i := 25) (N := some 61) (v := ?_) (a' := ?_) #[true, true, true, true, true, true, true, true, true, true, true, true, true, true, true, true, true, true, true, true, true, true, true, true, true, true, false, false, false, false, false, false, false, false, false, false, false] rfl rfl (by kernel_rfl) (fun _ _ _ h => h) (Or.inl ⟨by rfl, ?_⟩) ?_ ?_
  rotate_left
  · intro w'
    go_simp
    with_reducible rfl
  rotate_left
  · simp only [Act.put, List.setIfInBounds_toArray, List.set_cons_zero, List.set_cons_succ, i64_w, i32_w]
    rfl
  refine pure_ (i := 26) (N := some 62) (v := ?_) (a' := ?_) #[true, true, true, true, true, true, true, true, true, true, true, true, true, true, true, true, true, true, true, true, true, true, true, true, true, true, true, false, false, false, false, false, false, false, false, false, false] rfl rfl (by kernel_rfl) (fun _ _ _ h => h) (Or.inl ⟨by rfl, ?_⟩) ?_ ?_
  rotate_left
  · intro w'
    go_simp
    with_reducible rfl
  rotate_left
  · simp only [Act.put, List.setIfInBounds_toArray, List.set_cons_zero, List.set_cons_succ, i64_w, i32_w]
    rfl
  refine pure_ (i := 27) (N := some 63) (v := ?_) (a' := ?_) #[true, true, true, true, true, true, true, true, true, true, true, true, true, true, true, true, true, true, true, true, true, true, true, true, true, true, true, true, false, false, false, false, false, false, false, false, false] rfl rfl (by kernel_rfl) (fun _ _ _ h => h) (Or.inl ⟨by rfl, ?_⟩) ?_ ?_
  rotate_left
  · intro w'
    go_simp
    with_reducible rfl
  rotate_left
  · simp only [Act.put, List.setIfInBounds_toArray, List.set_cons_zero, List.set_cons_succ, i64_w, i32_w]
    rfl
  refine pure_ (i := 28) (N := some 64) (v := ?_) (a' := ?_) #[true, true, true, true, true, true, true, true, true, true, true, true, true, true, true, true, true, true, true, true, true, true, true, true, true, true, true, true, true, false, false, false, false, false, false, false, false] rfl rfl (by kernel_rfl) (fun _ _ _ h => h) (Or.inl ⟨by rfl, ?_⟩) ?_ ?_
  rotate_left
  · intro w'
    go_simp
    with_reducible rfl
  rotate_left
  · simp only [Act.put, List.setIfInBounds_toArray, List.set_cons_zero, List.set_cons_succ, i64_w, i32_w]
    rfl
  refine pure_ (i := 29) (N := some 65) (v := ?_) (a' := ?_) #[true, true, true, true, true, true, true, true, true, true, true, true, true, true, true, true, true, true, true, true, true, true, true, true, true, true, true, true, true, true, false, false, false, false, false, false, false] rfl rfl (by kernel_rfl) (fun _ _ _ h => h) (Or.inl ⟨by rfl, ?_⟩) ?_ ?_
  rotate_left
  · intro w'
    go_simp
    with_reducible rfl
  rotate_left
  · simp only [Act.put, List.setIfInBounds_toArray, List.set_cons_zero, List.set_cons_succ, i64_w, i32_w]
    rfl
  refine pure_ (i := 30) (N := some 66) (v := ?_) (a' := ?_) #[true, true, true, true, true, true, true, true, true, true, true, true, true, true, true, true, true, true, true, true, true, true, true, true, true, true, true, true, true, true, true, false, false, false, false, false, false] rfl rfl (by kernel_rfl) (fun _ _ _ h => h) (Or.inl ⟨by rfl, ?_⟩) ?_ ?_
  rotate_left
  · intro w'
    go_simp
    with_reducible rfl
  rotate_left
  · simp only [Act.put, List.setIfInBounds_toArray, List.set_cons_zero, List.set_cons_succ, i64_w, i32_w]
    rfl
  refine pure_ (i := 31) (N := some 67) (v := ?_) (a' := ?_) #[true, true, true, true, true, true, true, true, true, true, true, true, true, true, true, true, true, true, true, true, true, true, true, true, true, true, true, true, true, true, true, true, false, false, false, false, false] rfl rfl (by kernel_rfl) (fun _ _ _ h => h) (Or.inl ⟨by rfl, ?_⟩) ?_ ?_
  rotate_left
  · intro w'
    go_simp
    with_reducible rfl
  rotate_left
  · simp only [Act.put, List.setIfInBounds_toArray, List.set_cons_zero, List.set_cons_succ, i64_w, i32_w]
    rfl
  refine pure_ (i := 32) (N := some 68) (v := ?_) (a' := ?_) #[true, true, true, true, true, true, true, true, true, true, true, true, true, true, true, true, true, true, true, true, true, true, true, true, true, true, true, true, true, true, true, true, true, false, false, false, false] rfl rfl (by kernel_rfl) (fun _ _ _ h => h) (Or.inl ⟨by rfl, ?_⟩) ?_ ?_
  rotate_left
  · intro w'
    go_simp
    with_reducible rfl
  rotate_left
  · simp only [Act.put, List.setIfInBounds_toArray, List.set_cons_zero, List.set_cons_succ, i64_w, i32_w]
    rfl
  refine pure_ (i := 33) (N := some 69) (v := ?_) (a' := ?_) #[true, true, true, true, true, true, true, true, true, true, true, true, true, true, true, true, true, true, true, true, true, true, true, true, true, true, true, true, true, true, true, true, true, true, false, false, false] rfl rfl (by kernel_rfl) (fun _ _ _ h => h) (Or.inl ⟨by rfl, ?_⟩) ?_ ?_
  rotate_left
  · intro w'
    go_simp
    with_reducible rfl
  rotate_left
  · simp only [Act.put, List.setIfInBounds_toArray, List.set_cons_zero, List.set_cons_succ, i64_w, i32_w]
    rfl
  refine pure_ (i := 34) (N := some 70) (v := ?_) (a' := ?_) #[true, true, true, true, true, true, true, true, true, true, true, true, true, true, true, true, true, true, true, true, true, true, true, true, true, true, true, true, true, true, true, true, true, true, true, false, false] rfl rfl (by kernel_rfl) (fun _ _ _ h => h) (Or.inl ⟨by rfl, ?_⟩) ?_ ?_
  rotate_left
  · intro w'
    go_simp
    with_reducible rfl
  rotate_left
  · simp only [Act.put, List.setIfInBounds_toArray, List.set_cons_zero, List.set_cons_succ, i64_w, i32_w]
    rfl
  refine one_ (i := 35) (N := some 71) #[true, true, true, true, true, true, true, true, true, true, true, true, true, true, true, true, true, true, true, true, true, true, true, true, true, true, true, true, true, true, true, true, true, true, true, true, false] rfl rfl (by kernel_rfl) (by decide) (fun K hK => ?_)
  refine value_ (w1 := ?_) (v := ?_) (by rfl) rfl ?_ ?_
  rotate_left 2
  · go_simp
    constructor
    · rfl
    · rfl
  refine hK.out _ _ (trivial) (fun hHeld => ?_)
  clear hK K
  refine norm_ (a' := ?_) ?_ ?_
  rotate_left
  · show Act.put _ (some 71) _ = _
    simp only [Act.put, List.setIfInBounds_toArray, List.set_cons_zero, List.set_cons_succ, i64_w, i32_w]
    rfl
  refine pure_ (i := 36) (N := some 12) (v := ?_) (a' := ?_) #[true, true, true, true, true, true, true, true, true, true, true, true, true, true, true, true, true, true, true, true, true, true, true, true, true, true, true, true, true, true, true, true, true, true, true, true, true] rfl rfl (by kernel_rfl) (fun _ _ _ h => h) (Or.inl ⟨by rfl, ?_⟩) ?_ ?_
  rotate_left
  · intro w'
    go_simp
    with_reducible rfl
  rotate_left
  · simp only [Act.put, List.setIfInBounds_toArray, List.set_cons_zero, List.set_cons_succ, i64_w, i32_w]
    rfl
  refine done_ (by kernel_rfl) ?_
  have HP0 := blk_new w2 (.cells [(Value.pointer (some ⟨g9, 2, none⟩)), (Value.pointer (some ⟨g9, 4, none⟩)), (Value.pointer (some ⟨g9, 7, none⟩)), (Value.pointer (some ⟨gR, q, none⟩)), (Value.pointer (some ⟨gR, q + 3, none⟩)), (Value.pointer (some ⟨gR, q + 6, none⟩)), (Value.pointer (some ⟨gR, q + 9, none⟩)), (Value.pointer (some ⟨gR, q + 12, none⟩)), (Value.pointer (some ⟨gR, q + 13, none⟩)), (Value.pointer (some ⟨gR, q + 16, none⟩)), (Value.pointer (some ⟨gR, q + 19, none⟩))].toArray 56 (0, 0))
  have B3 := (below_alloc (Below.refl w2.heap.size w2) (.cells [(Value.pointer (some ⟨g9, 2, none⟩)), (Value.pointer (some ⟨g9, 4, none⟩)), (Value.pointer (some ⟨g9, 7, none⟩)), (Value.pointer (some ⟨gR, q, none⟩)), (Value.pointer (some ⟨gR, q + 3, none⟩)), (Value.pointer (some ⟨gR, q + 6, none⟩)), (Value.pointer (some ⟨gR, q + 9, none⟩)), (Value.pointer (some ⟨gR, q + 12, none⟩)), (Value.pointer (some ⟨gR, q + 13, none⟩)), (Value.pointer (some ⟨gR, q + 16, none⟩)), (Value.pointer (some ⟨gR, q + 19, none⟩))].toArray 56 (0, 0))).drew
  have KP := Aside0.mk (show (w2.alloc (.cells [(Value.pointer (some ⟨g9, 2, none⟩)), (Value.pointer (some ⟨g9, 4, none⟩)), (Value.pointer (some ⟨g9, 7, none⟩)), (Value.pointer (some ⟨gR, q, none⟩)), (Value.pointer (some ⟨gR, q + 3, none⟩)), (Value.pointer (some ⟨gR, q + 6, none⟩)), (Value.pointer (some ⟨gR, q + 9, none⟩)), (Value.pointer (some ⟨gR, q + 12, none⟩)), (Value.pointer (some ⟨gR, q + 13, none⟩)), (Value.pointer (some ⟨gR, q + 16, none⟩)), (Value.pointer (some ⟨gR, q + 19, none⟩))].toArray 56 (0, 0))).drew.heap[w2.heap.size]? = some (.cells [(Value.pointer (some ⟨g9, 2, none⟩)), (Value.pointer (some ⟨g9, 4, none⟩)), (Value.pointer (some ⟨g9, 7, none⟩)), (Value.pointer (some ⟨gR, q, none⟩)), (Value.pointer (some ⟨gR, q + 3, none⟩)), (Value.pointer (some ⟨gR, q + 6, none⟩)), (Value.pointer (some ⟨gR, q + 9, none⟩)), (Value.pointer (some ⟨gR, q + 12, none⟩)), (Value.pointer (some ⟨gR, q + 13, none⟩)), (Value.pointer (some ⟨gR, q + 16, none⟩)), (Value.pointer (some ⟨gR, q + 19, none⟩))].toArray 56 (0, 0)) from HP0)
  have BS3 := Aside0.mk (BS2.out.step B3)
  clear HP0 B3 BS2
  generalize (w2.alloc (.cells [(Value.pointer (some ⟨g9, 2, none⟩)), (Value.pointer (some ⟨g9, 4, none⟩)), (Value.pointer (some ⟨g9, 7, none⟩)), (Value.pointer (some ⟨gR, q, none⟩)), (Value.pointer (some ⟨gR, q + 3, none⟩)), (Value.pointer (some ⟨gR, q + 6, none⟩)), (Value.pointer (some ⟨gR, q + 9, none⟩)), (Value.pointer (some ⟨gR, q + 12, none⟩)), (Value.pointer (some ⟨gR, q + 13, none⟩)), (Value.pointer (some ⟨gR, q + 16, none⟩)), (Value.pointer (some ⟨gR, q + 19, none⟩))].toArray 56 (0, 0))).drew = w3 at KP BS3 ⊢
  generalize w2.heap.size = gP at KP ⊢
  have x0 := blk_cell BS3.out.k 0
  have x1 := blk_cell BS3.out.k 1
  have x2 := blk_cell BS3.out.k 2
  have x3 := blk_cell BS3.out.k 3
  have x4 := blk_cell BS3.out.k 4
  simp [CF] at x0 x1 x2 x3 x4
  have y0 := blk_cell BS3.out.a 0
  have y1 := blk_cell BS3.out.a 1
  have y2 := blk_cell BS3.out.a 2
  have y3 := blk_cell BS3.out.a 3
  have y4 := blk_cell BS3.out.a 4
  have y5 := blk_cell BS3.out.a 5
  have y6 := blk_cell BS3.out.a 6
  have y7 := blk_cell BS3.out.a 7
  simp at y0 y1 y2 y3 y4 y5 y6 y7
  by_cases hw : which < 0 ∨ 11 ≤ which
  · by_cases hw1 : which < 0
    · have b1 : decide (which < 0) = true := decide_eq_true hw1
      clear hw hw1
      go_wp2_with (first | (go_at_call 10; go_loud ((refine (tillerlaw06_awake.calls 50 true _ AW.out).mono ?_); rintro e w4 ⟨rfl, hb⟩; have BS4 := Aside0.mk (BS3.out.step hb); clear hb x0 x1 x2 x3 x4 y0 y1 y2 y3 y4 y5 y6 y7; have x0 := blk_cell BS4.out.k 0; have x1 := blk_cell BS4.out.k 1; have x2 := blk_cell BS4.out.k 2; have x3 := blk_cell BS4.out.k 3; have x4 := blk_cell BS4.out.k 4; simp [CF] at x0 x1 x2 x3 x4; have y0 := blk_cell BS4.out.a 0; have y1 := blk_cell BS4.out.a 1; have y2 := blk_cell BS4.out.a 2; have y3 := blk_cell BS4.out.a 3; have y4 := blk_cell BS4.out.a 4; have y5 := blk_cell BS4.out.a 5; have y6 := blk_cell BS4.out.a 6; have y7 := blk_cell BS4.out.a 7; simp at y0 y1 y2 y3 y4 y5 y6 y7)) | (go_at_call 20; go_loud ((refine (chk_calls BS4.out HC.out H4.out.2).mono ?_); rintro e w5 ⟨rfl, hb⟩; have HE := Aside0.mk (BS4.out.step hb).bel; clear hb)))
      go_ret
      exact ⟨rfl, HE.out⟩
    · have b1 : decide (which < 0) = false := decide_eq_false hw1
      have b2 : decide (11 ≤ which) = true := decide_eq_true (by omega)
      clear hw hw1
      go_wp2_with (first | (go_at_call 10; go_loud ((refine (tillerlaw06_awake.calls 50 true _ AW.out).mono ?_); rintro e w4 ⟨rfl, hb⟩; have BS4 := Aside0.mk (BS3.out.step hb); clear hb x0 x1 x2 x3 x4 y0 y1 y2 y3 y4 y5 y6 y7; have x0 := blk_cell BS4.out.k 0; have x1 := blk_cell BS4.out.k 1; have x2 := blk_cell BS4.out.k 2; have x3 := blk_cell BS4.out.k 3; have x4 := blk_cell BS4.out.k 4; simp [CF] at x0 x1 x2 x3 x4; have y0 := blk_cell BS4.out.a 0; have y1 := blk_cell BS4.out.a 1; have y2 := blk_cell BS4.out.a 2; have y3 := blk_cell BS4.out.a 3; have y4 := blk_cell BS4.out.a 4; have y5 := blk_cell BS4.out.a 5; have y6 := blk_cell BS4.out.a 6; have y7 := blk_cell BS4.out.a 7; simp at y0 y1 y2 y3 y4 y5 y6 y7)) | (go_at_call 20; go_loud ((refine (chk_calls BS4.out HC.out H4.out.2).mono ?_); rintro e w5 ⟨rfl, hb⟩; have HE := Aside0.mk (BS4.out.step hb).bel; clear hb)))
      go_ret
      exact ⟨rfl, HE.out⟩
  · have b1 : decide (which < 0) = false := decide_eq_false (by omega)
    have b2 : decide (11 ≤ which) = false := decide_eq_false (by omega)
    have HW := Aside0.mk (show 0 ≤ which ∧ which < 11 by omega)
    clear hw
    go_upto_region 10 with (go_at_call 20; go_loud ((refine (chk_calls BS3.out HC.out H4.out.2).mono ?_); rintro e w4 ⟨rfl, hb⟩; have BS4 := Aside0.mk (BS3.out.step hb); have KP4 := Aside0.mk (blk_below KP.out hb); clear hb x0 x1 x2 x3 x4 y0 y1 y2 y3 y4 y5 y6 y7))
    go_cut [13] (fun s13 wx => ∃ gp op : Nat, s13 = .pointer (some ⟨gp, op, none⟩) ∧ Aside0 (Good w wx g9 gp op r c hs a3 a4) ∧ Aside0 (Bs w wx g9 r c hs a3 a4 A2 c2 l2 gR c3 l3 A4 c4 l4 A7 c7 l7))
    case first =>
      have hw := HW.out
      have hc : which = 0 ∨ which = 1 ∨ which = 2 ∨ which = 3 ∨ which = 4 ∨ which = 5 ∨ which = 6 ∨ which = 7 ∨ which = 8 ∨ which = 9 ∨ which = 10 := by omega
      clear hw b1 b2 HW
      rcases hc with rfl | rfl | rfl | rfl | rfl | rfl | rfl | rfl | rfl | rfl | rfl
      · have hk := blk_cell KP4.out 0
        simp at hk
        go_wp2_with fail
        go_meet
        exact ⟨g9, 2, rfl, ⟨good_box2 BS4.out HC.out H4.out.2⟩, BS4⟩
      · have hk := blk_cell KP4.out 1
        simp at hk
        go_wp2_with fail
        go_meet
        exact ⟨g9, 4, rfl, ⟨good_box4 BS4.out HC.out H4.out.2⟩, BS4⟩
      · have hk := blk_cell KP4.out 2
        simp at hk
        go_wp2_with fail
        go_meet
        exact ⟨g9, 7, rfl, ⟨good_box7 BS4.out HC.out H4.out.2⟩, BS4⟩
      · have hk := blk_cell KP4.out 3
        simp at hk
        go_wp2_with fail
        go_meet
        exact ⟨gR, q, rfl, ⟨(by have h := good_blk0 BS4.out HC.out H4.out.1 H4.out.2; rwa [HQ.out] at h)⟩, BS4⟩
      · have hk := blk_cell KP4.out 4
        simp at hk
        go_wp2_with fail
        go_meet
        exact ⟨gR, q + 3, rfl, ⟨(by have h := good_blk1 BS4.out HC.out H4.out.1 H4.out.2; rwa [HQ.out] at h)⟩, BS4⟩
      · have hk := blk_cell KP4.out 5
        simp at hk
        go_wp2_with fail
        go_meet
        exact ⟨gR, q + 6, rfl, ⟨(by have h := good_blk2 BS4.out HC.out H4.out.1 H4.out.2; rwa [HQ.out] at h)⟩, BS4⟩
      · have hk := blk_cell KP4.out 6
        simp at hk
        go_wp2_with fail
        go_meet
        exact ⟨gR, q + 9, rfl, ⟨(by have h := good_blk3 BS4.out HC.out H4.out.1 H4.out.2; rwa [HQ.out] at h)⟩, BS4⟩
      · have hk := blk_cell KP4.out 7
        simp at hk
        go_wp2_with fail
        go_meet
        exact ⟨gR, q + 12, rfl, ⟨(by have h := good_blk4 BS4.out HC.out H4.out.1 H4.out.2; rwa [HQ.out] at h)⟩, BS4⟩
      · have hk := blk_cell KP4.out 8
        simp at hk
        go_wp2_with fail
        go_meet
        exact ⟨gR, q + 13, rfl, ⟨(by have h := good_blk5 BS4.out HC.out H4.out.1 H4.out.2; rwa [HQ.out] at h)⟩, BS4⟩
      · have hk := blk_cell KP4.out 9
        simp at hk
        go_wp2_with fail
        go_meet
        exact ⟨gR, q + 16, rfl, ⟨(by have h := good_blk6 BS4.out HC.out H4.out.1 H4.out.2; rwa [HQ.out] at h)⟩, BS4⟩
      · have hk := blk_cell KP4.out 10
        simp at hk
        go_wp2_with fail
        go_meet
        exact ⟨gR, q + 19, rfl, ⟨(by have h := good_blk7 BS4.out HC.out H4.out.1 H4.out.2; rwa [HQ.out] at h)⟩, BS4⟩
    case rest =>
      clear BS3 BS4 KP KP4 HW
      obtain ⟨gp, op, rfl, HG, BS⟩ := hcut
      obtain ⟨A, l, cc, hcell, hfr, hlc, h1, h1k, hF, haft⟩ := HG.out.out
      have HF := Aside0.mk (And.intro hF (And.intro h1 (And.intro h1k hlc)))
      have HA := Aside0.mk haft
      have HX := Aside0.mk (And.intro hcell hfr)
      have LT := Aside0.mk HG.out.lt
      clear hF haft h1 h1k hlc HG
      cases more with
      | true =>
        obtain ⟨l', hl'⟩ : ∃ l', l ++ [(5 : Int)] = l' := ⟨_, rfl⟩
        have HL' := Aside0.mk hl'
        have HN' := Aside0.mk (show l'.length ≠ l.length by rw [← hl', List.length_append, List.length_singleton]; omega)
        have z1 := ((below_alloc (Below.refl wc.heap.size wc) (.cells #[] 35)).cell (p := ⟨gp, op, none⟩) LT.out).trans hcell
        clear hl'
        go_upto_region 14 with (first
          | ((with_reducible refine gate_builtin (b := .append) (xs := #[.tmp 103, .tmp 104]) rfl ?_); go_loud ((refine Kd.R_append kI (w0 := wc) wc.heap.size rfl (.tmp 103) (.tmp 104) 25 35 (.int .i32 0) 4 rfl Try.underlying25 info35 rfl (by decide) (by omega) (.slice A9 l.length c9) l 5 [.int .i32 5] (fun _ => True) (fun _ => False) rfl (by first | rfl | simp [Act.eval]) rfl (fun _ h => h.elim) (fun _ _ => trivial) R9.out B9.out B9.out.size (by have := HF.out.2.2.1; omega) ?_); intro v10 w10 hN hB hg2 hat; rw [HL'.out] at hN; obtain ⟨A10, c10, rfl⟩ := Kd.R_slice hN; have R10 := Aside0.mk hN; have B10 := Aside0.mk hB; have z3 := (hB.cell (p := ⟨gp, op, none⟩) LT.out).trans HX.out.1; have z4 := (hB.frozen (p := ⟨gp, op, none⟩) LT.out).trans HX.out.2; clear hN hB hg2 hat))
          | ((with_reducible refine gate_builtin (b := .append) (xs := #[.tmp 99, .tmp 102]) rfl ?_); go_loud ((refine Kd.R_append_rows kI (w0 := wc) wc.heap.size rfl (.tmp 99) (.tmp 102) 25 35 (.int .i32 0) 4 rfl Try.underlying25 info35 rfl (by decide) (by omega) (.slice (some ⟨wc.heap.size, 0, none⟩) 0 0) [] l A l.length cc (fun _ => True) (fun _ => False) rfl rfl (R_new wc) (Kd.C_below (Kd.F_now HF.out.1) (below_alloc (Below.refl _ _) _)) (fun _ _ h => h) (fun _ h => h.elim) (fun _ _ => trivial) (below_alloc (Below.refl _ _) _) (below_alloc (Below.refl _ _) _).size (by have := HF.out.2.2.1; simp; omega) ?_); intro v9 w9 hN hB hg2 hat; rw [List.nil_append] at hN; obtain ⟨A9, c9, rfl⟩ := Kd.R_slice hN; have R9 := Aside0.mk hN; have B9 := Aside0.mk hB; clear hN hB hg2 hat)))
        have AF := Aside0.mk (HA.out w10 B10.out A10 c10 l' HN'.out (Kd.R_reads' R10.out).2.1 (Kd.F_mono (Kd.R_F (Kd.R_bound R10.out)) (fun k hk => by have h1 := hk.2.1; have h2 := LT.out; omega)))
        generalize w10.setCell ⟨gp, op, none⟩ (.slice A10 l'.length c10) = W14 at AF ⊢
        clear z1 z3 z4 hcell hfr
        obtain ⟨⟨U2, e2, m2, U3, e3, m3, U4, e4, m4, U7, e7, m7, hk, ha, t2, t3, t4, t7, hm, hchk⟩, hbel⟩ := AF.out
        have TT := Aside0.mk (And.intro t2 (And.intro t3 (And.intro t4 t7)))
        have HK := Aside0.mk (And.intro hk ha)
        have HM := Aside0.mk hm
        have HCK := Aside0.mk hchk
        have HBL := Aside0.mk hbel
        have x0 := blk_cell hk 0
        have x1 := blk_cell hk 1
        have x2 := blk_cell hk 2
        have x3 := blk_cell hk 3
        have x4 := blk_cell hk 4
        simp [CF] at x0 x1 x2 x3 x4
        have y0 := blk_cell ha 0
        have y1 := blk_cell ha 1
        have y2 := blk_cell ha 2
        have y3 := blk_cell ha 3
        have y4 := blk_cell ha 4
        have y5 := blk_cell ha 5
        have y6 := blk_cell ha 6
        have y7 := blk_cell ha 7
        simp at y0 y1 y2 y3 y4 y5 y6 y7
        clear t2 t3 t4 t7 hk ha hm hchk hbel AF
        go_wp2_with (first
          | (go_at_call 10; go_loud ((refine (tillerlaw06_awake.calls 50 true _ AW.out).mono ?_); rintro e w15 ⟨rfl, hb⟩; have B15 := Aside0.mk hb; clear x0 x1 x2 x3 x4 y0 y1 y2 y3 y4 y5 y6 y7; have hk := blk_below HK.out.1 hb; have ha := blk_below HK.out.2 hb; have x0 := blk_cell hk 0; have x1 := blk_cell hk 1; have x2 := blk_cell hk 2; have x3 := blk_cell hk 3; have x4 := blk_cell hk 4; simp [CF] at x0 x1 x2 x3 x4; have y0 := blk_cell ha 0; have y1 := blk_cell ha 1; have y2 := blk_cell ha 2; have y3 := blk_cell ha 3; have y4 := blk_cell ha 4; have y5 := blk_cell ha 5; have y6 := blk_cell ha 6; have y7 := blk_cell ha 7; simp at y0 y1 y2 y3 y4 y5 y6 y7; clear hk ha hb))
          | (go_at_call 20; go_loud ((refine (check_calls r c hs a3 a4 r c m2 m3 m4 r c m7 U2 e2 U3 e3 U4 e4 U7 e7 w15 ⟨Kd.C_below TT.out.1.1 B15.out, TT.out.1.2⟩ ⟨Kd.C_below TT.out.2.1.1 B15.out, TT.out.2.1.2⟩ ⟨Kd.C_below TT.out.2.2.1.1 B15.out, TT.out.2.2.1.2⟩ ⟨Kd.C_below TT.out.2.2.2.1 B15.out, TT.out.2.2.2.2⟩ HM.out).mono ?_); rintro e w16 ⟨rfl, hb⟩; rw [HCK.out]; have HE := Aside0.mk (HBL.out.trans ((B15.out.trans (hb.mono B15.out.size)).mono HBL.out.size)); clear hb)))
        go_ret
        exact ⟨rfl, HE.out⟩
      | false =>
        obtain ⟨L, hL⟩ : ∃ L, l.length = L := ⟨_, rfl⟩
        have z1 := hcell
        rw [hL] at z1
        have hL1 : 1 ≤ L := by have := HF.out.2.1; omega
        have hLc : L ≤ cc := by have := HF.out.2.2.2; omega
        have hlo := hcell
        have HFC := Kd.F_now HF.out.1
        obtain ⟨ad, hA⟩ : ∃ ad, A = some ad := by
          obtain ⟨ad, _, e, _⟩ := Kd.C_get HFC 0 0 (by omega) (by have := HF.out.2.1; omega)
          exact ⟨ad, e⟩
        subst hA
        have HD := Aside0.mk (show (l.drop 1).length = L - 1 by rw [List.length_drop, hL])
        have HDN := Aside0.mk (show (l.drop 1).length ≠ l.length by rw [List.length_drop]; omega)
        have HFD := Kd.F_imp (d' := kI) HF.out.1 (fun W' h => Kd.C_drop (c := cc) (m := 1) h HF.out.2.1 HF.out.2.2.2)
        by_cases h1c : cc = 1
        · rw [if_pos h1c] at HFD
          have AF := Aside0.mk (HA.out wc (Below.refl _ _) (some ad) 0 (l.drop 1) HDN.out (by rw [HD.out]; omega) HFD)
          rw [HD.out] at AF
          clear HFD HFC HA HF hL hlo hcell
          go_upto_region 14 with (fail)
          generalize wc.setCell ⟨gp, op, none⟩ (.slice (some ad) (L - 1) 0) = W14 at AF ⊢
          clear z1 hfr h1c hL1 hLc
          obtain ⟨⟨U2, e2, m2, U3, e3, m3, U4, e4, m4, U7, e7, m7, hk, ha, t2, t3, t4, t7, hm, hchk⟩, hbel⟩ := AF.out
          have TT := Aside0.mk (And.intro t2 (And.intro t3 (And.intro t4 t7)))
          have HK := Aside0.mk (And.intro hk ha)
          have HM := Aside0.mk hm
          have HCK := Aside0.mk hchk
          have HBL := Aside0.mk hbel
          have x0 := blk_cell hk 0
          have x1 := blk_cell hk 1
          have x2 := blk_cell hk 2
          have x3 := blk_cell hk 3
          have x4 := blk_cell hk 4
          simp [CF] at x0 x1 x2 x3 x4
          have y0 := blk_cell ha 0
          have y1 := blk_cell ha 1
          have y2 := blk_cell ha 2
          have y3 := blk_cell ha 3
          have y4 := blk_cell ha 4
          have y5 := blk_cell ha 5
          have y6 := blk_cell ha 6
          have y7 := blk_cell ha 7
          simp at y0 y1 y2 y3 y4 y5 y6 y7
          clear t2 t3 t4 t7 hk ha hm hchk hbel AF
          go_wp2_with (first
            | (go_at_call 10; go_loud ((refine (tillerlaw06_awake.calls 50 true _ AW.out).mono ?_); rintro e w15 ⟨rfl, hb⟩; have B15 := Aside0.mk hb; clear x0 x1 x2 x3 x4 y0 y1 y2 y3 y4 y5 y6 y7; have hk := blk_below HK.out.1 hb; have ha := blk_below HK.out.2 hb; have x0 := blk_cell hk 0; have x1 := blk_cell hk 1; have x2 := blk_cell hk 2; have x3 := blk_cell hk 3; have x4 := blk_cell hk 4; simp [CF] at x0 x1 x2 x3 x4; have y0 := blk_cell ha 0; have y1 := blk_cell ha 1; have y2 := blk_cell ha 2; have y3 := blk_cell ha 3; have y4 := blk_cell ha 4; have y5 := blk_cell ha 5; have y6 := blk_cell ha 6; have y7 := blk_cell ha 7; simp at y0 y1 y2 y3 y4 y5 y6 y7; clear hk ha hb))
            | (go_at_call 20; go_loud ((refine (check_calls r c hs a3 a4 r c m2 m3 m4 r c m7 U2 e2 U3 e3 U4 e4 U7 e7 w15 ⟨Kd.C_below TT.out.1.1 B15.out, TT.out.1.2⟩ ⟨Kd.C_below TT.out.2.1.1 B15.out, TT.out.2.1.2⟩ ⟨Kd.C_below TT.out.2.2.1.1 B15.out, TT.out.2.2.1.2⟩ ⟨Kd.C_below TT.out.2.2.2.1 B15.out, TT.out.2.2.2.2⟩ HM.out).mono ?_); rintro e w16 ⟨rfl, hb⟩; rw [HCK.out]; have HE := Aside0.mk (HBL.out.trans ((B15.out.trans (hb.mono B15.out.size)).mono HBL.out.size)); clear hb)))
          go_ret
          exact ⟨rfl, HE.out⟩
        · rw [if_neg h1c] at HFD
          have AF := Aside0.mk (HA.out wc (Below.refl _ _) (some (ad.add 1)) (cc - 1) (l.drop 1) HDN.out (by rw [HD.out]; omega) HFD)
          have hE : ad.add 1 = ⟨ad.block, ad.off + 1, none⟩ := by simp [Addr.add]
          rw [HD.out, hE] at AF
          clear hE
          clear HFD HFC HA HF hL hlo hcell
          go_upto_region 14 with (fail)
          generalize wc.setCell ⟨gp, op, none⟩ (.slice (some ⟨ad.block, ad.off + 1, none⟩) (L - 1) (cc - 1)) = W14 at AF ⊢
          clear z1 hfr h1c hL1 hLc
          obtain ⟨⟨U2, e2, m2, U3, e3, m3, U4, e4, m4, U7, e7, m7, hk, ha, t2, t3, t4, t7, hm, hchk⟩, hbel⟩ := AF.out
          have TT := Aside0.mk (And.intro t2 (And.intro t3 (And.intro t4 t7)))
          have HK := Aside0.mk (And.intro hk ha)
          have HM := Aside0.mk hm
          have HCK := Aside0.mk hchk
          have HBL := Aside0.mk hbel
          have x0 := blk_cell hk 0
          have x1 := blk_cell hk 1
          have x2 := blk_cell hk 2
          have x3 := blk_cell hk 3
          have x4 := blk_cell hk 4
          simp [CF] at x0 x1 x2 x3 x4
          have y0 := blk_cell ha 0
          have y1 := blk_cell ha 1
          have y2 := blk_cell ha 2
          have y3 := blk_cell ha 3
          have y4 := blk_cell ha 4
          have y5 := blk_cell ha 5
          have y6 := blk_cell ha 6
          have y7 := blk_cell ha 7
          simp at y0 y1 y2 y3 y4 y5 y6 y7
          clear t2 t3 t4 t7 hk ha hm hchk hbel AF
          go_wp2_with (first
            | (go_at_call 10; go_loud ((refine (tillerlaw06_awake.calls 50 true _ AW.out).mono ?_); rintro e w15 ⟨rfl, hb⟩; have B15 := Aside0.mk hb; clear x0 x1 x2 x3 x4 y0 y1 y2 y3 y4 y5 y6 y7; have hk := blk_below HK.out.1 hb; have ha := blk_below HK.out.2 hb; have x0 := blk_cell hk 0; have x1 := blk_cell hk 1; have x2 := blk_cell hk 2; have x3 := blk_cell hk 3; have x4 := blk_cell hk 4; simp [CF] at x0 x1 x2 x3 x4; have y0 := blk_cell ha 0; have y1 := blk_cell ha 1; have y2 := blk_cell ha 2; have y3 := blk_cell ha 3; have y4 := blk_cell ha 4; have y5 := blk_cell ha 5; have y6 := blk_cell ha 6; have y7 := blk_cell ha 7; simp at y0 y1 y2 y3 y4 y5 y6 y7; clear hk ha hb))
            | (go_at_call 20; go_loud ((refine (check_calls r c hs a3 a4 r c m2 m3 m4 r c m7 U2 e2 U3 e3 U4 e4 U7 e7 w15 ⟨Kd.C_below TT.out.1.1 B15.out, TT.out.1.2⟩ ⟨Kd.C_below TT.out.2.1.1 B15.out, TT.out.2.1.2⟩ ⟨Kd.C_below TT.out.2.2.1.1 B15.out, TT.out.2.2.1.2⟩ ⟨Kd.C_below TT.out.2.2.2.1 B15.out, TT.out.2.2.2.2⟩ HM.out).mono ?_); rintro e w16 ⟨rfl, hb⟩; rw [HCK.out]; have HE := Aside0.mk (HBL.out.trans ((B15.out.trans (hb.mono B15.out.size)).mono HBL.out.size)); clear hb)))
          go_ret
          exact ⟨rfl, HE.out⟩
set_option maxHeartbeats 8000000 in
set_option maxRecDepth 100000 in
theorem wants_bad (a0 a1 a2 a3 a4 sd er which : Int) (more : Bool) (w : World) (hm : model_Make.f 5000 a0 a1 a2 a3 a4 sd = some (0, 0, [], [], [], 0, 0, [], er)) (he : er ≠ 0) :
    Calls Try.prog 7 #[.agg (CF a0 a1 a2 a3 a4), .int .u64 sd, .int .i64 which, .bool more] w fun e w' => e = .returned (.bool true) ∧ Below w.heap.size w w' := by
  have HM := Aside0.mk hm
  have d1 : (er != 0) = true := bne_iff_ne.mpr he
  have AW := Aside0.mk awake_true
  have BW := Aside0.mk (((Below.refl w.heap.size w).alloc (Nat.le_refl _) (.cells (CF a0 a1 a2 a3 a4) 23 (0, 0))))
  have KC := Aside0.mk (blk_new w (.cells (CF a0 a1 a2 a3 a4) 23 (0, 0)))
  clear hm he
  go_enter Try.func7, Try.ntmps7
  have x0 := blk_cell KC.out 0
  have x1 := blk_cell KC.out 1
  have x2 := blk_cell KC.out 2
  have x3 := blk_cell KC.out 3
  have x4 := blk_cell KC.out 4
  simp [CF] at x0 x1 x2 x3 x4
  go_wp2_with (first
    | (go_at_call 9; go_loud ((refine (model_Make.calls 5000 a0 a1 a2 a3 a4 sd 0 0 [] [] [] 0 0 [] er _ HM.out).mono ?_); rintro e w1 ⟨v2, v3, v4, v7, rfl, hr2, hs3, hr4, hr7, hb⟩; obtain ⟨A2, c2, rfl, e2, h2⟩ := Kd.R_reads hr2; obtain ⟨A3, c3, rfl, e3, h3⟩ := Kd.S_reads hs3; obtain ⟨A4, c4, rfl, e4, h4⟩ := Kd.R_reads hr4; obtain ⟨A7, c7, rfl, e7, h7⟩ := Kd.R_reads hr7; have BW1 := Aside0.mk (BW.out.trans (hb.mono BW.out.size)); clear hr2 hs3 hr4 hr7 e2 h2 e3 h3 e4 h4 e7 h7 hb))
    | ((with_reducible refine gate_store (t := 30) (p := 9) rfl ?_); go_loud ((refine store_new_event #[.int .i64 0, .int .i64 0, .slice A2 0 c2, .slice A3 0 c3, .slice A4 0 c4, .int .i64 0, .int .i64 0, .slice A7 0 c7] rfl rfl rfl rfl rfl (by kernel_rfl) rfl (by simp [Value.oneCell']) ?_); have B2 := Aside0.mk (below_alloc (Below.refl w1.heap.size w1) (.cells #[.int .i64 0, .int .i64 0, .slice A2 0 c2, .slice A3 0 c3, .slice A4 0 c4, .int .i64 0, .int .i64 0, .slice A7 0 c7] 30 (0, 0))); generalize w1.alloc (.cells #[.int .i64 0, .int .i64 0, .slice A2 0 c2, .slice A3 0 c3, .slice A4 0 c4, .int .i64 0, .int .i64 0, .slice A7 0 c7] 30 (0, 0)) = w2 at B2 ⊢; have BW2 := Aside0.mk (BW1.out.trans (B2.out.mono BW1.out.size)); clear x0 x1 x2 x3 x4))
    | (go_at_call 10; go_loud ((refine (tillerlaw06_awake.calls 50 true _ AW.out).mono ?_); rintro e w4 ⟨rfl, hb⟩; have HE := Aside0.mk (BW2.out.trans (hb.mono BW2.out.size)); clear hb)))
  go_ret
  exact ⟨rfl, HE.out⟩
def tillerlaw06_ModelWants.f (a0 a1 a2 a3 a4 sd which : Int) (more : Bool) : Option Bool := if 0 ≤ sd ∧ sd < 18446744073709551616 then some true else none
theorem tillerlaw06_ModelWants.calls (v d hs hid ly sd which : Int) (more : Bool) (r : Bool) (w : World) (hr_ : Aside0 (r = true)) (h : tillerlaw06_ModelWants.f v d hs hid ly sd which more = some r) :
    Calls Try.prog 7 #[.agg #[.int .i64 v, .int .i64 d, .int .i64 hs, .int .i64 hid, .int .i64 ly], .int .u64 sd, .int .i64 which, .bool more] w fun e w' => e = .returned (.bool r) ∧ Below w.heap.size w w' := by
  have hr := hr_.out
  subst hr
  unfold tillerlaw06_ModelWants.f at h
  split at h
  · rename_i hb
    by_cases c1 : shp v d hs hid ly = 0
    · obtain ⟨⟨v0, v1⟩, ⟨d0, d1⟩, _, ⟨i0, i1⟩, ⟨l0, l1⟩⟩ := shp_ok c1
      obtain ⟨v, rfl⟩ : ∃ n : Nat, v = (n : Int) := ⟨v.toNat, (Int.toNat_of_nonneg (by omega)).symm⟩
      obtain ⟨d, rfl⟩ : ∃ n : Nat, d = (n : Int) := ⟨d.toNat, (Int.toNat_of_nonneg (by omega)).symm⟩
      obtain ⟨hid, rfl⟩ : ∃ n : Nat, hid = (n : Int) := ⟨hid.toNat, (Int.toNat_of_nonneg (by omega)).symm⟩
      obtain ⟨ly, rfl⟩ : ∃ n : Nat, ly = (n : Int) := ⟨ly.toNat, (Int.toNat_of_nonneg (by omega)).symm⟩
      have hm := make_ok 5000 v d hid ly hs sd (Nat.le_refl _) c1
      have hck := chk_made v d hid ly hs sd (stI sd (v * d)) (blksSt d hid ly (stI sd (v * d))) (stI (blksSt d hid ly (stI sd (v * d))) d) c1
      have e3 := blksLen d hid ly (stI sd (v * d))
      exact wants_ok (v : Int) (d : Int) hs (hid : Int) (ly : Int) sd which more _ _ _ _ w hm hck (by rw [e3]) (by rw [e3]; omega) (by rw [e3]; omega)
    · exact wants_bad v d hs hid ly sd (shp v d hs hid ly) which more w (make_bad 4998 v d hs hid ly sd c1) c1
  · cases h
end Go.Proofs.Ytdlhodbokkaghaa.OWants
