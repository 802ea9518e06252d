/- (*Router).Submit, walked by hand. Written by this session's program rsubmit.py. -/
import Derived.Test.YthihgiaflbaigaaGQx2
import Derived.Test.YthihgiaflbaigaaORGrow
set_option linter.unusedVariables false
set_option linter.unusedSimpArgs false
namespace Go.Proofs.Ythihgiaflbaigaa.ORouter
open Go.RowKit Go.Proofs.YthihgiaflbaigaaW.PrintWords Go.Proofs.YthihgiaflbaigaaW.PrintLast Go.Proofs.YthihgiaflbaigaaW.PrintMore Go.Proofs.Ythihgiaflbaigaa.GQ Go.Proofs.Ythihgiaflbaigaa.OMap Go.Proofs.Ythihgiaflbaigaa.UTrie Go.Proofs.Ythihgiaflbaigaa.OTrie
/-- What Submit does: the router then, the order's request and nodes, the error. -/
def submitR (S : RX) (ea now : Int) (l : List Int) (most : Int) : RX × Int × Int × Int × Int :=
  if now < 0 ∨ 1099511627776 < now then (S, 0, 0, 0, 1)
  else if ea ≠ 0 then (S, 0, 0, 0, ea)
  else if S.p.f2 ≤ (opn S.es : Int) then (S, 0, 0, 0, 10)
  else if 1048576 ≤ S.es.length then (S, 0, 0, 0, 2)
  else if (placeR S l true).2.2.2 = false then ((placeR S l true).1, 0, 0, 0, 17)
  else ({ (placeR S l true).1 with es := (placeR S l true).1.es ++ [⟨0, (placeR S l true).2.1, (placeR S l true).2.2.1, l, most, now, 0, []⟩] }, S.es.length, (placeR S l true).2.1, (placeR S l true).2.2.1, 0)
/-- A box of four cells beside the router is written. -/
theorem put4 {w W : World} {g lo B : Nat} {S : RX} {L0 L : Lo} {u0 u1 u2 u3 : Value} (r : RT W g lo S L) (p : RPost lo w W L0 L) (hB : w.heap.size ≤ B) (hl : lo ≤ w.heap.size) (nm : ¬ mine L B) (ni : ¬ L.I B) (e : W.heap[B]? = some (.cells #[u0, u1, u2, u3] 34 (0, 0))) (v0 v1 v2 v3 : Value) :
    RT ((((W.setCell ⟨B, 0, none⟩ v0).setCell ⟨B, 1, none⟩ v1).setCell ⟨B, 2, none⟩ v2).setCell ⟨B, 3, none⟩ v3) g lo S L ∧ RPost lo w ((((W.setCell ⟨B, 0, none⟩ v0).setCell ⟨B, 1, none⟩ v1).setCell ⟨B, 2, none⟩ v2).setCell ⟨B, 3, none⟩ v3) L0 L ∧ ((((W.setCell ⟨B, 0, none⟩ v0).setCell ⟨B, 1, none⟩ v1).setCell ⟨B, 2, none⟩ v2).setCell ⟨B, 3, none⟩ v3).heap[B]? = some (.cells #[v0, v1, v2, v3] 34 (0, 0)) := by
  have hb := blk_set (blk_set (blk_set (blk_set e 0 v0) 1 v1) 2 v2) 3 v3
  refine ⟨(((r.far ⟨B, 0, none⟩ nm ni v0).far ⟨B, 1, none⟩ nm ni v1).far ⟨B, 2, none⟩ nm ni v2).far ⟨B, 3, none⟩ nm ni v3, ⟨(((p.kept.setCell (p := ⟨B, 0, none⟩) (.inr hB) v0).setCell (p := ⟨B, 1, none⟩) (.inr hB) v1).setCell (p := ⟨B, 2, none⟩) (.inr hB) v2).setCell (p := ⟨B, 3, none⟩) (.inr hB) v3, p.mine, p.inn, (((p.below.setCell (p := ⟨B, 0, none⟩) (Nat.le_trans hl hB) v0).setCell (p := ⟨B, 1, none⟩) (Nat.le_trans hl hB) v1).setCell (p := ⟨B, 2, none⟩) (Nat.le_trans hl hB) v2).setCell (p := ⟨B, 3, none⟩) (Nat.le_trans hl hB) v3⟩, by simpa using hb⟩
theorem blkg {Wa w1 : World} {g lo : Nat} {S : RX} {L : Lo} (h : RT Wa g lo S L) (hg : Wa.grownBy w1 (Value.slice L.AE L.ms.length L.cE).ownBlock) {k : Nat} (hk : k < Wa.heap.size) (hn : ¬ mine L k) : w1.heap[k]? = Wa.heap[k]? :=
  hg.block k hk (fun e => hn (.inr (.inr (h.ent.1 k e.symm))))
theorem boxg {Wa w1 : World} {g lo : Nat} {S : RX} {L : Lo} (h : RT Wa g lo S L) (hg : Wa.grownBy w1 (Value.slice L.AE L.ms.length L.cE).ownBlock) : BoxAt w1 g (own18 S L) := by
  obtain ⟨cs, q1, q2⟩ := h.box
  exact ⟨cs, (hg.block g (h.hi g h.g) (fun e => by have z := h.ent.1 g e.symm; exact (h.fb z.1).1 (by rw [← z.2]; exact foot_root h.tr))).trans q1, q2⟩
set_option maxHeartbeats 8000000 in
set_option maxRecDepth 100000 in
theorem submit_calls (g lo : Nat) (S : RX) (L : Lo) (A : Option Addr) (c : Nat) (l : List Int) (now most ea : Int) (w : World) (h : RT w g lo S L) (hI : Inv S) (hF : Kd.F kI w (fun k => ¬ mine L k) A l.length l) (hc : l.length ≤ c) (hi : ∀ x ∈ l, i64 x) (hN : L.N ≤ 1000000000) (hl : l.length ≤ 1000) (hes : S.es.length ≤ 1048576)
    (hE : greedy_Asked.f 2000 S.c.f0 S.c.f1 S.c.f2 S.c.f3 S.c.f4 l most = some ea) :
    Calls Try.prog 10 #[.pointer (some ⟨g, 0, none⟩), .int .i64 now, .slice A l.length c, .int .i64 most] w fun e w' => e = .returned (.tuple #[.agg #[.int .i64 (submitR S ea now l most).2.1, .int .i64 0, .int .i64 (submitR S ea now l most).2.2.1, .int .i64 (submitR S ea now l most).2.2.2.1], .int .i64 (submitR S ea now l most).2.2.2.2]) ∧ ∃ L', L'.N ≤ L.N + 128 ∧ RT w' g lo (submitR S ea now l most).1 L' ∧ RPost lo w w' L L' := by
  have b1 := below_alloc (Below.refl w.heap.size w) (.cells #[.int .i64 0, .int .i64 0, .int .i64 0, .int .i64 0] 34 (0, 0))
  have E1 := Aside0.mk (blk_new w (.cells #[.int .i64 0, .int .i64 0, .int .i64 0, .int .i64 0] 34 (0, 0)))
  have R1 := Aside0.mk (h.below b1)
  have P1 := Aside0.mk (RPost.of_below (L := L) h.size b1)
  obtain ⟨w1, hw1⟩ : ∃ w1, w1 = w.alloc (.cells #[.int .i64 0, .int .i64 0, .int .i64 0, .int .i64 0] 34 (0, 0)) := ⟨_, rfl⟩
  obtain ⟨B, hBe⟩ : ∃ B, w.heap.size = B := ⟨_, rfl⟩
  have HB := Aside0.mk (show w.heap.size ≤ B ∧ lo ≤ w.heap.size from ⟨Nat.le_of_eq hBe, h.size⟩)
  have NB := Aside0.mk (show ¬ mine L B ∧ ¬ L.I B from ⟨fun q => by have := h.hi B q; omega, fun q => by have := (h.ih B q).1; omega⟩)
  rw [← hw1] at E1 R1 P1 b1
  have F1 := Aside0.mk (Kd.F_below hF b1)
  have B1 := Aside0.mk b1
  have H := Aside0.mk h
  have HI := Aside0.mk hI
  have HE := Aside0.mk hE
  have HX := Aside0.mk (And.intro hc (And.intro hi (And.intro hN (And.intro hl hes))))
  clear h hI hF hc hi hN hl hes hE b1
  go_enter Try.func10, Try.ntmps10
  go_upto_region 1 with (fail)
  rw [← hw1]
  rw [hBe] at E1
  clear hw1
  by_cases hnow : now < 0 ∨ 1099511627776 < now
  · rcases (show decide (now < 0) = true ∨ (decide (now < 0) = false ∧ decide (1099511627776 < now) = true) from by
      by_cases q : now < 0
      · exact .inl (decide_eq_true q)
      · exact .inr ⟨decide_eq_false q, decide_eq_true (by omega)⟩) with e1 | ⟨e1, e2⟩
    all_goals (
      have x0 := blk_cell E1.out 0
      have x1 := blk_cell E1.out 1
      have x2 := blk_cell E1.out 2
      have x3 := blk_cell E1.out 3
      have z0 := blk_frozen E1.out 0
      have z1 := blk_frozen E1.out 1
      have z2 := blk_frozen E1.out 2
      have z3 := blk_frozen E1.out 3
      simp at x0 x1 x2 x3
      have Q4 := Aside0.mk (put4 R1.out P1.out HB.out.1 HB.out.2 NB.out.1 NB.out.2 E1.out (.int .i64 0) (.int .i64 0) (.int .i64 0) (.int .i64 0))
      have SR := Aside0.mk (show submitR S ea now l most = (S, 0, 0, 0, 1) from if_pos hnow)
      go_wp2
      refine bodyPost_ret (results_ct rfl _ _ B 34 #[.int .i64 0, .int .i64 0, .int .i64 0, .int .i64 0] (0, 0) _ rfl Q4.out.2.2 Try.underlying34 rfl (by kernel_rfl)) rfl ?_
      rw [SR.out]
      exact ⟨rfl, L, by first | exact LN.out | (show L.N ≤ L.N + 128; omega), Q4.out.1, Q4.out.2.1⟩)
  · have e1 : decide (now < 0) = false := decide_eq_false (by omega)
    have e2 : decide (1099511627776 < now) = false := decide_eq_false (by omega)
    have HNW := Aside0.mk hnow
    clear hnow
    have AC := Aside0.mk (greedy_Asked.calls 2000 S.c.f0 S.c.f1 S.c.f2 S.c.f3 S.c.f4 A c l most ea w1 (Kd.F_now F1.out) HX.out.1 HE.out)
    have y0 := (R1.out.box.cell 0 rfl).1
    have y1 := (R1.out.box.cell 1 rfl).1
    have y2 := (R1.out.box.cell 2 rfl).1
    have y3 := (R1.out.box.cell 3 rfl).1
    have y4 := (R1.out.box.cell 4 rfl).1
    go_upto_region 4 with (go_at_call 28; go_loud ((refine AC.out.mono ?_); rintro e w2 ⟨rfl, hb⟩; have E2 := Aside0.mk (blk_below E1.out hb); have R2 := Aside0.mk (R1.out.below hb); have P2 := Aside0.mk (P1.out.step R1.out.size hb); have F2 := Aside0.mk (Kd.F_below F1.out hb); clear hb))
    clear y0 y1 y2 y3 y4 AC E1 R1 P1 F1 B1
    by_cases he : ea = 0
    · have f1 : (ea == 0) = true := beq_iff_eq.mpr he
      have f2 : (ea != 0) = false := bne_eq_false_iff_eq.mpr he
      have HEA := Aside0.mk he
      have OC := Aside0.mk (open_calls g lo S L w2.drew (R2.out.below (Below.refl _ _).drew) HX.out.2.2.2.2)
      have y7 : w2.drew.cell? ⟨g, 7, none⟩ = some (.int .i64 S.p.f2) := (R2.out.box.cell 7 rfl).1
      clear he
      go_upto_region 6 with (fail)
      go_region_held3 (fun W => W.cell? ⟨g, 7, none⟩ = some (.int .i64 S.p.f2))
        (first | exact (R3.out.box.cell 7 rfl).1 | exact y7)
        ((go_at_call 26; go_loud ((refine OC.out.mono ?_); rintro e w3 ⟨rfl, hb⟩; have hb2 : Below w2.heap.size w2 w3 := ((Below.refl _ _).drew).trans hb; have E3 := Aside0.mk (blk_below E2.out hb2); have R3 := Aside0.mk (R2.out.below hb2); have P3 := Aside0.mk (P2.out.step R2.out.size hb2); have F3 := Aside0.mk (Kd.F_below F2.out hb2); clear hb hb2)))
      clear y7 OC E2 R2 P2 F2 f1 f2
      by_cases ho : S.p.f2 ≤ (opn S.es : Int)
      · have d1 : decide (S.p.f2 ≤ (opn S.es : Int)) = true := decide_eq_true ho
        have x0 := blk_cell E3.out 0
        have x1 := blk_cell E3.out 1
        have x2 := blk_cell E3.out 2
        have x3 := blk_cell E3.out 3
        have z0 := blk_frozen E3.out 0
        have z1 := blk_frozen E3.out 1
        have z2 := blk_frozen E3.out 2
        have z3 := blk_frozen E3.out 3
        simp at x0 x1 x2 x3
        have Q4 := Aside0.mk (put4 R3.out P3.out HB.out.1 HB.out.2 NB.out.1 NB.out.2 E3.out (.int .i64 0) (.int .i64 0) (.int .i64 0) (.int .i64 0))
        have SR := Aside0.mk (show submitR S ea now l most = (S, 0, 0, 0, 10) from by unfold submitR; rw [if_neg HNW.out, if_neg (fun q => q HEA.out), if_pos ho])
        go_wp2
        refine bodyPost_ret (results_ct rfl _ _ B 34 #[.int .i64 0, .int .i64 0, .int .i64 0, .int .i64 0] (0, 0) _ rfl Q4.out.2.2 Try.underlying34 rfl (by kernel_rfl)) rfl ?_
        rw [SR.out]
        exact ⟨rfl, L, by first | exact LN.out | (show L.N ≤ L.N + 128; omega), Q4.out.1, Q4.out.2.1⟩
      · have d1 : decide (S.p.f2 ≤ (opn S.es : Int)) = false := decide_eq_false ho
        have HO := Aside0.mk ho
        have x17 := (R3.out.box.cell 17 rfl).1
        obtain ⟨n, hn⟩ : ∃ n, L.ms.length = n := ⟨_, rfl⟩
        have HNn := Aside0.mk (show S.es.length = n from by rw [← R3.out.len]; exact hn)
        have HMn := Aside0.mk hn
        rw [hn] at x17
        clear hn
        by_cases hb : 1048576 ≤ n
        · have d2 : decide ((1048576 : Int) ≤ (n : Int)) = true := decide_eq_true (by omega)
          have d3 : decide (1048576 ≤ n) = true := decide_eq_true hb
          have x0 := blk_cell E3.out 0
          have x1 := blk_cell E3.out 1
          have x2 := blk_cell E3.out 2
          have x3 := blk_cell E3.out 3
          have z0 := blk_frozen E3.out 0
          have z1 := blk_frozen E3.out 1
          have z2 := blk_frozen E3.out 2
          have z3 := blk_frozen E3.out 3
          simp at x0 x1 x2 x3
          have Q4 := Aside0.mk (put4 R3.out P3.out HB.out.1 HB.out.2 NB.out.1 NB.out.2 E3.out (.int .i64 0) (.int .i64 0) (.int .i64 0) (.int .i64 0))
          have SR := Aside0.mk (show submitR S ea now l most = (S, 0, 0, 0, 2) from by unfold submitR; rw [if_neg HNW.out, if_neg (fun q => q HEA.out), if_neg (by have := HO.out; omega), if_pos (by rw [HNn.out]; exact hb)])
          go_wp2
          refine bodyPost_ret (results_ct rfl _ _ B 34 #[.int .i64 0, .int .i64 0, .int .i64 0, .int .i64 0] (0, 0) _ rfl Q4.out.2.2 Try.underlying34 rfl (by kernel_rfl)) rfl ?_
          rw [SR.out]
          exact ⟨rfl, L, by first | exact LN.out | (show L.N ≤ L.N + 128; omega), Q4.out.1, Q4.out.2.1⟩
        · have d2 : decide ((1048576 : Int) ≤ (n : Int)) = false := decide_eq_false (by omega)
          have d3 : decide (1048576 ≤ n) = false := decide_eq_false hb
          have HBn := Aside0.mk hb
          have PC := Aside0.mk (place_calls g lo S L A c l true w3 R3.out HI.out F3.out HX.out.2.1 HX.out.2.2.1)
          clear hb
          obtain ⟨pl, hpl⟩ : ∃ pl, placeR S l true = pl := ⟨_, rfl⟩
          have HPL := Aside0.mk hpl
          obtain ⟨S4, p, d, ok⟩ := pl
          rw [hpl] at PC
          have SZ3 := Aside0.mk (blk_lt E3.out)
          clear hpl
          go_upto_region 11 with (go_at_call 29; go_loud ((refine PC.out.mono ?_); rintro e w4 ⟨rfl, X4, N4, hN4, r4, p4⟩; have R4 := Aside0.mk r4; have P4 := Aside0.mk (P3.out.trans p4); have LN := Aside0.mk hN4; have NB4 := Aside0.mk (show ¬ mine { L with X := X4, N := N4 } B ∧ ¬ L.I B from ⟨fun q => (p4.mine B q).elim NB.out.1 (fun z => by have := SZ3.out; omega), NB.out.2⟩); have E4 := Aside0.mk (show w4.heap[B]? = some (.cells #[.int .i64 0, .int .i64 0, .int .i64 0, .int .i64 0] 34 (0, 0)) from (p4.kept.2 B SZ3.out NB.out.1).trans E3.out); have F4 := Aside0.mk (Kd.F_kept F3.out p4.kept (fun k hk => hk)); clear r4 p4 hN4))
          clear x17 PC E3 F3 SZ3 d1 d2 d3 ho
          cases ok with
          | false =>
            have x0 := blk_cell E4.out 0
            have x1 := blk_cell E4.out 1
            have x2 := blk_cell E4.out 2
            have x3 := blk_cell E4.out 3
            have z0 := blk_frozen E4.out 0
            have z1 := blk_frozen E4.out 1
            have z2 := blk_frozen E4.out 2
            have z3 := blk_frozen E4.out 3
            simp at x0 x1 x2 x3
            have Q4 := Aside0.mk (put4 R4.out P4.out HB.out.1 HB.out.2 NB4.out.1 NB4.out.2 E4.out (.int .i64 0) (.int .i64 0) (.int .i64 0) (.int .i64 0))
            have SR := Aside0.mk (show submitR S ea now l most = (S4, 0, 0, 0, 17) from by unfold submitR; rw [if_neg HNW.out, if_neg (fun q => q HEA.out), if_neg (by have := HO.out; omega), if_neg (by rw [HNn.out]; exact HBn.out), HPL.out]; rfl)
            go_wp2
            refine bodyPost_ret (results_ct rfl _ _ B 34 #[.int .i64 0, .int .i64 0, .int .i64 0, .int .i64 0] (0, 0) _ rfl Q4.out.2.2 Try.underlying34 rfl (by kernel_rfl)) rfl ?_
            rw [SR.out]
            exact ⟨rfl, { L with X := X4, N := N4 }, by first | exact LN.out | (show L.N ≤ L.N + 128; omega), Q4.out.1, Q4.out.2.1⟩
          | true =>
            have SRT := Aside0.mk (show submitR S ea now l most = (({ S4 with es := S4.es ++ ([⟨0, p, d, l, most, now, 0, []⟩] : List PE) } : RX), (S.es.length : Int), p, d, (0 : Int)) from by unfold submitR; rw [if_neg HNW.out, if_neg (fun q => q HEA.out), if_neg (by have := HO.out; omega), if_neg (by rw [HNn.out]; exact HBn.out), HPL.out]; rfl)
            have SE4 := Aside0.mk (show S.es.length = S4.es.length from by rw [HNn.out, ← HMn.out, R4.out.len])
            have x17 := (R4.out.box.cell 17 rfl).1
            go_upto_region 14 with (fail)
            have b5 := below_alloc (Below.refl w4.heap.size w4) (.cells #[.int .i64 L.ms.length, .int .i64 0, .int .i64 p, .int .i64 d] 34 (0, 0))
            have E14 := Aside0.mk (blk_new w4 (.cells #[.int .i64 L.ms.length, .int .i64 0, .int .i64 p, .int .i64 d] 34 (0, 0)))
            have R5 := Aside0.mk (R4.out.below b5)
            have P5 := Aside0.mk (P4.out.step R4.out.size b5)
            have E5 := Aside0.mk (blk_below E4.out b5)
            have F5 := Aside0.mk (Kd.F_below F4.out b5)
            have N14 := Aside0.mk (show ¬ mine { L with X := X4, N := N4 } w4.heap.size ∧ w.heap.size ≤ w4.heap.size from ⟨fun q => by have := R4.out.hi _ q; omega, P4.out.kept.1⟩)
            clear x17 b5 R4 P4 E4 F4
            generalize w4.alloc (.cells #[.int .i64 L.ms.length, .int .i64 0, .int .i64 p, .int .i64 d] 34 (0, 0)) = w5 at E14 R5 P5 E5 F5 ⊢
            generalize w4.heap.size = B14 at E14 N14 ⊢
            have x17 := (R5.out.box.cell 17 rfl).1
            have x0 := blk_cell E14.out 0
            have x1 := blk_cell E14.out 1
            have x2 := blk_cell E14.out 2
            have x3 := blk_cell E14.out 3
            simp at x0 x1 x2 x3
            have BD := Aside0.mk (show Below w5.heap.size w5 w5.drew from (Below.refl _ _).drew)
            have KP := Aside0.mk (show ∀ W, Below w5.heap.size w5 W → (W.cell? ⟨g, 17, none⟩ = some (.slice L.AE L.ms.length L.cE) ∧ W.cell? ⟨B14, 0, none⟩ = some (.int .i64 L.ms.length) ∧ W.cell? ⟨B14, 1, none⟩ = some (.int .i64 0) ∧ W.cell? ⟨B14, 2, none⟩ = some (.int .i64 p) ∧ W.cell? ⟨B14, 3, none⟩ = some (.int .i64 d)) from fun W hb => ⟨pw_cell_below hb x17, pw_cell_below hb x0, pw_cell_below hb x1, pw_cell_below hb x2, pw_cell_below hb x3⟩)
            clear x17 x0 x1 x2 x3
            refine start_ (n := 16) (S := fun w' => w'.cell? ⟨g, 17, none⟩ = some (.slice L.AE L.ms.length L.cE) ∧ w'.cell? ⟨B14, 0, none⟩ = some (.int .i64 L.ms.length) ∧ w'.cell? ⟨B14, 1, none⟩ = some (.int .i64 0) ∧ w'.cell? ⟨B14, 2, none⟩ = some (.int .i64 p) ∧ w'.cell? ⟨B14, 3, none⟩ = some (.int .i64 d)) (ds := [15]) #[false, false, false, false, false, false, false, false, false, false, false, false, false, false, false, false] (by kernel_rfl) rfl rfl ⟨(KP.out _ BD.out).1, (KP.out _ BD.out).2.1, (KP.out _ BD.out).2.2.1, (KP.out _ BD.out).2.2.2.1, (KP.out _ BD.out).2.2.2.2⟩ (fun hHeld => ?_)
            refine pure_ (i := 0) (N := some 67) (v := ?_) (a' := ?_) #[true, false, false, false, false, false, false, false, false, false, false, false, false, false, false, false] rfl rfl (by kernel_rfl) (fun _ _ _ h => h) (Or.inl ⟨by rfl, ?_⟩) ?_ ?_
            rotate_left
            · intro w'
              go_simp
              with_reducible rfl
            rotate_left
            · simp only [Act.put, List.setIfInBounds_toArray, List.set_cons_zero, List.set_cons_succ, i64_w, i32_w]
              rfl
            refine pure_ (i := 1) (N := some 68) (v := ?_) (a' := ?_) #[true, true, false, false, false, false, false, false, false, false, false, false, false, false, false, false] rfl rfl (by kernel_rfl) (fun _ _ _ h => h) (Or.inl ⟨by rfl, ?_⟩) ?_ ?_
            rotate_left
            · intro w'
              go_simp
              with_reducible rfl
            rotate_left
            · simp only [Act.put, List.setIfInBounds_toArray, List.set_cons_zero, List.set_cons_succ, i64_w, i32_w]
              rfl
            refine pure_ (i := 2) (N := some 69) (v := ?_) (a' := ?_) #[true, true, true, false, false, false, false, false, false, false, false, false, false, false, false, false] rfl rfl (by kernel_rfl) (fun _ _ _ h => h) (Or.inl ⟨by rfl, ?_⟩) ?_ ?_
            rotate_left
            · intro w'
              go_simp
              with_reducible rfl
            rotate_left
            · simp only [Act.put, List.setIfInBounds_toArray, List.set_cons_zero, List.set_cons_succ, i64_w, i32_w]
              rfl
            refine pure_ (i := 3) (N := some 70) (v := ?_) (a' := ?_) #[true, true, true, true, false, false, false, false, false, false, false, false, false, false, false, false] rfl rfl (by kernel_rfl) (fun _ _ _ h => h) (Or.inl ⟨by rfl, ?_⟩) ?_ ?_
            rotate_left
            · intro w'
              go_simp
              with_reducible rfl
            rotate_left
            · simp only [Act.put, List.setIfInBounds_toArray, List.set_cons_zero, List.set_cons_succ, i64_w, i32_w]
              rfl
            refine pure_ (i := 6) (N := some 73) (v := ?_) (a' := ?_) #[true, true, true, true, false, false, true, false, false, false, false, false, false, false, false, false] rfl rfl (by kernel_rfl) (fun _ _ _ h => h) (Or.inl ⟨by rfl, ?_⟩) ?_ ?_
            rotate_left
            · intro w'
              go_simp
              with_reducible rfl
            rotate_left
            · simp only [Act.put, List.setIfInBounds_toArray, List.set_cons_zero, List.set_cons_succ, i64_w, i32_w]
              rfl
            refine pure_ (i := 8) (N := some 75) (v := ?_) (a' := ?_) #[true, true, true, true, false, false, true, false, true, false, false, false, false, false, false, false] rfl rfl (by kernel_rfl) (fun _ _ _ h => h) (Or.inl ⟨by rfl, ?_⟩) ?_ ?_
            rotate_left
            · intro w'
              go_simp
              with_reducible rfl
            rotate_left
            · simp only [Act.put, List.setIfInBounds_toArray, List.set_cons_zero, List.set_cons_succ, i64_w, i32_w]
              rfl
            refine pure_ (i := 9) (N := some 76) (v := ?_) (a' := ?_) #[true, true, true, true, false, false, true, false, true, true, false, false, false, false, false, false] rfl rfl (by kernel_rfl) (fun _ _ _ h => h) (Or.inl ⟨by rfl, ?_⟩) ?_ ?_
            rotate_left
            · intro w'
              go_simp
              with_reducible rfl
            rotate_left
            · simp only [Act.put, List.setIfInBounds_toArray, List.set_cons_zero, List.set_cons_succ, i64_w, i32_w]
              rfl
            refine take_ (i := 4) (N := some 71) (v := ?_) (a' := ?_) #[true, true, true, true, true, false, true, false, true, true, false, false, false, false, false, false] rfl rfl (by kernel_rfl) (fun _ _ _ h => h) (Or.inl ⟨by rfl, ?_⟩) hHeld ?_ ?_
            rotate_left
            · rintro w' ⟨s0, s1, s2, s3, s4⟩
              go_simp
              with_reducible rfl
            rotate_left
            · simp only [Act.put, List.setIfInBounds_toArray, List.set_cons_zero, List.set_cons_succ, i64_w, i32_w]
              rfl
            refine take_ (i := 5) (N := some 72) (v := ?_) (a' := ?_) #[true, true, true, true, true, true, true, false, true, true, false, false, false, false, false, false] rfl rfl (by kernel_rfl) (fun _ _ _ h => h) (Or.inl ⟨by rfl, ?_⟩) hHeld ?_ ?_
            rotate_left
            · rintro w' ⟨s0, s1, s2, s3, s4⟩
              go_simp
              with_reducible rfl
            rotate_left
            · simp only [Act.put, List.setIfInBounds_toArray, List.set_cons_zero, List.set_cons_succ, i64_w, i32_w]
              rfl
            refine one_ (i := 7) (N := some 74) #[true, true, true, true, true, true, true, true, true, true, false, false, false, false, false, false] rfl rfl (by kernel_rfl) (by decide) (fun K hK => ?_)
            refine goes_ Try.func30 (by kernel_rfl) rfl #[.slice A l.length c] (by rfl) rfl rfl (by simp only [List.map_toArray, List.map_cons, List.map_nil]; rfl) ?_
            with_reducible refine (slices_Clone_int_int.calls A c l l _ (Kd.F_now (Kd.F_below F5.out BD.out)) HX.out.1 (clone_eq l (by have := HX.out.2.2.2.1; omega))).mono ?_
            rintro e w6 ⟨v0, rfl, hr, hb⟩
            refine ⟨_, rfl, ?_⟩
            obtain ⟨A0, c0, rfl⟩ := Kd.R_slice hr
            have B6 := Aside0.mk (show Below w5.heap.size w5 w6 from BD.out.trans hb)
            have RC := Aside0.mk (show Kd.R kI 3 w6 w5.drew.heap.size (fun _ => True) (.slice A0 l.length c0) l from hr)
            clear hr hb
            refine hK.out _ _ ⟨(KP.out _ B6.out).1, (KP.out _ B6.out).2.1, (KP.out _ B6.out).2.2.1, (KP.out _ B6.out).2.2.2.1, (KP.out _ B6.out).2.2.2.2⟩ (fun hHeld => ?_)
            clear hK K
            refine norm_ (a' := ?_) ?_ ?_
            rotate_left
            · show Act.put _ (some 74) _ = _
              simp only [Act.put, List.setIfInBounds_toArray, List.set_cons_zero, List.set_cons_succ, i64_w, i32_w]
              rfl
            refine pure_ (i := 10) (N := some 77) (v := ?_) (a' := ?_) #[true, true, true, true, true, true, true, true, true, true, true, false, false, false, false, false] rfl rfl (by kernel_rfl) (fun _ _ _ h => h) (Or.inl ⟨by rfl, ?_⟩) ?_ ?_
            rotate_left
            · intro w'
              go_simp
              with_reducible rfl
            rotate_left
            · simp only [Act.put, List.setIfInBounds_toArray, List.set_cons_zero, List.set_cons_succ, i64_w, i32_w]
              rfl
            refine one_ (i := 11) (N := some 78) #[true, true, true, true, true, true, true, true, true, true, true, true, false, false, false, false] rfl rfl (by kernel_rfl) (by decide) (fun K hK => ?_)
            refine value_ (w1 := ?_) (v := ?_) (by rfl) rfl ?_ ?_
            rotate_left 2
            · go_simp
              constructor
              · rfl
              · rfl
            refine hK.out _ _ ⟨(KP.out _ (below_alloc B6.out _)).1, (KP.out _ (below_alloc B6.out _)).2.1, (KP.out _ (below_alloc B6.out _)).2.2.1, (KP.out _ (below_alloc B6.out _)).2.2.2.1, (KP.out _ (below_alloc B6.out _)).2.2.2.2⟩ (fun hHeld => ?_)
            clear hK K
            refine norm_ (a' := ?_) ?_ ?_
            rotate_left
            · show Act.put _ (some 78) _ = _
              simp only [Act.put, List.setIfInBounds_toArray, List.set_cons_zero, List.set_cons_succ, i64_w, i32_w]
              rfl
            refine one_ (i := 12) (N := some 79) #[true, true, true, true, true, true, true, true, true, true, true, true, true, false, false, false] rfl rfl (by kernel_rfl) (by decide) (fun K hK => ?_)
            have R6 := Aside0.mk (R5.out.below B6.out)
            refine Kd.R_append_step kE (w0 := w6) (W := w6) lo (by rfl) (.tmp 71) (.tmp 78) 78 40 (.agg #[.int .i64 0, .int .i64 0, .int .i64 0, .int .i64 0, .slice none 0 0, .int .i64 0, .int .i64 0, .int .i64 0, .slice none 0 0]) 104 rfl Try.underlying78 (by kernel_rfl) rfl (by decide) (by omega) (.slice L.AE L.ms.length L.cE) L.ms ⟨L.ms.length, 0, p, d, (A0, l.length, c0), most, now, 0, (none, 0, 0)⟩ [.int .i64 L.ms.length, .int .i64 0, .int .i64 p, .int .i64 d, .slice A0 l.length c0, .int .i64 most, .int .i64 now, .int .i64 0, .slice none 0 0] (fun k => (0 < L.ms.length ∧ k = L.b) ∨ w6.heap.size ≤ k) (fun _ => False) (by rfl) (by rfl) (kE_mkM _ _ _ ⟨L.ms.length, 0, p, d, (A0, l.length, c0), most, now, 0, (none, 0, 0)⟩) (fun _ hk => hk.elim) (fun k hk => .inr hk) (Kd.R_mono R6.out.ent (fun k hk => .inl hk)) (Below.refl _ _) R6.out.size (by have h1 := HX.out.2.2.2.2; have h2 := HNn.out; have h3 := HMn.out; omega) ?_
            intro v1 w7 hN hB hg hat
            obtain ⟨A9, c9, rfl⟩ := Kd.R_slice hN
            have GX := boxg R6.out hg
            have hb14 : w7.heap[B14]? = w6.heap[B14]? := blkg R6.out hg (blk_lt (blk_below E14.out B6.out)) N14.out.1
            have y17 := (GX.cell 17 rfl).1
            have z17 := (GX.cell 17 rfl).2
            have E7 := hb14.trans (blk_below E14.out B6.out)
            have x0 := blk_cell E7 0
            have x1 := blk_cell E7 1
            have x2 := blk_cell E7 2
            have x3 := blk_cell E7 3
            simp at x0 x1 x2 x3
            have HN := Aside0.mk hN
            have HBB := Aside0.mk hB
            have HG := Aside0.mk hg
            have E7 := Aside0.mk E7
            clear hN hB hg hat hb14 GX
            refine hK.out _ _ ⟨y17, x0, x1, x2, x3⟩ (fun hHeld => ?_)
            clear hK K
            refine norm_ (a' := ?_) ?_ ?_
            rotate_left
            · show Act.put _ (some 79) _ = _
              simp only [Act.put, List.setIfInBounds_toArray, List.set_cons_zero, List.set_cons_succ, i64_w, i32_w]
              rfl
            refine pure_ (i := 13) (N := some 80) (v := ?_) (a' := ?_) #[true, true, true, true, true, true, true, true, true, true, true, true, true, true, false, false] rfl rfl (by kernel_rfl) (fun _ _ _ h => h) (Or.inl ⟨by rfl, ?_⟩) ?_ ?_
            rotate_left
            · intro w'
              go_simp
              with_reducible rfl
            rotate_left
            · simp only [Act.put, List.setIfInBounds_toArray, List.set_cons_zero, List.set_cons_succ, i64_w, i32_w]
              rfl
            refine pure_ (i := 14) (N := some 81) (v := ?_) (a' := ?_) #[true, true, true, true, true, true, true, true, true, true, true, true, true, true, true, false] rfl rfl (by kernel_rfl) (fun _ _ _ h => h) (Or.inl ⟨by rfl, ?_⟩) ?_ ?_
            rotate_left
            · intro w'
              go_simp
              with_reducible rfl
            rotate_left
            · simp only [Act.put, List.setIfInBounds_toArray, List.set_cons_zero, List.set_cons_succ, i64_w, i32_w]
              rfl
            refine last_ (i := 15) (N := none) #[true, true, true, true, true, true, true, true, true, true, true, true, true, true, true, true] rfl rfl (by kernel_rfl) (by decide) (fun K hK => ?_)
            refine skip_ (w1 := ?_) (by rfl) rfl ?_ ?_
            rotate_left
            · go_simp
              rfl
            refine hK.out _ _ ?_
            clear hK K
            refine done_ (by kernel_rfl) ?_
            go_upto_region 15 with (fail)
            have P6 := Aside0.mk (P5.out.step R5.out.size B6.out)
            have s56 : w5.heap.size ≤ w6.heap.size := B6.out.size
            have NB6 := NB4.out
            have AP := Aside0.mk (R6.out.appended P6.out (.slice A9 (L.ms ++ [(⟨L.ms.length, 0, p, d, (A0, l.length, c0), most, now, 0, (none, 0, 0)⟩ : ME)]).length c9) ⟨L.ms.length, 0, p, d, (A0, l.length, c0), most, now, 0, (none, 0, 0)⟩ ⟨0, p, d, l, most, now, 0, []⟩ (fun k => w5.heap.size ≤ k ∧ k < w6.heap.size) HN.out HBB.out HG.out
              ⟨by show ((L.ms.length : Nat) : Int) = _; rw [R5.out.len], rfl, rfl, rfl, ⟨rfl, (Kd.R_reads' RC.out).2.1, Kd.F_mono (Kd.R_F (Kd.R_bound RC.out)) (fun k hk => .inr ⟨hk.2.1, hk.2.2.1⟩)⟩, rfl, rfl, rfl, ⟨rfl, Nat.le_refl _, Kd.F_nil _ _ _⟩⟩
              (fun k hk => ⟨hk.2, fun hm => by have := R5.out.hi k hm; omega⟩) (fun k hk => Nat.le_trans P5.out.kept.1 hk.1))
            have HB5 := blk_lt E5.out
            have H14 := blk_lt E14.out
            have E8 := Aside0.mk (show (w7.setCell ⟨g, 17, none⟩ (.slice A9 (L.ms ++ [(⟨L.ms.length, 0, p, d, (A0, l.length, c0), most, now, 0, (none, 0, 0)⟩ : ME)]).length c9)).heap[B]? = some (.cells #[.int .i64 0, .int .i64 0, .int .i64 0, .int .i64 0] 34 (0, 0)) from by
              rw [Below.heap_setCell _ _ _ _ (fun e => NB4.out.1 (by have z : B = g := e; rw [z]; exact R5.out.g)), blkg R6.out HG.out (by omega) NB4.out.1]; exact blk_below E5.out B6.out)
            have E9 := Aside0.mk (show (w7.setCell ⟨g, 17, none⟩ (.slice A9 (L.ms ++ [(⟨L.ms.length, 0, p, d, (A0, l.length, c0), most, now, 0, (none, 0, 0)⟩ : ME)]).length c9)).heap[B14]? = some (.cells #[.int .i64 L.ms.length, .int .i64 0, .int .i64 p, .int .i64 d] 34 (0, 0)) from by
              rw [Below.heap_setCell _ _ _ _ (fun e => N14.out.1 (by have z : B14 = g := e; rw [z]; exact R5.out.g))]; exact E7.out)
            have NI := Aside0.mk (show ¬ (L.I B ∨ (w5.heap.size ≤ B ∧ B < w6.heap.size)) ∧ ¬ w6.heap.size ≤ B from ⟨fun q => q.elim NB4.out.2 (fun z => by omega), by omega⟩)
            clear y17 z17 x0 x1 x2 x3 s56 NB6 HB5 H14 E5 E14 E7 KP BD RC HN HBB HG hHeld
            have hlen : (L.ms ++ [(⟨L.ms.length, 0, p, d, (A0, l.length, c0), most, now, 0, (none, 0, 0)⟩ : ME)]).length = L.ms.length + 1 := by simp
            obtain ⟨b9, A10, c10, _, r9, p9, m9⟩ := AP.out
            rw [hlen] at E8 E9
            obtain ⟨v9, hv9⟩ : ∃ v9, v9 = Value.slice A9 (L.ms ++ [(⟨L.ms.length, 0, p, d, (A0, l.length, c0), most, now, 0, (none, 0, 0)⟩ : ME)]).length c9 := ⟨_, rfl⟩
            rw [← hv9] at r9 p9
            rw [hlen] at hv9
            subst hv9
            obtain ⟨w8, hw8⟩ : ∃ w8, w8 = w7.setCell ⟨g, 17, none⟩ (.slice A9 (L.ms.length + 1) c9) := ⟨_, rfl⟩
            rw [← hw8] at r9 p9 E8 E9 ⊢
            have R9 := Aside0.mk r9
            have P9 := Aside0.mk p9
            have NB9 := Aside0.mk (show ¬ mine _ B from fun q => (m9 B q).elim NB4.out.1 NI.out.2)
            have Q4 := Aside0.mk (put4 R9.out P9.out HB.out.1 HB.out.2 NB9.out NI.out.1 E8.out (.int .i64 L.ms.length) (.int .i64 0) (.int .i64 p) (.int .i64 d))
            have x0 := blk_cell E8.out 0
            have x1 := blk_cell E8.out 1
            have x2 := blk_cell E8.out 2
            have x3 := blk_cell E8.out 3
            have z0 := blk_frozen E8.out 0
            have z1 := blk_frozen E8.out 1
            have z2 := blk_frozen E8.out 2
            have z3 := blk_frozen E8.out 3
            have y0 := blk_cell E9.out 0
            have y1 := blk_cell E9.out 1
            have y2 := blk_cell E9.out 2
            have y3 := blk_cell E9.out 3
            simp at x0 x1 x2 x3 y0 y1 y2 y3
            clear hw8 AP r9 p9 m9 hlen
            go_wp2
            refine bodyPost_ret (results_ct rfl _ _ B 34 #[.int .i64 L.ms.length, .int .i64 0, .int .i64 p, .int .i64 d] (0, 0) _ rfl Q4.out.2.2 Try.underlying34 rfl (by kernel_rfl)) rfl ?_
            rw [SRT.out]
            exact ⟨by rw [show ((S.es.length : Nat) : Int) = (L.ms.length : Int) from by rw [HNn.out, HMn.out]]; rfl, _, LN.out, Q4.out.1, Q4.out.2.1⟩
    · have f1 : (ea == 0) = false := beq_eq_false_iff_ne.mpr he
      have f2 : (ea != 0) = true := bne_iff_ne.mpr he
      have x0 := blk_cell E2.out 0
      have x1 := blk_cell E2.out 1
      have x2 := blk_cell E2.out 2
      have x3 := blk_cell E2.out 3
      have z0 := blk_frozen E2.out 0
      have z1 := blk_frozen E2.out 1
      have z2 := blk_frozen E2.out 2
      have z3 := blk_frozen E2.out 3
      simp at x0 x1 x2 x3
      have Q4 := Aside0.mk (put4 R2.out P2.out HB.out.1 HB.out.2 NB.out.1 NB.out.2 E2.out (.int .i64 0) (.int .i64 0) (.int .i64 0) (.int .i64 0))
      have SR := Aside0.mk (show submitR S ea now l most = (S, 0, 0, 0, ea) from by unfold submitR; rw [if_neg HNW.out, if_pos he])
      go_wp2
      refine bodyPost_ret (results_ct rfl _ _ B 34 #[.int .i64 0, .int .i64 0, .int .i64 0, .int .i64 0] (0, 0) _ rfl Q4.out.2.2 Try.underlying34 rfl (by kernel_rfl)) rfl ?_
      rw [SR.out]
      exact ⟨rfl, L, by first | exact LN.out | (show L.N ≤ L.N + 128; omega), Q4.out.1, Q4.out.2.1⟩
end Go.Proofs.Ythihgiaflbaigaa.ORouter
