/- TriePlays, walked by hand. -/
import Derived.Test.YtfnogcppbhggpaaORefPut
set_option linter.unusedVariables false
set_option linter.unusedSimpArgs false
namespace Go.Proofs.Ytfnogcppbhggpaa.OTPlays
open Go.RowKit Go.Proofs.YtfnogcppbhggpaaW.PrintWords Go.Proofs.YtfnogcppbhggpaaW.PrintLast Go.Proofs.YtfnogcppbhggpaaW.PrintMore Go.Proofs.Ytfnogcppbhggpaa.GQ Go.Proofs.Ytfnogcppbhggpaa.OMap Go.Proofs.Ytfnogcppbhggpaa.UTrie Go.Proofs.Ytfnogcppbhggpaa.UTold Go.Proofs.Ytfnogcppbhggpaa.OTrie Go.Maps
/-- A trie, a plain list, and the row that is asked for, side by side. -/
structure TP (w W : World) (g lo N : Nat) (cnt : Int) (val : Row → Option Int) (X : TX) (A : Option Addr) (c : Nat) (l : List Ent) (A1 : Option Addr) (q : Row) : Prop where
  tr : Tr W g N cnt val lo X
  ref : RefAt W (fun k => ¬ foot X k) A c l
  ask : Kd.F kI W (fun k => ¬ foot X k) A1 q.length q
  bel : Below lo w W
  le : lo ≤ W.heap.size
section
variable {w W W' : World} {g lo N N' n c c' : Nat} {cnt cnt' : Int} {val val' : Row → Option Int} {X X' : TX} {A A' A1 A3 : Option Addr} {l l' : List Ent} {q t : Row}
theorem TP.below (h : TP w W g lo N cnt val X A c l A1 q) (hb : Below W.heap.size W W') : TP w W' g lo N cnt val X A c l A1 q :=
  ⟨h.tr.below hb, Kd.V_below h.ref hb, Kd.F_below h.ask hb, h.bel.trans (hb.mono h.le), Nat.le_trans h.le hb.size⟩
theorem TP.more (h : TP w W g lo N cnt val X A c l A1 q) (hn : N ≤ N') : TP w W g lo N' cnt val X A c l A1 q :=
  ⟨h.tr.more hn, h.ref, h.ask, h.bel, h.le⟩
theorem foot_after (p : Post n W W' g 0 X X') : ∀ k, (¬ foot X k ∧ k < W.heap.size) → ¬ foot X' k := fun k hk hf => (p.foot k hf).elim hk.1 (fun h => by have := hk.2; omega)
theorem F_after (h : Kd.F kI W (fun k => ¬ foot X k) A3 t.length t) (p : Post n W W' g 0 X X') : Kd.F kI W' (fun k => ¬ foot X' k) A3 t.length t :=
  Kd.F_mono (Kd.F_kept (Kd.F_bound h) p.kept (fun k hk => hk.1)) (foot_after p)
/-- Behind a call of the trie's. -/
theorem TP.done (h : TP w W g lo N cnt val X A c l A1 q) (d : Done n W W' g 0 N' X val' cnt') : ∃ X', TP w W' g lo N' cnt' val' X' A c l A1 q ∧ Post n W W' g 0 X X' := by
  obtain ⟨X', t, p, b⟩ := h.tr.then_ h.le d
  exact ⟨X', ⟨t, Kd.V_mono (Kd.V_kept (Kd.V_bound h.ref) p.kept (fun k hk => hk.1)) (foot_after p), F_after h.ask p, h.bel.trans b, Nat.le_trans h.le p.kept.1⟩, p⟩
/-- Behind a call that makes another list. -/
theorem TP.list (h : TP w W g lo N cnt val X A c l A1 q) (hb : Below W.heap.size W W') (hr : RefAt W' (fun k => ¬ foot X k ∨ W.heap.size ≤ k) A' c' l') : TP w W' g lo N cnt val X A' c' l' A1 q :=
  ⟨h.tr.below hb, Kd.V_mono hr (fun k hk hf => hk.elim (fun hn => hn hf) (fun hs => by have := foot_lt h.tr.tr hf; omega)), Kd.F_below h.ask hb, h.bel.trans (hb.mono h.le), Nat.le_trans h.le hb.size⟩
theorem put_same (hr : Rep l val) (t : Row) (v : Int) {l' : List Ent} (hr' : Rep l' (tPut val l.length t v).1) : (tPut val l.length t v).2.1 = (l'.length : Int) := by
  obtain ⟨l2, h1, h2, _⟩ := put_rep hr t v
  rw [h2, rep_uniq h1 hr']
theorem del_count (hr : Rep l val) (t : Row) : (if (val t).isSome = true then (l.length : Int) - 1 else l.length) = ((del t l).length : Int) := by
  cases hv : val t with
  | none =>
    rw [if_neg (by simp), rep_uniq (rep_del hr t) (by rw [upd_same_none hv]; exact hr)]
  | some u =>
    rw [if_pos (show (some u).isSome = true from rfl)]
    have hd := del_length hr.1 ((hr.2 t u).2 hv)
    omega
theorem delV_count (l : List Ent) (v : Int) : (l.length : Int) - cntV l v = ((delV v l).length : Int) := by
  unfold delV cntV
  have : ∀ l : List Ent, (l.filter (fun e => !decide (e.2 = v))).length + (l.filter (fun e => decide (e.2 = v))).length = l.length := fun l => by
    induction l with
    | nil => rfl
    | cons e r ih =>
      by_cases h : e.2 = v
      · simp only [List.filter_cons, h, decide_true, Bool.not_true, if_true, List.length_cons]
        simp; omega
      · simp only [List.filter_cons, h, decide_false, Bool.not_false, if_true, List.length_cons]
        simp; omega
  have := this l
  omega
theorem del_le (t : Row) (l : List Ent) : (del t l).length ≤ l.length := List.length_filter_le _ _
theorem delV_le (v : Int) (l : List Ent) : (delV v l).length ≤ l.length := List.length_filter_le _ _
end
open Classical in
/-- The law's answer within the row's bounds. -/
noncomputable def tillerlaw13_TriePlays.f (l0 : List S56) (l1 : List Int) : Option Bool := if (∀ x ∈ l0, okL x.f1) ∧ okL l1 then some true else none
set_option maxHeartbeats 32000000 in
set_option maxRecDepth 100000 in
theorem tillerlaw13_TriePlays.calls (A0 : Option Addr) (c0 : Nat) (l0 : List S56) (A1 : Option Addr) (c1 : Nat) (l1 : List Int) (r : Bool) (w : World) (hr0 : Kd.C k56 w A0 l0.length l0) (hc0 : l0.length ≤ c0) (hr1 : Kd.C kI w A1 l1.length l1) (hc1 : l1.length ≤ c1) (hr_ : Aside0 (r = true)) (h : tillerlaw13_TriePlays.f l0 l1 = some r) :
    Calls Try.prog 8 #[.slice A0 l0.length c0, .slice A1 l1.length c1] w fun e w' => e = .returned (.bool r) ∧ Below w.heap.size w w' := by
  obtain ⟨hr⟩ := hr_
  subst hr
  have OK := Aside0.mk (show (∀ x ∈ l0, okL x.f1) ∧ okL l1 by
    unfold tillerlaw13_TriePlays.f at h
    by_cases e : (∀ x ∈ l0, okL x.f1) ∧ okL l1
    · exact e
    · rw [if_neg e] at h; cases h)
  have R0 := Aside0.mk hr0
  obtain ⟨n0, hn0⟩ : ∃ n, l0.length = n := ⟨_, rfl⟩
  have HN0 := Aside0.mk hn0
  obtain ⟨M0, hM0⟩ : ∃ M : Nat, M = min n0 40 := ⟨_, rfl⟩
  have HM0 := Aside0.mk hM0
  have bz := below_alloc (Below.refl w.heap.size w) (.cells zcells 27 (0, 0))
  have TZ := Aside0.mk (Tr.zero (blk_new w (.cells zcells 27 (0, 0))))
  have NZ := Aside0.mk (kT_made (w.alloc (.cells zcells 27 (0, 0))) (fun k => ¬ foot (zX w.heap.size 0) k))
  have b2 := below_alloc (Below.refl _ (w.alloc (.cells zcells 27 (0, 0)))) (.cells #[] 49)
  have FC := Aside0.mk (few_calls A1 c1 l1 140 (by omega) ((w.alloc (.cells zcells 27 (0, 0))).alloc (.cells #[] 49)) (Kd.C_below (Kd.C_below hr1 bz) b2) hc1)
  have OQ := Aside0.mk (okL_take OK.out.2 140)
  obtain ⟨q, hq⟩ : ∃ q, l1.take 140 = q := ⟨_, rfl⟩
  have HQ := Aside0.mk (show q.length ≤ 140 by rw [← hq]; exact List.length_take_le _ _)
  rw [hq] at FC OQ
  obtain ⟨nq, hnq⟩ : ∃ n, q.length = n := ⟨_, rfl⟩
  have HNQ := Aside0.mk hnq
  obtain ⟨n1, hn1⟩ : ∃ n, l1.length = n := ⟨_, rfl⟩
  rw [hnq, hn1] at FC
  rw [hn0, hn1]
  have BZ := Aside0.mk bz
  have B2 := Aside0.mk b2
  clear h hr0 hc0 hr1 hc1 hn0 hM0 bz b2 hq hnq hn1
  go_enter Try.func8, Try.ntmps8
  go_upto_region 4 with (go_at_call 13; go_loud ((refine FC.out.mono ?_); rintro e w3 ⟨A3, c3, rfl, hR, hb⟩; have R3 := Aside0.mk hR; have HC3 := Aside0.mk (Kd.R_reads' hR).2.1; have B3 := Aside0.mk hb; clear hR hb))
  have T3 := Aside0.mk (show TP w w3 w.heap.size w.heap.size 0 0 (fun _ => none) (zX w.heap.size 0) (some ⟨w.heap.size + 1, 0, none⟩) 0 [] A3 q from by
    have hn := NZ.out
    rw [World.size_alloc] at hn
    have h1 : RefAt (w.alloc (.cells zcells 27 (0, 0)) |>.alloc (.cells #[] 49)) (fun k => ¬ foot (zX w.heap.size 0) k) (some ⟨w.heap.size + 1, 0, none⟩) 0 [] :=
      Kd.V_mono (Kd.N_V hn) (fun k hk => hk.elim id (fun h hf => by have := foot_zero hf; omega))
    have h2 : Kd.F kI w3 (fun k => ¬ foot (zX w.heap.size 0) k) A3 q.length q := by
      have hr := R3.out
      rw [← HNQ.out] at hr
      exact Kd.F_mono (Kd.R_F (Kd.R_bound hr)) (fun k hk hf => by have := foot_zero hf; have := hk.2.1; rw [World.size_alloc, World.size_alloc] at this; omega)
    have bb := BZ.out.trans (B2.out.mono (by rw [World.size_alloc]; omega))
    exact ⟨(TZ.out.below B2.out).below B3.out, Kd.V_below h1 B3.out, h2, bb.trans (B3.out.mono bb.size), Nat.le_trans bb.size B3.out.size⟩)
  clear FC R3 B3 NZ TZ BZ B2
  go_upto_region 6 with (go_at_call 9; go_loud ((refine (awake_calls _).mono ?_); rintro e w4 ⟨rfl, hb⟩; have T4 := Aside0.mk (T3.out.below hb); clear hb))
  clear T3
  generalize hg : w.heap.size = g at T4 ⊢
  have HG := Aside0.mk hg
  clear hg
  go_wp2
  go_loopg [6, 7] M0 (fun kq v6 v7 w' => ∃ (i : Nat) (val : Row → Option Int) (X : TX) (A : Option Addr) (c : Nat) (l : List Ent), v6 = .slice A l.length c ∧ v7 = .int .i64 (i : Int) ∧ Aside0 (i + kq = M0) ∧ Aside0 (TP w w' g g (i * 128) (l.length : Int) val X A c l A3 q) ∧ Aside0 (Rep l val) ∧ Aside0 (l.length ≤ i))
  case atStart => exact ⟨0, (fun _ => none), zX g 0, some ⟨g + 1, 0, none⟩, 0, [], rfl, rfl, ⟨Nat.zero_add _⟩, T4, ⟨rep_empty⟩, ⟨Nat.le_refl _⟩⟩
  case round =>
    clear T4
    obtain ⟨i, val, X, A, c, l, rfl, rfl, HJ, TT, HR, HL⟩ := hrel
    have hj := HJ.out
    have hm := HM0.out
    have BW := Aside0.mk (show Below w.heap.size w wr by rw [HG.out]; exact TT.out.bel)
    cases gk with
    | succ k =>
      have e1 : decide (i < n0) = true := decide_eq_true (by omega)
      have e2 : decide (i < 40) = true := decide_eq_true (by omega)
      have e3 : decide ((i : Int) < 40) = true := decide_eq_true (by omega)
      have p1 : 0 ≤ (i : Int) := by omega
      have q1 : (i : Int) < (n0 : Int) := by omega
      have q2 : (i : Int) ≤ 40 := by omega
      obtain ⟨ad, A', c', e0, hx0, hx1, hx2, hl0, hC0⟩ := at_T56 (Kd.C_below R0.out BW.out) (i : Int) (by omega) (by rw [HN0.out]; omega)
      subst e0
      rw [Int.toNat_natCast] at hx0 hx1 hx2
      have OA := Aside0.mk (show okL (rd_T56 l0 (i : Int)).f1 from OK.out.1 _ (by
        unfold rd_T56
        rw [Int.toNat_natCast, List.getD_eq_getElem?_getD, List.getElem?_eq_getElem (by rw [HN0.out]; omega)]
        exact List.getElem_mem _))
      generalize (rd_T56 l0 (i : Int)).f0 = kd at hx0
      generalize (rd_T56 l0 (i : Int)).f2 = vv at hx2
      generalize (rd_T56 l0 (i : Int)).f1 = tt at hx1 hl0 hC0 OA
      have OT := Aside0.mk (okL_take OA.out 140)
      have bE := below_alloc (Below.refl wr.heap.size wr) (.cells #[.int .i64 kd, .slice A' tt.length c', .int .i64 vv] 56 (0, 0))
      have FC := Aside0.mk (few_calls A' c' tt 140 (by omega) _ (Kd.C_below hC0 bE) hl0)
      have EB := Aside0.mk (blk_new wr (.cells #[.int .i64 kd, .slice A' tt.length c', .int .i64 vv] 56 (0, 0)))
      have TE := Aside0.mk (TT.out.below bE)
      obtain ⟨t, ht⟩ : ∃ t, tt.take 140 = t := ⟨_, rfl⟩
      have HT := Aside0.mk (show t.length ≤ 140 by rw [← ht]; exact List.length_take_le _ _)
      obtain ⟨nt, hnt⟩ : ∃ nt, t.length = nt := ⟨_, rfl⟩
      have HNT := Aside0.mk hnt
      rw [ht] at FC OT
      rw [hnt] at FC
      obtain ⟨ntt, hntt⟩ : ∃ ntt, tt.length = ntt := ⟨_, rfl⟩
      rw [hntt] at hx1 FC EB TE
      obtain ⟨nl, hnl⟩ : ∃ nl, l.length = nl := ⟨_, rfl⟩
      have HNL := Aside0.mk hnl
      have hnl2 : nl ≤ 40 := by have := HL.out; omega
      rw [hnl]
      clear hj hm hl0 hC0 ht hnt hntt bE BW OA hnl
      go_upto_region 11 with (go_at_call 13; go_loud ((refine FC.out.mono ?_); rintro e w3 ⟨A5, c5, rfl, hR, hb⟩; have T3 := Aside0.mk (TE.out.below hb); have F3 := Aside0.mk (fresh_F (c := c5) TE.out.tr.tr (by rw [HNT.out]; exact hR)); have EB3 := Aside0.mk (blk_below EB.out hb); have HC5 := Aside0.mk (Kd.R_reads' hR).2.1; clear hR hb))
      have NZE := Aside0.mk (show ¬ foot X wr.heap.size from fun hf => by have := foot_lt TT.out.tr.tr hf; omega)
      have SH := Aside0.mk (rep_short T3.out.tr.tr (l := l) (by rw [T3.out.tr.vl]; exact HR.out))
      generalize wr.heap.size = ZE at EB3 NZE ⊢
      have z0 := (blk_cell EB3.out 0).trans (show #[Value.int .i64 kd, .slice A' ntt c', .int .i64 vv][0]? = some (Value.int .i64 kd) from rfl)
      go_upto_block 2 with (fail)
      clear hx0 hx1 hx2 FC EB TE
      go_cut [6] (fun s6 wx => ∃ (val' : Row → Option Int) (X' : TX) (A' : Option Addr) (c' : Nat) (l' : List Ent), s6 = .slice A' l'.length c' ∧ Aside0 (TP w wx g g (i * 128 + 128) (l'.length : Int) val' X' A' c' l' A3 q) ∧ Aside0 (Rep l' val') ∧ Aside0 (l'.length ≤ i + 1))
      case first =>
        have z2 := (blk_cell EB3.out 2).trans (show #[Value.int .i64 kd, .slice A' ntt c', .int .i64 vv][2]? = some (Value.int .i64 vv) from rfl)
        by_cases k1 : kd = 1
        · subst k1
          obtain ⟨b0, hb0⟩ : ∃ b, (tPut val l.length t vv).2.2.1 = b := ⟨_, rfl⟩
          obtain ⟨x0, hx0⟩ : ∃ x, (tPut val l.length t vv).2.2.2 = x := ⟨_, rfl⟩
          have PC := Aside0.mk (put_calls g 0 (i * 128) X A5 c5 t vv l.length w3 T3.out.tr.tr T3.out.tr.ct F3.out OT.out (by omega) (by have := HL.out; omega))
          rw [T3.out.tr.vl, hb0, hx0, HNT.out] at PC
          have HB0 := Aside0.mk hb0
          have HX0 := Aside0.mk hx0
          clear hb0 hx0
          go_upto_region 14 with (go_at_call 10; go_loud ((refine PC.out.mono ?_); rintro e w4 ⟨rfl, d⟩; obtain ⟨X4, t4, p4⟩ := T3.out.done d; have T4 := Aside0.mk t4; have P4 := Aside0.mk p4; clear d t4 p4))
          have F4 := Aside0.mk (F_after F3.out P4.out)
          have EB4 := Aside0.mk ((P4.out.kept.2 ZE (blk_lt EB3.out) NZE.out).trans EB3.out)
          have y2 := (blk_cell EB4.out 2).trans (show #[Value.int .i64 1, .slice A' ntt c', .int .i64 vv][2]? = some (Value.int .i64 vv) from rfl)
          have RC := Aside0.mk (ref_put A c l A5 c5 t vv (fun k => ¬ foot X4 k) val w4 T4.out.ref HR.out (Kd.F_now F4.out) (by rw [HNT.out]; exact HC5.out) (by have := HL.out; omega) (by have := HT.out; omega) SH.out)
          rw [HNL.out, HNT.out] at RC
          rw [show RefPut w4 (fun k => ¬ foot X4 k) l val t vv = fun e w' => RefPut w4 (fun k => ¬ foot X4 k) l val t vv e w' from rfl] at RC
          clear PC z2 T3 F3
          go_wp2_with (go_at_call 20; go_loud ((refine RC.out.mono ?_); rintro e w5 ⟨A6, c6, l6, he, hrep, hlen, hra, hb⟩; rw [HB0.out, HX0.out] at he; subst he; have R6 := Aside0.mk hrep; have L6 := Aside0.mk hlen; have T6 := Aside0.mk (T4.out.list hb hra); clear hrep hlen hra hb))
          go_meet
          exact ⟨_, X4, A6, c6, l6, rfl, ⟨by have h := T6.out; rwa [put_same HR.out t vv R6.out] at h⟩, R6, ⟨by have := L6.out; have := HL.out; omega⟩⟩
        · have k1' : (kd == 1) = false := by simpa using k1
          by_cases k2 : kd = 2
          · subst k2
            have DC := Aside0.mk (drop_calls g 0 (i * 128) X A5 c5 t l.length w3 T3.out.tr.tr T3.out.tr.ct F3.out (by rw [HNT.out]; exact HC5.out) OT.out (by have := HL.out; omega))
            rw [show Dropped w3 g 0 (i * 128) X t l.length = fun e w' => Dropped w3 g 0 (i * 128) X t l.length e w' from rfl, HNT.out] at DC
            go_upto_region 19 with (fail)
            obtain ⟨bt, hbt⟩ : ∃ b, (val t).isSome = b := ⟨_, rfl⟩
            have HBT := Aside0.mk hbt
            clear hbt
            go_upto_region 21 with (first
              | (go_at_call 19; go_loud ((refine DC.out.mono ?_); rintro e w4 ⟨he, d⟩; rw [T3.out.tr.vl, HBT.out] at he; rw [T3.out.tr.vl] at d; subst he; obtain ⟨X4, t4, p4⟩ := T3.out.done d; have T4 := Aside0.mk t4; have F4 := Aside0.mk (F_after F3.out p4); clear d t4 p4))
              | (go_at_call 21; obtain ⟨rr, f1, f2, f3, f4, f5, FC⟩ := ref_find (show RefAt w4 _ A c l from T4.out.ref) HR.out (Kd.F_now F4.out) (c1 := c5) (by rw [HNT.out]; exact HC5.out) (by have := HL.out; omega) (by have := HT.out; omega); rw [HNL.out, HNT.out] at FC; rw [HBT.out] at f2; have FC := Aside0.mk FC; have F2 := Aside0.mk f2; have fd : decide (rr ≥ 0) = bt := (by cases bt with | true => exact decide_eq_true (F2.out.2 rfl) | false => exact decide_eq_false (fun h => by have := F2.out.1 h; cases this)); have fd2 : decide (0 ≤ rr) = bt := fd; clear f1 f2 f3 f4 f5; go_loud ((refine FC.out.mono ?_); rintro e w5 ⟨rfl, hb⟩; have T5 := Aside0.mk (T4.out.below hb); have F5 := Aside0.mk (Kd.F_below F4.out hb); clear hb)))
            have WC := Aside0.mk (ref_without T5.out.ref (c1 := c5) (t := t) (b := false) (v := 0) (l' := del t l) (Kd.F_now F5.out) (by rw [HNT.out]; exact HC5.out) (2 * l.length + t.length + 2) (wo_row HR.out t 0 (by have := HL.out; omega) (by have := HT.out; omega) _ (by omega)))
            rw [HNL.out, HNT.out] at WC
            go_wp2_with (go_at_call 22; go_loud ((refine WC.out.mono ?_); rintro e w6 ⟨A6, c6, rfl, ra, hb⟩; have T6 := Aside0.mk (T5.out.list hb ra); clear ra hb))
            go_meet
            exact ⟨upd val t none, X4, A6, c6, del t l, rfl, ⟨by have h := T6.out; rw [del_count HR.out t] at h; exact h.more (by omega)⟩, ⟨rep_del HR.out t⟩, ⟨by have := HL.out; have := del_le t l; omega⟩⟩
          · have k2' : (kd == 2) = false := by simpa using k2
            by_cases k3 : kd = 3
            · subst k3
              have WC := Aside0.mk (ref_without T3.out.ref (A1 := none) (c1 := 0) (t := []) (b := true) (v := vv) (l' := delV vv l) (Kd.C_nil kI _) (Nat.le_refl 0) (l.length + 1) (wo_val l [] vv (by have := HL.out; omega) _ (by omega)))
              rw [HNL.out, List.length_nil] at WC
              have CV := Aside0.mk (delV_count l vv)
              obtain ⟨nm, hnm⟩ : ∃ n, (delV vv l).length = n := ⟨_, rfl⟩
              obtain ⟨nc, hnc⟩ : ∃ n, cntV l vv = n := ⟨_, rfl⟩
              have HNM := Aside0.mk hnm
              have HNC := Aside0.mk hnc
              have hle : nm ≤ nl := by have := delV_le vv l; rw [HNL.out, hnm] at this; exact this
              have hsub : (nl : Int) - (nm : Int) = (nc : Int) := by have := CV.out; rw [HNL.out, hnm, hnc] at this; omega
              clear hnm hnc
              go_wp2_with (first
                | (go_at_call 22; go_loud ((refine WC.out.mono ?_); rintro e w4 ⟨A6, c6, rfl, ra, hb⟩; have T4 := Aside0.mk (T3.out.list hb ra); rw [HNM.out]; have EB4 := Aside0.mk (blk_below EB3.out hb); have y2 := pw_cell_below hb z2; clear ra hb))
                | (go_at_call 23; go_loud ((refine (dropValue_calls g 0 (i * 128) X l vv l.length w4 T4.out.tr.tr T4.out.tr.ct (by rw [T4.out.tr.vl]; exact HR.out) (by omega) (by have := HL.out; omega) (by have := HL.out; omega)).mono ?_); rintro e w5 ⟨he, d⟩; rw [HNC.out] at he; rw [T4.out.tr.vl] at d; subst he; obtain ⟨X5, t5, p5⟩ := T4.out.done d; have T5 := Aside0.mk t5; clear d t5 p5)))
              go_meet
              exact ⟨updV val vv, X5, A6, c6, delV vv l, by rw [HNM.out], ⟨by have h := T5.out; rw [delV_count l vv] at h; exact h.more (by omega)⟩, ⟨rep_delV HR.out vv⟩, ⟨by have := HL.out; have := delV_le vv l; omega⟩⟩
            · have k3' : (kd == 3) = false := by simpa using k3
              go_wp2
              go_meet
              exact ⟨val, X, A, c, l, by rw [HNL.out], ⟨T3.out.more (by omega)⟩, HR, ⟨by have := HL.out; omega⟩⟩
      case rest =>
        clear T3 F3 EB3 z0 NZE SH HC5 HT HNT OT HL HR HNL hnl2
        obtain ⟨val2, X2, A2, c2, l2, rfl, T2, R2, L2⟩ := hcut
        have SH2 := Aside0.mk (rep_short T2.out.tr.tr (l := l2) (by rw [T2.out.tr.vl]; exact R2.out))
        have GC := Aside0.mk (get_calls g 0 (i * 128 + 128) X2 A3 c3 q wc T2.out.tr.tr (Kd.F_now T2.out.ask) OQ.out)
        have LC := Aside0.mk (fun W (cn : Int) (T : TP w W g g (i * 128 + 128) cn val2 X2 A2 c2 l2 A3 q) => longest_calls g 0 (i * 128 + 128) X2 A3 c3 q W T.tr.tr (Kd.F_now T.ask) OQ.out)
        have RL := Aside0.mk (fun W (cn : Int) (T : TP w W g g (i * 128 + 128) cn val2 X2 A2 c2 l2 A3 q) => ref_longest (c1 := c3) T.ref R2.out (Kd.F_now T.ask) (by rw [HNQ.out]; exact HC3.out) (by have := L2.out; omega) (by have := HQ.out; omega) SH2.out)
        obtain ⟨rr, f1, f2, f3, f4, f5, FC⟩ := ref_find T2.out.ref R2.out (Kd.F_now T2.out.ask) (c1 := c3) (by rw [HNQ.out]; exact HC3.out) (by have := L2.out; omega) (by have := HQ.out; omega)
        simp only [T2.out.tr.vl] at GC LC
        obtain ⟨ln, hln⟩ : ∃ x, (long val2 q q.length).1 = x := ⟨_, rfl⟩
        obtain ⟨lv, hlv⟩ : ∃ x, (long val2 q q.length).2 = x := ⟨_, rfl⟩
        obtain ⟨n2, hn2⟩ : ∃ n, l2.length = n := ⟨_, rfl⟩
        have HN2 := Aside0.mk hn2
        have hn3 : n2 ≤ 41 := by have := L2.out; omega
        have hi40 : i ≤ 40 := by omega
        simp only [hln, hlv, HNQ.out, hn2] at GC LC RL FC
        rw [hn2] at f3 f5 f1 ⊢
        clear f1 hln hlv hn2
        have FC := Aside0.mk FC
        have F5 := Aside0.mk f5
        clear f5
        cases hv : val2 q with
        | none =>
          rw [hv] at GC f2
          have g1 : decide (rr ≥ 0) = false := decide_eq_false (fun h => by have := f2.1 h; cases this)
          have g2 : decide (0 ≤ rr) = false := g1
          have g3 : rr < 0 := by have := of_decide_eq_false g1; omega
          clear f2 hv F5
          simp only [Option.getD, Option.isSome] at GC
          go_wp2_with (first
          | (go_at_call 11; go_loud ((refine GC.out.mono ?_); rintro e w3 ⟨rfl, rfl⟩))
          | (go_at_call 21; go_loud ((refine FC.out.mono ?_); rintro e w4 ⟨rfl, hb⟩; have T4 := Aside0.mk (T2.out.below hb); have B4 := Aside0.mk hb; clear hb))
          | (go_at_call 14; go_loud ((refine (LC.out w4 _ T4.out).mono ?_); rintro e w5 ⟨rfl, hb⟩; have T5 := Aside0.mk (T4.out.below hb); have B5 := Aside0.mk (B4.out.trans (hb.mono B4.out.size)); clear hb))
          | (go_at_call 24; go_loud ((refine (RL.out w5 _ T5.out).mono ?_); rintro e w6 ⟨rfl, hb⟩; have T6 := Aside0.mk (T5.out.below hb); have B6 := Aside0.mk (B5.out.trans (hb.mono B5.out.size)); clear hb))
          | (go_at_call 15; go_loud ((refine (all_told T6.out.tr R2.out (by omega) (by have := L2.out; omega)).mono ?_); rintro e w7 ⟨A7, c7, rfl, hR, hb⟩; have T7 := Aside0.mk (T6.out.below hb); have B7 := Aside0.mk (B6.out.trans (hb.mono B6.out.size)); have R7 := Aside0.mk hR; rw [HN2.out]; clear hR hb))
          | (go_at_call 17; have TC := (told_calls A7 c7 l2 _ _ w7 R7.out (by have := L2.out; omega)); rw [HN2.out] at TC; go_loud ((refine TC.mono ?_); rintro e w8 ⟨A8, c8, rfl, h8, hC, hb⟩; have T8 := Aside0.mk (T7.out.below hb); have B8 := Aside0.mk (B7.out.trans (hb.mono B7.out.size)); have C8 := Aside0.mk (And.intro h8 hC); clear h8 hC hb TC))
          | (go_at_call 16; have SC := (same_calls A8 A2 c8 c2 l2 w8 C8.out.2 (by rw [HN2.out]; exact C8.out.1) (RefAt.read (l := l2) T8.out.ref).1 (RefAt.read (l := l2) T8.out.ref).2 (by have := L2.out; omega) SH2.out); rw [HN2.out] at SC; go_loud ((refine SC.mono ?_); rintro e w9 ⟨rfl, hb⟩; have T9 := Aside0.mk (T8.out.below hb); have B9 := Aside0.mk (B8.out.trans (hb.mono B8.out.size)); clear hb SC))
          | (go_at_call 12; have CC := (count_calls g 0 l2.length w9 T9.out.tr.ct); rw [HN2.out] at CC; go_loud ((refine CC.mono ?_); rintro e w10 ⟨rfl, rfl⟩; clear CC)))
          go_roundg k
          case measure => omega
          case rel => exact ⟨i + 1, val2, X2, A2, c2, l2, by rw [HN2.out], by go_num, ⟨by have := HJ.out; omega⟩, ⟨by have h := T9.out; rwa [show i * 128 + 128 = (i + 1) * 128 by omega] at h⟩, R2, L2⟩
        | some u =>
          rw [hv] at GC f2
          obtain ⟨j, hrj, hjl, hje⟩ := F5.out u hv
          have g1 : decide (rr ≥ 0) = true := decide_eq_true (f2.2 rfl)
          have g2 : decide (0 ≤ rr) = true := g1
          subst hrj
          clear f2 hv F5
          have FS := Kd.V_F T2.out.ref
          rw [← show (l2.map toT).length = l2.length from List.length_map ..] at FS
          obtain ⟨ad2, A02, c02, e0, x0, x1, _, _, _⟩ := at_told_F FS j (by rw [HN2.out]; exact hjl)
          subst e0
          rw [hje] at x1
          have j1 : 0 ≤ (j : Int) := by omega
          have j2 : (j : Int) < (n2 : Int) := by omega
          simp only [Option.getD, Option.isSome] at GC
          clear FS x0 hje
          go_wp2_with (first
          | (go_at_call 11; go_loud ((refine GC.out.mono ?_); rintro e w3 ⟨rfl, rfl⟩))
          | (go_at_call 21; go_loud ((refine FC.out.mono ?_); rintro e w4 ⟨rfl, hb⟩; have T4 := Aside0.mk (T2.out.below hb); have B4 := Aside0.mk hb; clear hb))
          | (go_at_call 14; go_loud ((refine (LC.out w4 _ T4.out).mono ?_); rintro e w5 ⟨rfl, hb⟩; have T5 := Aside0.mk (T4.out.below hb); have B5 := Aside0.mk (B4.out.trans (hb.mono B4.out.size)); clear hb))
          | (go_at_call 24; go_loud ((refine (RL.out w5 _ T5.out).mono ?_); rintro e w6 ⟨rfl, hb⟩; have T6 := Aside0.mk (T5.out.below hb); have B6 := Aside0.mk (B5.out.trans (hb.mono B5.out.size)); clear hb))
          | (go_at_call 15; go_loud ((refine (all_told T6.out.tr R2.out (by omega) (by have := L2.out; omega)).mono ?_); rintro e w7 ⟨A7, c7, rfl, hR, hb⟩; have T7 := Aside0.mk (T6.out.below hb); have B7 := Aside0.mk (B6.out.trans (hb.mono B6.out.size)); have R7 := Aside0.mk hR; rw [HN2.out]; clear hR hb))
          | (go_at_call 17; have TC := (told_calls A7 c7 l2 _ _ w7 R7.out (by have := L2.out; omega)); rw [HN2.out] at TC; go_loud ((refine TC.mono ?_); rintro e w8 ⟨A8, c8, rfl, h8, hC, hb⟩; have T8 := Aside0.mk (T7.out.below hb); have B8 := Aside0.mk (B7.out.trans (hb.mono B7.out.size)); have C8 := Aside0.mk (And.intro h8 hC); clear h8 hC hb TC))
          | (go_at_call 16; have SC := (same_calls A8 (some ad2) c8 c2 l2 w8 C8.out.2 (by rw [HN2.out]; exact C8.out.1) (RefAt.read (l := l2) T8.out.ref).1 (RefAt.read (l := l2) T8.out.ref).2 (by have := L2.out; omega) SH2.out); rw [HN2.out] at SC; go_loud ((refine SC.mono ?_); rintro e w9 ⟨rfl, hb⟩; have T9 := Aside0.mk (T8.out.below hb); have B9 := Aside0.mk (B8.out.trans (hb.mono B8.out.size)); have x2 := pw_cell_below B9.out x1; clear hb SC))
          | (go_at_call 12; have CC := (count_calls g 0 l2.length w9 T9.out.tr.ct); rw [HN2.out] at CC; go_loud ((refine CC.mono ?_); rintro e w10 ⟨rfl, rfl⟩; clear CC)))
          go_roundg k
          case measure => omega
          case rel => exact ⟨i + 1, val2, X2, some ad2, c2, l2, by rw [HN2.out], by go_num, ⟨by have := HJ.out; omega⟩, ⟨by have h := T9.out; rwa [show i * 128 + 128 = (i + 1) * 128 by omega] at h⟩, R2, L2⟩
    | zero =>
      have b1 : decide (i < n0) = false ∨ (decide (i < n0) = true ∧ decide ((i : Int) < 40) = false ∧ decide (i < 40) = false) := by
        by_cases h1 : i < n0
        · exact .inr ⟨decide_eq_true h1, decide_eq_false (by omega), decide_eq_false (by omega)⟩
        · exact .inl (decide_eq_false h1)
      clear hj hm
      rcases b1 with b1 | ⟨b1, b2, b3⟩
      all_goals (
        go_wp2
        go_ret
        exact ⟨rfl, BW.out⟩)
end Go.Proofs.Ytfnogcppbhggpaa.OTPlays
