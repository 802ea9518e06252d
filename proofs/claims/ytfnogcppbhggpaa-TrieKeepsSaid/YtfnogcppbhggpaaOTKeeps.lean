/- TrieKeeps, walked by hand. -/
import Derived.Test.YtfnogcppbhggpaaOTT2
set_option linter.unusedVariables false
set_option linter.unusedSimpArgs false
namespace Go.Proofs.Ytfnogcppbhggpaa.OTKeeps
open Go.RowKit Go.Proofs.YtfnogcppbhggpaaW.PrintWords Go.Proofs.YtfnogcppbhggpaaW.PrintLast Go.Proofs.YtfnogcppbhggpaaW.PrintMore Go.Proofs.Ytfnogcppbhggpaa.GQ Go.Proofs.Ytfnogcppbhggpaa.OMap Go.Proofs.Ytfnogcppbhggpaa.UTrie Go.Proofs.Ytfnogcppbhggpaa.UTold Go.Proofs.Ytfnogcppbhggpaa.OTrie Go.Maps
/-- All's rows while their numbers are written over: each row's head, and that it is a row of numbers. -/
structure Rows (W : World) (gr S1 : Nat) (L : List Ent) (hv : Nat → Value) : Prop where
  head : ∀ q, q < L.length → W.cell? ⟨gr, q * 2, none⟩ = some (hv q) ∧ W.cell? ⟨gr, q * 2 + 1, none⟩ = some (.int .i64 (eAt L q).2)
  row : ∀ q, q < L.length → ∃ A c l', hv q = .slice A (eAt L q).1.length c ∧ l'.length = (eAt L q).1.length ∧ kI.R 3 W S1 (fun k => k ≠ gr) (hv q) l'
theorem Rows.below {W W' : World} {gr S1 : Nat} {L : List Ent} {hv : Nat → Value} (h : Rows W gr S1 L hv) (hb : Below W.heap.size W W') : Rows W' gr S1 L hv :=
  ⟨fun q hq => ⟨pw_cell_below hb (h.head q hq).1, pw_cell_below hb (h.head q hq).2⟩, fun q hq => by
    obtain ⟨A, c, l', h1, h2, h3⟩ := h.row q hq
    exact ⟨A, c, l', h1, h2, Kd.R_below h3 hb⟩⟩
theorem Rows.set {W : World} {gr S1 k0 j : Nat} {L : List Ent} {hv : Nat → Value} {cs : Array Value} (h : Rows W gr S1 L hv) (hk : W.heap[k0]? = some (.cells cs 3 (0, 0))) (hne : k0 ≠ gr) (x : Int) : Rows (W.setCell ⟨k0, j, none⟩ (.int .i64 x)) gr S1 L hv :=
  ⟨fun q hq => ⟨(cell_far (p := ⟨k0, j, none⟩) (a := ⟨gr, _, none⟩) (fun e : gr = k0 => hne e.symm) _).trans (h.head q hq).1, (cell_far (p := ⟨k0, j, none⟩) (a := ⟨gr, _, none⟩) (fun e : gr = k0 => hne e.symm) _).trans (h.head q hq).2⟩, fun q hq => by
    obtain ⟨A, c, l', h1, h2, h3⟩ := h.row q hq
    obtain ⟨l2, e1, e2⟩ := R_any (j := j) x h3 hk
    exact ⟨A, c, l2, h1, e1.trans h2, e2⟩⟩
/-- What All answers, so told. -/
theorem rows_of {w W : World} {A : Option Addr} {c : Nat} {L : List Ent} (h : kE.R 44 W w.heap.size (fun _ => True) (.slice A L.length c) L) (hp : 0 < L.length) : ∃ gr hv, A = some ⟨gr, 0, none⟩ ∧ w.heap.size ≤ gr ∧ Rows W gr w.heap.size L hv := by
  obtain ⟨inner, ho⟩ := Kd.R_own h
  rcases ho.2 with ⟨e, hz⟩ | ⟨gr, cap, cur, e, hg, _⟩
  · omega
  · injection e with e1 _ _
    subst e1
    have key : ∀ q, q < L.length → ∃ v0, W.cell? ⟨gr, q * 2, none⟩ = some v0 ∧ W.cell? ⟨gr, q * 2 + 1, none⟩ = some (.int .i64 (eAt L q).2) ∧ kI.R 3 W w.heap.size (fun k => k ≠ gr) v0 (eAt L q).1 := fun q hq => by
      obtain ⟨cs, _, hM, hcell, _⟩ := Kd.R_elem h ([], 0) (q : Int) (by omega) (by omega)
      rw [Int.toNat_natCast] at hM hcell
      have hM : kE.M W w.heap.size _ (eAt L q) cs := hM
      obtain ⟨v0, rfl, hT⟩ := kE_openM hM
      exact ⟨v0, hcell 0 _ rfl, hcell 1 _ rfl, Kd.R_mono hT (fun k hk => hk.2)⟩
    refine ⟨gr, fun q => (W.cell? ⟨gr, q * 2, none⟩).getD undef, rfl, hg, fun q hq => ?_, fun q hq => ?_⟩
    · obtain ⟨v0, h1, h2, h3⟩ := key q hq
      exact ⟨by show _ = some ((W.cell? ⟨gr, q * 2, none⟩).getD undef); rw [h1]; rfl, h2⟩
    · obtain ⟨v0, h1, h2, h3⟩ := key q hq
      obtain ⟨A', c', e2⟩ := Kd.R_slice h3
      refine ⟨A', c', (eAt L q).1, ?_, rfl, ?_⟩
      · show (W.cell? ⟨gr, q * 2, none⟩).getD undef = _
        rw [h1]; exact e2
      · show kI.R 3 W w.heap.size (fun k => k ≠ gr) ((W.cell? ⟨gr, q * 2, none⟩).getD undef) _
        rw [h1]; exact h3
open Classical in
/-- The law's answer within the row's bounds. -/
noncomputable def tillerlaw13_TrieKeeps.f (l0 : List (List Int)) : Option Bool := if ∀ x ∈ l0, okL x then some true else none
set_option maxHeartbeats 32000000 in
set_option maxRecDepth 100000 in
theorem tillerlaw13_TrieKeeps.calls (A0 : Option Addr) (c0 : Nat) (l0 : List (List Int)) (r : Bool) (w : World) (hr0 : Kd.C kL w A0 l0.length l0) (hc0 : l0.length ≤ c0) (hr_ : Aside0 (r = true)) (h : tillerlaw13_TrieKeeps.f l0 = some r) :
    Calls Try.prog 5 #[.slice A0 l0.length c0] w fun e w' => e = .returned (.bool r) ∧ Below w.heap.size w w' := by
  obtain ⟨hr⟩ := hr_
  subst hr
  have OK := Aside0.mk (show ∀ x ∈ l0, okL x by
    unfold tillerlaw13_TrieKeeps.f at h
    by_cases e : ∀ x ∈ l0, okL x
    · exact e
    · rw [if_neg e] at h; cases h)
  have R0 := Aside0.mk hr0
  obtain ⟨n0, hn0⟩ : ∃ n, l0.length = n := ⟨_, rfl⟩
  have HN0 := Aside0.mk hn0
  obtain ⟨M0, hM0⟩ : ∃ M : Nat, M = min n0 20 := ⟨_, rfl⟩
  have HM0 := Aside0.mk hM0
  rw [hn0]
  clear h hr0 hc0 hn0 hM0
  have ST := Aside0.mk (T2.zero w)
  go_enter Try.func5, Try.ntmps5
  go_upto_region 2 with (fail)
  generalize (w.alloc (.cells zcells 27 (0, 0))).alloc (.cells zcells 27 (0, 0)) = w1 at ST ⊢
  generalize hg2 : w.heap.size + 1 = g2 at ST ⊢
  clear hg2
  generalize hg : w.heap.size = g at ST ⊢
  have HG := Aside0.mk hg
  clear hg
  go_wp2
  go_loopg [5] M0 (fun kq v5 w' => ∃ (i : Nat) (X1 X2 : TX) (cnt : Int) (val : Row → Option Int), v5 = .int .i64 (i : Int) ∧ Aside0 (i + kq = M0) ∧ Aside0 (hasL val cnt i) ∧ Aside0 (T2 w w' g g2 g (i * 256) cnt cnt val val X1 X2))
  case atStart => exact ⟨0, _, _, 0, _, rfl, ⟨Nat.zero_add _⟩, ⟨hasL_zero⟩, ST⟩
  case round =>
    obtain ⟨i, X1, X2, cnt, val, rfl, HJ, HL, TT⟩ := hrel
    have hj := HJ.out
    have hm := HM0.out
    have BW := Aside0.mk (show Below w.heap.size w wr by rw [HG.out]; exact TT.out.bel)
    cases gk with
    | succ k =>
      have e1 : decide (i < n0) = true := decide_eq_true (by omega)
      have e2 : decide (i < 20) = true := decide_eq_true (by omega)
      have e3 : decide ((i : Int) < 20) = true := decide_eq_true (by omega)
      have p1 : 0 ≤ (i : Int) := by omega
      have q1 : (i : Int) < (n0 : Int) := by omega
      have q2 : (i : Int) ≤ 20 := by omega
      obtain ⟨ad, A', c', e0, hx0, hl0, hC0⟩ := at_row (Kd.C_below R0.out BW.out) i (by rw [HN0.out]; omega)
      cases e0
      have OR := Aside0.mk (okL_take (OK.out _ (row_mem l0 i (by rw [HN0.out]; omega))) 140)
      have FC := Aside0.mk (few_calls A' c' (row l0 i) 140 (by omega) wr hC0 hl0)
      obtain ⟨t, ht⟩ : ∃ t, (row l0 i).take 140 = t := ⟨_, rfl⟩
      have HT := Aside0.mk ht
      obtain ⟨nr, hnr⟩ : ∃ nr, (row l0 i).length = nr := ⟨_, rfl⟩
      have HNR := Aside0.mk hnr
      obtain ⟨nt, hnt⟩ : ∃ nt, t.length = nt := ⟨_, rfl⟩
      have HNT := Aside0.mk hnt
      have hnt2 : nt ≤ 140 := by rw [← hnt, ← ht]; exact List.length_take_le _ _
      have BD := Aside0.mk (show i * 256 ≤ 1000000 ∧ 0 ≤ cnt ∧ cnt ≤ 1000 by have := HL.out.range; omega)
      rw [ht] at FC OR
      rw [hnr, hnt] at FC
      rw [hnr] at hx0
      clear hj hm hl0 hC0 ht hnr hnt
      go_upto_region 7 with (first
        | (go_at_call 13; go_loud ((refine FC.out.mono ?_); rintro e w3 ⟨A3, c3, rfl, hR, hb⟩; have R3 := Aside0.mk (Kd.R_mono (ok' := fun k => wr.heap.size ≤ k ∧ k < w3.heap.size) (Kd.R_bound hR) (fun k hk => ⟨hk.2.1, hk.2.2.1⟩)); have F3 := fresh_F (c := c3) TT.out.a.tr (by rw [HNT.out]; exact hR); rw [HNT.out] at F3; have F3 := Aside0.mk F3; have T3 := Aside0.mk (TT.out.below hb); clear hR hb))
        | (go_at_call 10; go_loud ((refine (show Calls _ _ #[_, .slice A3 nt c3, _] _ _ from HNT.out ▸ put_calls g 0 (i * 256) X1 A3 c3 t (i : Int) cnt w3 T3.out.a.tr T3.out.a.ct (by rw [HNT.out]; exact F3.out) OR.out (by have := BD.out; omega) (by have := BD.out; omega)).mono ?_); rw [T3.out.a.vl]; rintro e w4 ⟨rfl, d⟩; obtain ⟨X4, t4, p4⟩ := T3.out.first (N' := i * 256 + 128) (by omega) d; have T4 := Aside0.mk t4; have P4 := Aside0.mk p4; clear d t4 p4)))
      have R4 := Aside0.mk (Kd.R_kept R3.out P4.out.kept (fun k hk hf => by have := foot_lt TT.out.a.tr hf; omega))
      have BW4 := Aside0.mk (show Below w.heap.size w w4 by rw [HG.out]; exact T4.out.bel)
      obtain ⟨ad4, A4, c4, e0, hx4, hl4, hC4⟩ := at_row (Kd.C_below R0.out BW4.out) i (by rw [HN0.out]; omega)
      cases e0
      have FC4 := Aside0.mk (few_calls A4 c4 (row l0 i) 140 (by omega) w4 hC4 hl4)
      rw [HT.out, HNR.out] at FC4
      rw [HNR.out] at hx4
      clear hx0 hl4 hC4
      go_upto_region 8 with (first
        | (go_at_call 13; go_loud ((refine FC4.out.mono ?_); rintro e w5 ⟨A5, c5, rfl, hR, hb⟩; have F5 := Aside0.mk (fresh_F T4.out.b.tr hR); have T5 := Aside0.mk (T4.out.below hb); have R5 := Aside0.mk (Kd.R_below R4.out hb); have S45 := Aside0.mk hb.size; clear hR hb))
        | (go_at_call 10; go_loud ((refine (put_calls g2 0 (i * 256 + 128) X2 A5 c5 t (i : Int) cnt w5 T5.out.b.tr T5.out.b.ct F5.out OR.out (by have := BD.out; omega) (by have := BD.out; omega)).mono ?_); rw [T5.out.b.vl]; rintro e w6 ⟨rfl, d⟩; obtain ⟨X6, t6, p6⟩ := T5.out.second (N' := i * 256 + 128 + 128) (by omega) d; have T6 := Aside0.mk t6; have P6 := Aside0.mk p6; clear d t6 p6)))
      have R6 := Aside0.mk (Kd.R_kept R5.out P6.out.kept (fun k hk hf => by have := foot_lt TT.out.b.tr hf; omega))
      have FAR := Aside0.mk (show ∀ k, (wr.heap.size ≤ k ∧ k < w3.heap.size) → ¬ foot X4 k ∧ ¬ foot X6 k ∧ g ≤ k from fun k hk => by
        have h34 := P4.out.kept.1
        have h5 := T5.out.le
        refine ⟨fun hf => ?_, fun hf => ?_, ?_⟩
        · rcases P4.out.foot k hf with q | q
          · have := foot_lt TT.out.a.tr q; omega
          · omega
        · rcases P6.out.foot k hf with q | q
          · have := foot_lt TT.out.b.tr q; omega
          · have h56 := R5.out
            have hsz : w4.heap.size ≤ w5.heap.size := by
              have := S45.out
              exact this
            omega
        · have := TT.out.le; omega)
      have E6 := Aside0.mk (And.intro HL.out.range HL.out)
      generalize wr.heap.size = S0 at R6 FAR
      clear FC4 hx4 FC R3 F3 T3 T4 P4 R4 BW4 T5 F5 R5 P6 S45
      go_wp2
      go_loopg [38] nt (fun kq v38 w' => ∃ (m : Nat) (l' : List Int), v38 = .int .i64 (m : Int) ∧ Aside0 (m + kq = nt) ∧ Aside0 (l'.length = nt ∧ kI.R 3 w' S0 (fun k => S0 ≤ k ∧ k < w3.heap.size) (.slice A3 nt c3) l') ∧ Aside0 (T2 w w' g g2 g (i * 256 + 128 + 128) (tPut val cnt t (i : Int)).2.1 (tPut val cnt t (i : Int)).2.1 (tPut val cnt t (i : Int)).1 (tPut val cnt t (i : Int)).1 X4 X6))
      case atStart => exact ⟨0, t, rfl, ⟨Nat.zero_add _⟩, ⟨HNT.out, R6.out⟩, T6⟩
      case round =>
        clear T6 R6
        obtain ⟨m, l', rfl, HJ2, RR, T7⟩ := hrel
        have hj := HJ2.out
        cases gk with
        | succ k2 =>
          have d1 : decide (m < nt) = true := decide_eq_true (by omega)
          have s1 : 0 ≤ (m : Int) := by omega
          have s2 : (m : Int) < (nt : Int) := by omega
          have s3 : (nt : Int) ≤ 140 := by omega
          obtain ⟨gr, cs, eA, hok, _, hblk, x, hcx, hfz⟩ := R_cell RR.out.2 m (by omega)
          subst eA
          have BLK := Aside0.mk hblk
          have OKG := Aside0.mk (FAR.out gr hok)
          clear hj hok hblk
          go_wp2
          go_roundg k2
          case measure => omega
          case rel =>
            obtain ⟨l2, h1, h2⟩ := R_any (j := m) _ RR.out.2 BLK.out
            exact ⟨m + 1, l2, by go_num, ⟨by have := HJ2.out; omega⟩, ⟨h1.trans RR.out.1, h2⟩, ⟨T7.out.set _ OKG.out.1 OKG.out.2.1 OKG.out.2.2⟩⟩
        | zero =>
          have hin : m = nt := by omega
          subst hin
          have d1 : decide (m < m) = false := decide_eq_false (by omega)
          clear hj
          go_wp2
          go_roundg k
          case measure => omega
          case rel => exact ⟨i + 1, X4, X6, _, _, by go_num, ⟨by have := HJ.out; omega⟩, ⟨HL.out.put t (i : Int)⟩, ⟨by have h := T7.out; rwa [show i * 256 + 128 + 128 = (i + 1) * 256 by omega] at h⟩⟩
    | zero =>
      have b1 : decide (i < n0) = false ∨ (decide (i < n0) = true ∧ decide ((i : Int) < 20) = false ∧ decide (i < 20) = false) := by
        by_cases h1 : i < n0
        · exact .inr ⟨decide_eq_true h1, decide_eq_false (by omega), decide_eq_false (by omega)⟩
        · exact .inl (decide_eq_false h1)
      have TT := Aside0.mk (TT.out.more (show i * 256 ≤ 5120 by omega))
      obtain ⟨l, hrep, hcnt, hlen⟩ := HL.out
      have LR := Aside0.mk hrep
      have LL := Aside0.mk (show l.length ≤ 20 by omega)
      have LS := Aside0.mk (rep_short TT.out.b.tr (l := l) (by rw [TT.out.b.vl]; exact hrep))
      have AC := Aside0.mk (all_told TT.out.a hrep (by omega) (by omega))
      obtain ⟨nl, hnl⟩ : ∃ nl, l.length = nl := ⟨_, rfl⟩
      have HNL := Aside0.mk hnl
      have hnl2 : nl ≤ 20 := by rw [← hnl]; exact LL.out
      clear hj hm hrep hcnt hlen HL BW hnl
      rcases b1 with b1 | ⟨b1, b2, b3⟩
      all_goals (
        go_wp2_with (go_at_call 15; go_loud ((refine AC.out.mono ?_); rintro e w3 ⟨A3, c3, rfl, hR, hb⟩; have T3 := Aside0.mk (TT.out.below hb); have RA := Aside0.mk hR; have SZ := Aside0.mk hb.size; rw [HNL.out]; clear hR hb))
        have RW : 0 < nl → ∃ gr hv, A3 = some ⟨gr, 0, none⟩ ∧ wr.heap.size ≤ gr ∧ Rows w3 gr wr.heap.size l hv := fun hp => rows_of RA.out (by rw [HNL.out]; exact hp)
        have FT := Aside0.mk (show ∀ k, wr.heap.size ≤ k → ¬ foot X1 k ∧ ¬ foot X2 k ∧ g ≤ k from fun k hk => ⟨fun hf => by have := foot_lt TT.out.a.tr hf; omega, fun hf => by have := foot_lt TT.out.b.tr hf; omega, Nat.le_trans TT.out.le hk⟩)
        clear AC RA SZ TT
        generalize wr.heap.size = S1 at RW FT
        obtain ⟨gr, hv, RW⟩ : ∃ gr hv, Aside0 (0 < nl → A3 = some ⟨gr, 0, none⟩ ∧ S1 ≤ gr ∧ Rows w3 gr S1 l hv) := by
          by_cases hp : 0 < nl
          · obtain ⟨gr, hv, h1, h2, h3⟩ := RW hp
            exact ⟨gr, hv, ⟨fun _ => ⟨h1, h2, h3⟩⟩⟩
          · exact ⟨0, fun _ => undef, ⟨fun h => absurd h hp⟩⟩
        go_loopg [50] nl (fun kq v50 w' => ∃ (m : Nat), v50 = .int .i64 (m : Int) ∧ Aside0 (m + kq = nl) ∧ Aside0 (0 < nl → A3 = some ⟨gr, 0, none⟩ ∧ S1 ≤ gr ∧ Rows w' gr S1 l hv) ∧ Aside0 (T2 w w' g g2 g 5120 cnt cnt val val X1 X2))
        case atStart => exact ⟨0, rfl, ⟨Nat.zero_add _⟩, RW, T3⟩
        case round =>
          clear RW T3
          obtain ⟨m, rfl, HJ2, RW, T3⟩ := hrel
          have hj := HJ2.out
          cases gk with
          | succ k2 =>
            have d1 : decide (m < nl) = true := decide_eq_true (by omega)
            have s1 : 0 ≤ (m : Int) := by omega
            have s2 : (m : Int) < (nl : Int) := by omega
            have s3 : (nl : Int) ≤ 20 := by omega
            obtain ⟨e3, hgr, hRW⟩ := RW.out (by omega)
            subst e3
            obtain ⟨k0, k1⟩ := hRW.head m (by rw [HNL.out]; omega)
            obtain ⟨A5, c5, l5, ehv, hl5, hR5⟩ := hRW.row m (by rw [HNL.out]; omega)
            have RWS := Aside0.mk (hRW.below (below_alloc (Below.refl _ _) (.cells #[hv m, .int .i64 (eAt l m).2] 44 (0, 0))))
            have R5 := Aside0.mk (Kd.R_below hR5 (below_alloc (Below.refl _ _) (.cells #[hv m, .int .i64 (eAt l m).2] 44 (0, 0))))
            have LE5 := Aside0.mk hl5
            have T4 := Aside0.mk (T3.out.below (below_alloc (Below.refl _ _) (.cells #[hv m, .int .i64 (eAt l m).2] 44 (0, 0))))
            have EB := Aside0.mk (blk_new wr (.cells #[hv m, .int .i64 (eAt l m).2] 44 (0, 0)))
            have HGR := Aside0.mk hgr
            rw [ehv] at k0 RWS R5 T4 EB
            have hs5 : (eAt l m).1.length ≤ 128 := LS.out _ (eAt_mem (by rw [HNL.out]; omega))
            have EHV := Aside0.mk ehv
            obtain ⟨nt, hnt⟩ : ∃ nt, (eAt l m).1.length = nt := ⟨_, rfl⟩
            obtain ⟨ev, hev⟩ : ∃ ev, (eAt l m).2 = ev := ⟨_, rfl⟩
            rw [hnt] at k0 R5 LE5 RWS T4 EB hs5
            rw [hev] at k1 RWS R5 T4 EB
            clear hj hRW hR5 hl5 hgr ehv hnt hev
            go_upto_region 16 with (fail)
            clear k0 k1
            generalize hEE : wr.alloc (.cells #[.slice A5 nt c5, .int .i64 ev] 44 (0, 0)) = w5 at RWS R5 T4 EB ⊢
            generalize wr.heap.size = E at EB ⊢
            clear hEE
            have y0 := (blk_cell EB.out 0).trans (show #[Value.slice A5 nt c5, .int .i64 ev][0]? = some (Value.slice A5 nt c5) from rfl)
            go_wp2
            clear y0
            go_loopg [57] nt (fun kq v57 w' => ∃ (q : Nat) (l' : List Int), v57 = .int .i64 (q : Int) ∧ Aside0 (q + kq = nt) ∧ Aside0 (l'.length = nt ∧ kI.R 3 w' S1 (fun k => k ≠ gr) (.slice A5 nt c5) l') ∧ Aside0 (Rows w' gr S1 l hv) ∧ Aside0 (T2 w w' g g2 g 5120 cnt cnt val val X1 X2) ∧ Aside0 (w'.heap[E]? = some (.cells #[.slice A5 nt c5, .int .i64 ev] 44 (0, 0))))
            case atStart => exact ⟨0, l5, rfl, ⟨Nat.zero_add _⟩, ⟨LE5.out, R5.out⟩, RWS, T4, EB⟩
            case round =>
              clear R5 RWS T4 EB LE5
              obtain ⟨q, l', rfl, HJ3, RR, RWS, T4, EB⟩ := hrel
              have hj := HJ3.out
              cases gk with
              | succ k3 =>
                have d2 : decide (q < nt) = true := decide_eq_true (by omega)
                have s4 : 0 ≤ (q : Int) := by omega
                have s5 : (q : Int) < (nt : Int) := by omega
                have s6 : (nt : Int) ≤ 128 := by omega
                obtain ⟨gB, cs, eA, hok, hba, hblk, x, hcx, hfz⟩ := R_cell RR.out.2 q (by omega)
                subst eA
                have BLK := Aside0.mk hblk
                have OKG := Aside0.mk (FT.out gB hba)
                have NGR := Aside0.mk hok
                have NE := Aside0.mk (blk_ne EB.out hblk (by decide))
                have y0 := (blk_cell EB.out 0).trans (show #[Value.slice (some ⟨gB, 0, none⟩) nt c5, .int .i64 ev][0]? = some (Value.slice (some ⟨gB, 0, none⟩) nt c5) from rfl)
                clear hj hok hba hblk
                go_wp2
                go_roundg k3
                case measure => omega
                case rel =>
                  obtain ⟨l2, h1, h2⟩ := R_any (j := q) _ RR.out.2 BLK.out
                  exact ⟨q + 1, l2, by go_num, ⟨by have := HJ3.out; omega⟩, ⟨h1.trans RR.out.1, h2⟩, ⟨RWS.out.set BLK.out NGR.out _⟩, ⟨T4.out.set _ OKG.out.1 OKG.out.2.1 OKG.out.2.2⟩, ⟨blk_far (p := ⟨gB, q, none⟩) EB.out NE.out _⟩⟩
              | zero =>
                have hin : q = nt := by omega
                subst hin
                have d2 : decide (q < q) = false := decide_eq_false (by omega)
                have y0 := (blk_cell EB.out 0).trans (show #[Value.slice A5 q c5, .int .i64 ev][0]? = some (Value.slice A5 q c5) from rfl)
                clear hj
                go_wp2
                go_roundg k2
                case measure => omega
                case rel => exact ⟨m + 1, by go_num, ⟨by have := HJ2.out; omega⟩, ⟨fun _ => ⟨by first | rfl | trivial, HGR.out, RWS.out⟩⟩, T4⟩
          | zero =>
            have hin : m = nl := by omega
            subst hin
            have d1 : decide (m < m) = false := decide_eq_false (by omega)
            clear hj
            go_wp2_with (first
              | (go_at_call 16; go_loud ((refine (same_calls A7 A9 c7 c9 l w9 (Kd.C_below C7.out B9.out) L7.out C9.out L9.out (by have := LL.out; omega) LS.out).mono ?_); rintro e w10 ⟨rfl, hb⟩; have T10 := Aside0.mk (T9.out.below hb); clear hb))
              | (go_at_call 17; (with_reducible refine (told_calls A8 c8 l _ _ w8 R8.out (by have := LL.out; omega)).mono ?_); rintro e w9 ⟨A9, c9, rfl, hle, hC, hb⟩; have T9 := Aside0.mk (T8.out.below hb); have L9 := Aside0.mk hle; have C9 := Aside0.mk hC; have B9 := Aside0.mk (B8.out.trans (hb.mono B8.out.size)); clear hle hC hb)
              | (go_at_call 15; (with_reducible refine (all_told T7.out.b LR.out (by omega) (by have := LL.out; omega)).mono ?_); rintro e w8 ⟨A8, c8, rfl, hR, hb⟩; have T8 := Aside0.mk (T7.out.below hb); have R8 := Aside0.mk hR; have B8 := Aside0.mk hb; clear hR hb)
              | (go_at_call 17; (with_reducible refine (told_calls A6 c6 l _ _ w6 R6.out (by have := LL.out; omega)).mono ?_); rintro e w7 ⟨A7, c7, rfl, hle, hC, hb⟩; have T7 := Aside0.mk (T6.out.below hb); have L7 := Aside0.mk hle; have C7 := Aside0.mk hC; clear hle hC hb)
              | (go_at_call 15; go_loud ((refine (all_told T5.out.a LR.out (by omega) (by have := LL.out; omega)).mono ?_); rintro e w6 ⟨A6, c6, rfl, hR, hb⟩; have T6 := Aside0.mk (T5.out.below hb); have R6 := Aside0.mk hR; clear hR hb))
              | (go_at_call 9; go_loud ((refine (awake_calls _).mono ?_); rintro e w5 ⟨rfl, hb⟩; have T5 := Aside0.mk (T3.out.below hb); clear hb)))
            go_ret
            exact ⟨rfl, by rw [HG.out]; exact T10.out.bel⟩)
end Go.Proofs.Ytfnogcppbhggpaa.OTKeeps
