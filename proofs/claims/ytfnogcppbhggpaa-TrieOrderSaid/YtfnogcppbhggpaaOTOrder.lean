/- TrieOrder, walked by hand. -/
import Derived.Test.YtfnogcppbhggpaaOTOrder0
import Derived.Test.YtfnogcppbhggpaaOTLess
set_option linter.unusedVariables false
set_option linter.unusedSimpArgs false
namespace Go.Proofs.Ytfnogcppbhggpaa.OTOrder
open Go.RowKit Go.Proofs.YtfnogcppbhggpaaW.PrintWords Go.Proofs.YtfnogcppbhggpaaW.PrintLast Go.Proofs.YtfnogcppbhggpaaW.PrintMore Go.Proofs.Ytfnogcppbhggpaa.GQ Go.Proofs.Ytfnogcppbhggpaa.OMap Go.Proofs.Ytfnogcppbhggpaa.UTrie Go.Proofs.Ytfnogcppbhggpaa.UTold Go.Proofs.Ytfnogcppbhggpaa.OTrie Go.Maps
theorem ls_next {W : World} {b : Nat} {ok : Nat → Prop} {v : Value} {l : List (List Int)} {i : Nat} (h : kL.R 31 W b ok v (Ls l i ++ [(row l i).take 140])) (hi : i < l.length) : ∃ A c, v = .slice A (i + 1) c ∧ kL.R 31 W b ok (.slice A (i + 1) c) (Ls l (i + 1)) := by
  rw [← Ls_succ l i hi] at h
  obtain ⟨A, c, rfl⟩ := Kd.R_slice h
  rw [Ls_length l (i + 1) (by omega)] at h ⊢
  exact ⟨A, c, rfl, h⟩
theorem kL_M {W : World} {b b' : Nat} {ok : Nat → Prop} {v : Value} {l : List Int} (h : kI.R 3 W b ok v l) (hb : b' ≤ b) : kL.M W b' ok l [v] := ⟨v, rfl, Kd.R_lower h hb⟩
theorem T2.lower {w W W' : World} {g1 g2 lo N S : Nat} {cnt1 cnt2 : Int} {val1 val2 : Row → Option Int} {X1 X2 : TX} (h : T2 w W g1 g2 lo N cnt1 cnt2 val1 val2 X1 X2) (hb : Below S W W') (hs : S ≤ W.heap.size) (hf : ∀ k, foot X1 k ∨ foot X2 k → k < S) : T2 w W' g1 g2 lo N cnt1 cnt2 val1 val2 X1 X2 :=
  ⟨h.a.move (fun k hk => hb.block k (hf k (.inl hk))), h.b.move (fun k hk => hb.block k (hf k (.inr hk))), h.ap, h.bel.trans (hb.mono (by
    have h1 := h.a.lo g1 (foot_root h.a.tr)
    have h2 := hf g1 (.inl (foot_root h.a.tr))
    omega)), Nat.le_trans h.le hb.size⟩
theorem kI_new (W : World) : kI.R 3 (W.alloc (.cells #[] 3)) W.heap.size (fun _ => True) (.slice (some ⟨W.heap.size, 0, none⟩) 0 0) [] :=
  ⟨fun _ _ => trivial, [], World.ownsRow_lit (base := W.heap.size) (e := 3) (size := 1) W #[] 0 (Nat.le_refl _) (by simp [maxLen]) (by simp), Reps.none _ _⟩
/-- Both tries and the rows. -/
structure TL (w W : World) (g g2 S0 S1 N : Nat) (cnt1 cnt2 : Int) (val1 val2 : Row → Option Int) (X1 X2 : TX) (vl : Value) (L : List Row) : Prop where
  t : T2 w W g g2 g N cnt1 cnt2 val1 val2 X1 X2
  r : kL.R 31 W S0 (fun k => S0 ≤ k ∧ k < S1) vl L
  f : ∀ k, foot X1 k ∨ foot X2 k → k < S0 ∨ S1 ≤ k
  s : S1 ≤ W.heap.size
theorem TL.below {w W W' : World} {g g2 S0 S1 N : Nat} {cnt1 cnt2 : Int} {val1 val2 : Row → Option Int} {X1 X2 : TX} {vl : Value} {L : List Row} (h : TL w W g g2 S0 S1 N cnt1 cnt2 val1 val2 X1 X2 vl L) (hb : Below W.heap.size W W') : TL w W' g g2 S0 S1 N cnt1 cnt2 val1 val2 X1 X2 vl L :=
  ⟨h.t.below hb, Kd.R_below h.r hb, h.f, Nat.le_trans h.s hb.size⟩
theorem TL.first {w W W' : World} {g g2 S0 S1 N n : Nat} {cnt1 cnt2 cnt' : Int} {val1 val2 val' : Row → Option Int} {X1 X2 : TX} {vl : Value} {L : List Row} (h : TL w W g g2 S0 S1 N cnt1 cnt2 val1 val2 X1 X2 vl L) {N' : Nat} (hN : N ≤ N') (d : Done n W W' g 0 N' X1 val' cnt') :
    ∃ X1', TL w W' g g2 S0 S1 N' cnt' cnt2 val' val2 X1' X2 vl L := by
  obtain ⟨X1', t, p⟩ := h.t.first hN d
  refine ⟨X1', t, Kd.R_kept h.r p.kept (fun k hk hf => ?_), fun k hk => ?_, Nat.le_trans h.s p.kept.1⟩
  · have := h.f k (.inl hf); omega
  · rcases hk with hk | hk
    · rcases p.foot k hk with q | q
      · exact h.f k (.inl q)
      · have := h.s; right; omega
    · exact h.f k (.inr hk)
theorem TL.second {w W W' : World} {g g2 S0 S1 N n : Nat} {cnt1 cnt2 cnt' : Int} {val1 val2 val' : Row → Option Int} {X1 X2 : TX} {vl : Value} {L : List Row} (h : TL w W g g2 S0 S1 N cnt1 cnt2 val1 val2 X1 X2 vl L) {N' : Nat} (hN : N ≤ N') (d : Done n W W' g2 0 N' X2 val' cnt') :
    ∃ X2', TL w W' g g2 S0 S1 N' cnt1 cnt' val1 val' X1 X2' vl L := by
  obtain ⟨X2', t, p⟩ := h.t.second hN d
  refine ⟨X2', t, Kd.R_kept h.r p.kept (fun k hk hf => ?_), fun k hk => ?_, Nat.le_trans h.s p.kept.1⟩
  · have := h.f k (.inr hf); omega
  · rcases hk with hk | hk
    · exact h.f k (.inl hk)
    · rcases p.foot k hk with q | q
      · exact h.f k (.inr q)
      · have := h.s; right; omega
/-- A row of the law's own, apart from both tries. -/
theorem TL.row {w W : World} {g g2 S0 S1 N : Nat} {cnt1 cnt2 : Int} {val1 val2 : Row → Option Int} {X1 X2 : TX} {A : Option Addr} {n c : Nat} {L : List Row} (h : TL w W g g2 S0 S1 N cnt1 cnt2 val1 val2 X1 X2 (.slice A n c) L) (i : Nat) (hi : i < n) :
    ∃ gl A' c', A = some ⟨gl, 0, none⟩ ∧ W.cell? ⟨gl, i, none⟩ = some (.slice A' (row L i).length c') ∧ Kd.F kI W (away X1) A' (row L i).length (row L i) ∧ Kd.F kI W (away X2) A' (row L i).length (row L i) ∧ Kd.C kI W A' (row L i).length (row L i) ∧ (row L i).length ≤ c' := by
  obtain ⟨gl, A', c', h1, h2, h3⟩ := row_of h.r i hi
  obtain ⟨_, h4, h5⟩ := Kd.R_reads' h3
  exact ⟨gl, A', c', h1, h2, Kd.F_mono (Kd.R_F h3) (fun k hk hf => by have := h.f k (.inl hf); omega), Kd.F_mono (Kd.R_F h3) (fun k hk hf => by have := h.f k (.inr hf); omega), h5, h4⟩
open Classical in
/-- The law's answer within the row's bounds. -/
noncomputable def tillerlaw13_TrieOrder.f (l0 : List (List Int)) : Option Bool := if ∀ x ∈ l0, okL x then some true else none
set_option maxHeartbeats 32000000 in
set_option maxRecDepth 100000 in
theorem tillerlaw13_TrieOrder.calls (A0 : Option Addr) (c0 : Nat) (l0 : List (List Int)) (r : Bool) (w : World) (hr0 : Kd.C kL w A0 l0.length l0) (hc0 : l0.length ≤ c0) (hr_ : Aside0 (r = true)) (h : tillerlaw13_TrieOrder.f l0 = some r) :
    Calls Try.prog 6 #[.slice A0 l0.length c0] w fun e w' => e = .returned (.bool r) ∧ Below w.heap.size w w' := by
  obtain ⟨hr⟩ := hr_
  subst hr
  have OK := Aside0.mk (show ∀ x ∈ l0, okL x by
    unfold tillerlaw13_TrieOrder.f at h
    by_cases e : ∀ x ∈ l0, okL x
    · exact e
    · rw [if_neg e] at h; cases h)
  have R0 := Aside0.mk hr0
  obtain ⟨n0, hn0⟩ : ∃ n, l0.length = n := ⟨_, rfl⟩
  have HN0 := Aside0.mk hn0
  obtain ⟨M0, hM0⟩ : ∃ M : Nat, M = min n0 30 := ⟨_, rfl⟩
  have HM0 := Aside0.mk hM0
  rw [hn0]
  clear h hr0 hc0 hn0 hM0
  have ST := Aside0.mk (T2.zero w)
  go_enter Try.func6, Try.ntmps6
  go_upto_region 2 with (fail)
  generalize hw1 : (w.alloc (.cells zcells 27 (0, 0))).alloc (.cells zcells 27 (0, 0)) = w1 at ST ⊢
  have FT := Aside0.mk (show ∀ k, foot (zX w.heap.size 0) k ∨ foot (zX (w.heap.size + 1) 0) k → k < w1.heap.size from fun k hk => by
    rw [← hw1, World.size_alloc, World.size_alloc]
    rcases hk with hk | hk
    · have := foot_zero hk; omega
    · have := foot_zero hk; omega)
  clear hw1
  generalize hg2 : w.heap.size + 1 = g2 at ST FT ⊢
  clear hg2
  generalize hg : w.heap.size = g at ST FT ⊢
  have HG := Aside0.mk hg
  clear hg
  have LR := Aside0.mk (kL_new w1 (fun _ => True) trivial)
  have ST2 := Aside0.mk (ST.out.below (below_alloc (Below.refl _ _) (.cells #[] 31 (0, 0))))
  have SS := Aside0.mk (show w1.heap.size ≤ (w1.alloc (.cells #[] 31 (0, 0))).heap.size by rw [World.size_alloc]; omega)
  clear ST
  go_upto_region 3 with (fail)
  generalize w1.alloc (.cells #[] 31 (0, 0)) = w2 at LR ST2 SS ⊢
  generalize w1.heap.size = S0 at LR FT SS ⊢
  go_wp2
  go_loopg [5, 6] M0 (fun kq v5 v6 w' => ∃ (i : Nat) (A : Option Addr) (c : Nat), v5 = .slice A i c ∧ v6 = .int .i64 (i : Int) ∧ Aside0 (i + kq = M0) ∧ Aside0 (T2 w w' g g2 g 0 0 0 (fun _ => none) (fun _ => none) (zX g 0) (zX g2 0)) ∧ Aside0 (kL.R 31 w' S0 (fun _ => True) (.slice A i c) (Ls l0 i)) ∧ Aside0 (S0 ≤ w'.heap.size))
  case atStart => exact ⟨0, _, _, rfl, rfl, ⟨Nat.zero_add _⟩, ST2, LR, SS⟩
  case round =>
    obtain ⟨i, A, c, rfl, rfl, HJ, TT, LL, SZ⟩ := hrel
    have hj := HJ.out
    have hm := HM0.out
    have BW := Aside0.mk (show Below w.heap.size w wr by rw [HG.out]; exact TT.out.bel)
    clear LR ST2 SS
    cases gk with
    | succ k =>
      have e1 : decide (i < n0) = true := decide_eq_true (by omega)
      have e2 : decide (i < 30) = true := decide_eq_true (by omega)
      have e3 : decide ((i : Int) < 30) = true := decide_eq_true (by omega)
      have p1 : 0 ≤ (i : Int) := by omega
      have q1 : (i : Int) < (n0 : Int) := by omega
      have q2 : (i : Int) ≤ 30 := by omega
      obtain ⟨ad, A', c', e0, hx0, hl0, hC0⟩ := at_row (Kd.C_below R0.out BW.out) i (by rw [HN0.out]; omega)
      cases e0
      have FC := Aside0.mk (few_calls A' c' (row l0 i) 140 (by omega) wr hC0 hl0)
      obtain ⟨nr, hnr⟩ : ∃ nr, (row l0 i).length = nr := ⟨_, rfl⟩
      obtain ⟨t, ht⟩ : ∃ t, (row l0 i).take 140 = t := ⟨_, rfl⟩
      have HT := Aside0.mk ht
      obtain ⟨nt, hnt⟩ : ∃ nt, t.length = nt := ⟨_, rfl⟩
      rw [ht] at FC
      rw [hnt] at FC
      rw [hnr] at FC hx0
      have LS := Aside0.mk (Ls_length l0 i (by rw [HN0.out]; omega))
      clear hj hm hl0 hC0 hnr ht hnt
      go_wp2_with (first
        | ((with_reducible refine gate_builtin (b := .append) (xs := #[.tmp 29, .tmp 35]) rfl ?_); go_loud ((refine Kd.R_append kL (w0 := w3) S0 rfl (.tmp 29) (.tmp 35) 36 31 (.slice none 0 0) 24 rfl Try.underlying36 infoL rfl (by decide) (by omega) (.slice A i c) (Ls l0 i) t [.slice A3 nt c3] (fun _ => True) (fun k => wr.heap.size ≤ k) (by rfl) (by rfl) ?aP ?aQ ?aF ?aO (Below.refl _ _) ?aS ?aL ?_); (case aP => exact kL_M R3.out SZ.out); (case aQ => exact fun k hk => ⟨trivial, fun e => by have h1 := Kd.R_lt LL.out k e.symm; omega⟩); (case aF => exact fun _ _ => trivial); (case aO => exact L3.out); (case aS => exact Z3.out); (case aL => rw [LS.out]; omega); intro v4 w4 ho hb hg hat; rw [← HT.out] at ho; obtain ⟨A4, c4, rfl, ho2⟩ := ls_next ho (by have := HJ.out; have := HM0.out; rw [HN0.out]; omega); have L4 := Aside0.mk ho2; have T4 := Aside0.mk (show T2 w w4 g g2 g 0 0 0 (fun _ => none) (fun _ => none) (zX g 0) (zX g2 0) from T2.lower T3.out hb Z3.out FT.out); have Z4 := Aside0.mk (Nat.le_trans Z3.out hb.size); clear ho ho2 hb hg hat))
        | (go_at_call 13; go_loud ((refine FC.out.mono ?_); rintro e w3 ⟨A3, c3, rfl, hR, hb⟩; have R3 := Aside0.mk (Kd.R_mono (ok' := fun k => wr.heap.size ≤ k) (Kd.R_bound hR) (fun k hk => hk.2.1)); have T3 := Aside0.mk (TT.out.below hb); have L3 := Aside0.mk (Kd.R_below LL.out hb); have Z3 := Aside0.mk (Nat.le_trans SZ.out hb.size); clear hR hb)))
      go_roundg k
      case measure => omega
      case rel => exact ⟨i + 1, A4, c4, rfl, by go_num, ⟨by have := HJ.out; omega⟩, T4, L4, Z4⟩
    | zero =>
      have hiM : i = M0 := by omega
      subst hiM
      have b1 : decide (i < n0) = false ∨ (decide (i < n0) = true ∧ decide ((i : Int) < 30) = false ∧ decide (i < 30) = false) := by
        by_cases h1 : i < n0
        · exact .inr ⟨decide_eq_true h1, decide_eq_false (by omega), decide_eq_false (by omega)⟩
        · exact .inl (decide_eq_false h1)
      have OKL := Aside0.mk (show ∀ q ∈ Ls l0 i, okL q from fun q hq => by
        unfold Ls at hq
        obtain ⟨p, hp, rfl⟩ := List.mem_map.1 hq
        exact okL_take (OK.out p (List.mem_of_mem_take hp)) 140)
      have LE := Aside0.mk (show ∀ q ∈ Ls l0 i, q.length ≤ 140 from fun q hq => by
        unfold Ls at hq
        obtain ⟨p, hp, rfl⟩ := List.mem_map.1 hq
        exact List.length_take_le _ _)
      have LN := Aside0.mk (Ls_length l0 i (by rw [HN0.out]; omega))
      have TLs := Aside0.mk (show TL w wr g g2 S0 wr.heap.size 0 0 0 (gv ((Ls l0 i).take 0)) (gv ((Ls l0 i).reverse.take 0)) (zX g 0) (zX g2 0) (.slice A i c) (Ls l0 i) from by
        rw [List.take_zero, List.take_zero, gv_nil]
        exact ⟨TT.out, Kd.R_mono (Kd.R_bound LL.out) (fun k hk => ⟨hk.2.1, hk.2.2.1⟩), fun k hk => .inl (FT.out k hk), Nat.le_refl _⟩)
      have hi30 : i ≤ 30 := by omega
      generalize Ls l0 i = L at OKL LE LN TLs
      generalize wr.heap.size = S1 at TLs
      clear hj hm HJ TT LL SZ BW
      rcases b1 with b1 | ⟨b1, b2, b3⟩
      all_goals (
        go_upto_region 8 with (fail)
        go_loopg [39] i (fun kq v39 w' => ∃ (j : Nat) (X1 X2 : TX) (cnt1 cnt2 : Int), v39 = .int .i64 (j : Int) ∧ Aside0 (j + kq = i) ∧ Aside0 (hasL (gv (L.take j)) cnt1 j) ∧ Aside0 (hasL (gv (L.reverse.take j)) cnt2 j) ∧ Aside0 (TL w w' g g2 S0 S1 (j * 256) cnt1 cnt2 (gv (L.take j)) (gv (L.reverse.take j)) X1 X2 (.slice A i c) L))
        case atStart => exact ⟨0, _, _, 0, 0, rfl, ⟨Nat.zero_add _⟩, ⟨by rw [List.take_zero, gv_nil]; exact hasL_zero⟩, ⟨by rw [List.take_zero, gv_nil]; exact hasL_zero⟩, TLs⟩
        case round =>
          clear TLs
          obtain ⟨j, X1, X2, cnt1, cnt2, rfl, HJ, H1, H2, TT⟩ := hrel
          have hj := HJ.out
          cases gk with
          | succ k =>
            have e1 : decide (j < i) = true := decide_eq_true (by omega)
            have p1 : 0 ≤ (j : Int) := by omega
            have q1 : (j : Int) < (i : Int) := by omega
            obtain ⟨gl, A', c', eA, hx0, f1, f2, hC, hc⟩ := TT.out.row j (by omega)
            subst eA
            obtain ⟨nt, hnt⟩ : ∃ nt, (row L j).length = nt := ⟨_, rfl⟩
            have HNT := Aside0.mk hnt
            have F1 := Aside0.mk f1
            rw [hnt] at hx0 F1
            clear f1 f2 hC hc hnt hj
            have BD := Aside0.mk (show j * 256 ≤ 1000000 ∧ 0 ≤ cnt1 ∧ cnt1 ≤ 1000 ∧ 0 ≤ cnt2 ∧ cnt2 ≤ 1000 by have := H1.out.range; have := H2.out.range; omega)
            go_upto_region 10 with (fail)
            go_still_tail 9, (by kernel_rfl)
            change wpList _ _ _ _ _ wr.drew
            have T3 := Aside0.mk (TT.out.below (Below.refl _ _).drew)
            have F3 := Aside0.mk (Kd.F_drew F1.out)
            clear hx0 F1
            generalize wr.drew = w3 at T3 F3 ⊢
            have OJ := Aside0.mk (OKL.out (row L j) (row_mem L j (by rw [LN.out]; omega)))
            go_upto_region 11 with (go_at_call 10; go_loud ((refine (show Calls _ _ #[_, .slice A' nt c', _] _ _ from HNT.out ▸ put_calls g 0 (j * 256) X1 A' c' (row L j) (nt : Int) cnt1 w3 T3.out.t.a.tr T3.out.t.a.ct (by rw [HNT.out]; exact F3.out) OJ.out (by have := BD.out; omega) (by have := BD.out; omega)).mono ?_); rw [T3.out.t.a.vl]; rintro e w4 ⟨rfl, d⟩; obtain ⟨X4, t4⟩ := T3.out.first (N' := j * 256 + 128) (by omega) d; have T4 := Aside0.mk t4; clear d t4))
            obtain ⟨gl2, A5, c5, eA, hx0, _, f2, hC, hc⟩ := T4.out.row (i - 1 - j) (by omega)
            injection eA with eA
            injection eA with eA _ _
            subst eA
            obtain ⟨nu, hnu⟩ : ∃ nu, (row L (i - 1 - j)).length = nu := ⟨_, rfl⟩
            have HNU := Aside0.mk hnu
            have F5 := Aside0.mk f2
            rw [hnu] at hx0 F5
            have s1 : (i : Int) - 1 = ((i - 1 : Nat) : Int) := by omega
            have s2 : ((i - 1 : Nat) : Int) - (j : Int) = ((i - 1 - j : Nat) : Int) := by omega
            have s3 : ((i - 1 - j : Nat) : Int) < (i : Int) := by omega
            have s4 : 0 ≤ ((i - 1 - j : Nat) : Int) := by omega
            have s5 : ((i - 1 : Nat) : Int) ≤ 30 := by omega
            have y1 : IntKind.i64.wrap ((i - 1 : Nat) : Int) = ((i - 1 : Nat) : Int) := by rw [IntKind.wrap_i64]; omega
            have y2 : IntKind.i64.wrap ((i - 1 - j : Nat) : Int) = ((i - 1 - j : Nat) : Int) := by rw [IntKind.wrap_i64]; omega
            clear f2 hC hc hnu
            go_still_tail 17, (by kernel_rfl)
            change wpList _ _ _ _ _ w4.drew
            have T5 := Aside0.mk (T4.out.below (Below.refl _ _).drew)
            have F6 := Aside0.mk (Kd.F_drew F5.out)
            clear hx0 F5 s1 s2 s3 s4 s5 y1 y2
            generalize w4.drew = w5 at T5 F6 ⊢
            have OJ2 := Aside0.mk (OKL.out (row L (i - 1 - j)) (row_mem L (i - 1 - j) (by rw [LN.out]; omega)))
            have GV1 := Aside0.mk (show (tPut (gv (L.take j)) cnt1 (row L j) (nt : Int)).1 = gv (L.take (j + 1)) by rw [take_row L j (by rw [LN.out]; omega), ← HNT.out]; exact gv_put _ _ _ (by have := H1.out.range; omega))
            have GV2 := Aside0.mk (show (tPut (gv (L.reverse.take j)) cnt2 (row L (i - 1 - j)) (nu : Int)).1 = gv (L.reverse.take (j + 1)) by
              have h1 : row L (i - 1 - j) = row L.reverse j := by rw [row_rev L j (by rw [LN.out]; omega), LN.out]
              rw [take_row L.reverse j (by rw [List.length_reverse, LN.out]; omega), ← HNU.out, h1]
              exact gv_put _ _ _ (by have := H2.out.range; omega))
            go_wp2_with (go_at_call 10; go_loud ((refine (show Calls _ _ #[_, .slice A5 nu c5, _] _ _ from HNU.out ▸ put_calls g2 0 (j * 256 + 128) X2 A5 c5 (row L (i - 1 - j)) (nu : Int) cnt2 w5 T5.out.t.b.tr T5.out.t.b.ct (by rw [HNU.out]; exact F6.out) OJ2.out (by have := BD.out; omega) (by have := BD.out; omega)).mono ?_); rw [T5.out.t.b.vl]; rintro e w6 ⟨rfl, d⟩; obtain ⟨X6, t6⟩ := T5.out.second (N' := j * 256 + 128 + 128) (by omega) d; have T6 := Aside0.mk t6; clear d t6))
            go_roundg k
            case measure => omega
            case rel => exact ⟨j + 1, X4, X6, _, _, by go_num, ⟨by have := HJ.out; omega⟩, ⟨by rw [← GV1.out]; exact H1.out.put _ _⟩, ⟨by rw [← GV2.out]; exact H2.out.put _ _⟩, ⟨by rw [← GV1.out, ← GV2.out]; have h := T6.out; rwa [show j * 256 + 128 + 128 = (j + 1) * 256 by omega] at h⟩⟩
          | zero =>
            have hji : j = i := by omega
            subst hji
            have d1 : decide (j < j) = false := decide_eq_false (by omega)
            have V1 : gv (L.take j) = gv L := by rw [List.take_of_length_le (by rw [LN.out]; omega)]
            have V2 : gv (L.reverse.take j) = gv L := by
              rw [List.take_of_length_le (by rw [List.length_reverse, LN.out]; omega)]
              exact gv_congr (fun q => List.mem_reverse)
            rw [V1] at H1 TT
            rw [V2] at TT
            obtain ⟨l, hrep, hcnt, hlen⟩ := H1.out
            have REP := Aside0.mk hrep
            have LL := Aside0.mk (show l.length ≤ 30 by omega)
            have LS := Aside0.mk (rep_short TT.out.t.b.tr (l := l) (by rw [TT.out.t.b.vl]; exact hrep))
            have JN := Aside0.mk (show j * 256 ≤ 10000000000 by omega)
            clear hj V1 V2 hrep hcnt hlen H1 H2
            go_upto_region 14 with (first
              | (go_at_call 17; (with_reducible refine (told_calls A5 c5 l _ _ w5 R5.out (by have := LL.out; omega)).mono ?_); rintro e w6 ⟨A6, c6, rfl, hle, hC, hb⟩; have T6 := Aside0.mk (T5.out.below hb); have C6 := Aside0.mk hC; have L6 := Aside0.mk hle; have C4b := Aside0.mk (Kd.C_below (Kd.C_below C4.out B5.out) hb); clear hle hC hb)
              | (go_at_call 15; (with_reducible refine (all_told T4.out.t.b REP.out JN.out (by have := LL.out; omega)).mono ?_); rintro e w5 ⟨A5, c5, rfl, hR, hb⟩; have T5 := Aside0.mk (T4.out.below hb); have R5 := Aside0.mk hR; have B5 := Aside0.mk hb; clear hR hb)
              | (go_at_call 17; (with_reducible refine (told_calls A3 c3 l _ _ w3 R3.out (by have := LL.out; omega)).mono ?_); rintro e w4 ⟨A4, c4, rfl, hle, hC, hb⟩; have T4 := Aside0.mk (T3.out.below hb); have C4 := Aside0.mk hC; have L4 := Aside0.mk hle; clear hle hC hb)
              | (go_at_call 15; go_loud ((refine (all_told TT.out.t.a REP.out JN.out (by have := LL.out; omega)).mono ?_); rintro e w3 ⟨A3, c3, rfl, hR, hb⟩; have T3 := Aside0.mk (TT.out.below hb); have R3 := Aside0.mk hR; clear hR hb)))
            clear T3 T4 T5 R3 R5 B5 C4 TT
            go_wp2
            go_loopg [77] l.length (fun kq v77 w' => ∃ (m : Nat), v77 = .int .i64 (m : Int) ∧ Aside0 (m + kq = l.length) ∧ Aside0 (Below w6.heap.size w6 w'))
            case atStart => exact ⟨0, rfl, ⟨Nat.zero_add _⟩, ⟨Below.refl _ _⟩⟩
            case round =>
              obtain ⟨m, rfl, HJ2, WB⟩ := hrel
              have hj := HJ2.out
              cases gk with
              | succ k2 =>
                have d2 : decide (m < l.length) = true := decide_eq_true (by omega)
                have p1 : 0 ≤ (m : Int) := by omega
                have q1 : (m : Int) < (l.length : Int) := by omega
                have q2 : l.length ≤ 30 := LL.out
                have C4m := Kd.C_below C4b.out WB.out
                obtain ⟨ad, B0, b0, eA, k0, k1, hb0, hC0⟩ := at_told C4m m (by omega)
                cases eA
                have ev : (eAt l m).2 = ((eAt l m).1.length : Int) := by
                  have h1 := (REP.out.2 (eAt l m).1 (eAt l m).2).1 (eAt_mem (by omega))
                  unfold gv at h1
                  split at h1
                  · exact (Option.some.inj h1).symm
                  · cases h1
                have hs5 : (eAt l m).1.length ≤ 128 := LS.out _ (eAt_mem (by omega))
                rw [ev] at k1
                obtain ⟨t, ht⟩ : ∃ t, (eAt l m).1 = t := ⟨_, rfl⟩
                have HT := Aside0.mk ht
                obtain ⟨nt, hnt⟩ : ∃ nt, t.length = nt := ⟨_, rfl⟩
                have HNT := Aside0.mk hnt
                rw [ht] at k0 k1 hb0 hC0 hs5
                rw [hnt] at k0 k1 hb0 hC0 hs5
                have HC0 := Aside0.mk hC0
                have HB0 := Aside0.mk hb0
                clear ht hnt hC0 hb0 hj ev C4m
                go_upto_region 17 with (fail)
                clear k0 k1
                have WB5 := Aside0.mk (below_alloc WB.out (.cells #[.slice B0 nt b0, .int .i64 (nt : Int)] 49 (0, 0)))
                have EB := Aside0.mk (blk_new wr (.cells #[.slice B0 nt b0, .int .i64 (nt : Int)] 49 (0, 0)))
                have HC5 := Aside0.mk (Kd.C_below HC0.out (below_alloc (Below.refl _ _) (.cells #[.slice B0 nt b0, .int .i64 (nt : Int)] 49 (0, 0))))
                generalize hEE : wr.alloc (.cells #[.slice B0 nt b0, .int .i64 (nt : Int)] 49 (0, 0)) = w7 at WB5 EB HC5 ⊢
                generalize wr.heap.size = E at EB ⊢
                clear hEE
                have y0 : w7.cell? ⟨E, 0, none⟩ = some (.slice B0 nt b0) := (blk_cell EB.out 0).trans (show #[Value.slice B0 nt b0, .int .i64 (nt : Int)][0]? = some (Value.slice B0 nt b0) from rfl)
                have y1 : w7.cell? ⟨E, 1, none⟩ = some (.int .i64 (nt : Int)) := (blk_cell EB.out 1).trans (show #[Value.slice B0 nt b0, .int .i64 (nt : Int)][1]? = some (Value.int .i64 (nt : Int)) from rfl)
                by_cases hm0 : m = 0
                · have g1 : decide ((m : Int) > 0) = false := decide_eq_false (by omega)
                  have g2 : decide (0 < (m : Int)) = false := decide_eq_false (by omega)
                  have g3 : decide (0 < m) = false := decide_eq_false (by omega)
                  clear hm0
                  go_quiet (fail)
                  go_wp2
                  go_roundg k2
                  case measure => omega
                  case rel => exact ⟨m + 1, by go_num, ⟨by have := HJ2.out; omega⟩, ⟨by first | exact WB5.out | exact pw_below_drewN WB5.out _⟩⟩
                · have g1 : decide ((m : Int) > 0) = true := decide_eq_true (by omega)
                  have g2 : decide (0 < (m : Int)) = true := decide_eq_true (by omega)
                  have g3 : decide (0 < m) = true := decide_eq_true (by omega)
                  have s1 : (m : Int) - 1 = ((m - 1 : Nat) : Int) := by omega
                  have s2 : ((m - 1 : Nat) : Int) < (l.length : Int) := by omega
                  have s3 : 0 ≤ ((m - 1 : Nat) : Int) := by omega
                  have s4 : IntKind.i64.wrap ((m - 1 : Nat) : Int) = ((m - 1 : Nat) : Int) := by rw [IntKind.wrap_i64]; omega
                  obtain ⟨ad2, B2, b2, eA2, k3, _, hb2, hC2⟩ := at_told (Kd.C_below C4b.out WB5.out) (m - 1) (by omega)
                  cases eA2
                  have LT := Aside0.mk (sorted_next REP.out.1 (m - 1) (by omega))
                  have hs6 : (eAt l (m - 1)).1.length ≤ 128 := LS.out _ (eAt_mem (by omega))
                  rw [show m - 1 + 1 = m by omega, HT.out] at LT
                  obtain ⟨u, hu⟩ : ∃ u, (eAt l (m - 1)).1 = u := ⟨_, rfl⟩
                  obtain ⟨nu, hnu⟩ : ∃ nu, u.length = nu := ⟨_, rfl⟩
                  rw [hu] at k3 hb2 hC2 LT hs6
                  rw [hnu] at k3 hb2 hC2 hs6
                  have HNU := Aside0.mk hnu
                  have HC2 := Aside0.mk hC2
                  have HB2 := Aside0.mk hb2
                  clear hm0 hu hnu hb2 hC2
                  have LESS : ∀ n : Nat, Calls Try.prog 18 #[.slice B2 nu b2, .slice B0 nt b0] (w7.drewN n) (fun e w'' => e = .returned (.bool true) ∧ ∃ m, w'' = w7.drewN m) := fun n => by
                    have h9 := less_calls B2 b2 u B0 b0 t (w7.drewN n) (Kd.C_drewN (by rw [HNU.out]; exact HC2.out) n) (by rw [HNU.out]; exact HB2.out) (Kd.C_drewN (by rw [HNT.out]; exact HC5.out) n) (by rw [HNT.out]; exact HB0.out) (by rw [HNU.out]; omega) (by rw [HNT.out]; omega)
                    rw [LT.out, HNU.out, HNT.out] at h9
                    exact Calls.quiet_of (h9.mono (fun _ _ hh => ⟨hh.1, hh.2.out⟩))
                  have LESS := Aside0.mk LESS
                  go_quiet ((go_at_call 18; go_loud (exact LESS.out _)))
                  go_wp2
                  go_roundg k2
                  case measure => omega
                  case rel => exact ⟨m + 1, by go_num, ⟨by have := HJ2.out; omega⟩, ⟨by first | exact WB5.out | exact pw_below_drewN WB5.out _⟩⟩
              | zero =>
                have hin : m = l.length := by omega
                subst hin
                have d2 : decide (l.length < l.length) = false := decide_eq_false (by omega)
                have T7 := Aside0.mk (T6.out.below WB.out)
                have W7 := WB
                have j30 : j ≤ 30 := hi30
                clear hj WB
                go_upto_region 21 with (fail)
                go_loopg [107] j (fun kq v107 w' => ∃ (m : Nat), v107 = .int .i64 (m : Int) ∧ Aside0 (m + kq = j) ∧ Aside0 (TL w w' g g2 S0 S1 (j * 256) cnt1 cnt2 (gv L) (gv L) X1 X2 (.slice A j c) L) ∧ Aside0 (Below w6.heap.size w6 w'))
                case atStart => exact ⟨0, rfl, ⟨Nat.zero_add _⟩, T7, W7⟩
                case round =>
                  clear T7 W7 d2
                  obtain ⟨m, rfl, HJ3, TT, WB⟩ := hrel
                  have hj := HJ3.out
                  cases gk with
                  | succ k3 =>
                    have d3 : decide (m < j) = true := decide_eq_true (by omega)
                    have p1 : 0 ≤ (m : Int) := by omega
                    have q1 : (m : Int) < (j : Int) := by omega
                    obtain ⟨gl, A7, c7, eA, hx0, _, _, hC, hc⟩ := TT.out.row m (by omega)
                    subst eA
                    have hmem : row L m ∈ L := row_mem L m (by rw [LN.out]; omega)
                    obtain ⟨t, ht⟩ : ∃ t, row L m = t := ⟨_, rfl⟩
                    obtain ⟨nt, hnt⟩ : ∃ nt, t.length = nt := ⟨_, rfl⟩
                    rw [ht] at hx0 hC hc hmem
                    have OT : okL t := OKL.out t hmem
                    have GC := Aside0.mk (get_calls g 0 (j * 256) X1 A7 c7 t wr TT.out.t.a.tr hC OT)
                    have hn140 : nt ≤ 140 := by rw [← hnt]; exact LE.out t hmem
                    obtain ⟨q, hq1⟩ : ∃ q, (long (gv L) (t ++ [1, 2]) (nt + 2)).1 = q := ⟨_, rfl⟩
                    have hq2 : (long (gv L) (t ++ [1, 2]) (nt + 2)).2 = (q : Int) := by
                      rcases long_gv L (t ++ [1, 2]) (nt + 2) with h | h | h
                      · rw [h, hq1]
                      · exact h.2.elim
                      · rw [List.length_append, hnt] at h; simp at h
                    have hq3 : q ≤ nt + 2 := by rw [← hq1]; exact long_le _ _ _
                    have OT2 := Aside0.mk (show ∀ x ∈ t ++ [1, 2], i64 x from fun x hx => by
                      rcases List.mem_append.1 hx with h | h
                      · exact OT x h
                      · exact small_i64 (l := [1, 2]) (by decide) x h)
                    have LC : ∀ (A9 : Option Addr) (c9 : Nat) (W : World), TrieAt W g 0 (j * 256) X1 → Kd.C kI W A9 (nt + 2) (t ++ [1, 2]) → Calls Try.prog 14 #[.pointer (some ⟨g, 0, none⟩), .slice A9 (nt + 2) c9] W fun e w' => e = .returned (.tuple #[.int .i64 (q : Int), .int .i64 (q : Int)]) ∧ Below W.heap.size W w' := fun A9 c9 W h1 h2 => by
                      have hl2 : (t ++ [1, 2]).length = nt + 2 := by rw [List.length_append, hnt]; rfl
                      have h3 := longest_calls g 0 (j * 256) X1 A9 c9 (t ++ [1, 2]) W h1 (by rw [hl2]; exact h2) OT2.out
                      rw [hl2, TT.out.t.a.vl, hq1, hq2] at h3
                      exact h3
                    have LC := Aside0.mk LC
                    have hge : 1 ≤ nt ∧ nt ≤ 128 → nt ≤ q := fun hh => by
                      rw [← hq1]
                      refine long_ge ?_ (nt + 2) (by omega) hh.1
                      rw [← hnt, List.take_left]
                      unfold gv
                      rw [if_pos ⟨hmem, by omega, by omega⟩]
                      simp
                    have hgv : gv L t = if 1 ≤ nt ∧ nt ≤ 128 then some (nt : Int) else none := by
                      unfold gv
                      rw [hnt]
                      by_cases hh : 1 ≤ nt ∧ nt ≤ 128
                      · rw [if_pos hh, if_pos ⟨hmem, hh⟩]
                      · rw [if_neg hh, if_neg (fun h => hh h.2)]
                    rw [TT.out.t.a.vl, hgv, hnt] at GC
                    rw [hnt] at hx0 hC hc
                    have HC := Aside0.mk hC
                    clear hj hC hc ht hmem hq1 hq2 hgv
                    have KN := Aside0.mk (kI_new wr)
                    have HNT := Aside0.mk hnt
                    have HN2 := Aside0.mk (show (t ++ [1, 2]).length = nt + 2 by rw [List.length_append, hnt]; rfl)
                    clear hnt
                    by_cases hh : 1 ≤ nt ∧ nt ≤ 128
                    · rw [if_pos hh] at GC
                      have hq := hge hh
                      obtain ⟨x1, x2⟩ := hh
                      have z1 : decide (1 ≤ nt) = true := decide_eq_true x1
                      have z2 : decide (nt ≤ 128) = true := decide_eq_true x2
                      have z3 : decide ((nt : Int) ≥ 1) = true := decide_eq_true (by omega)
                      have z4 : decide ((nt : Int) ≤ 128) = true := decide_eq_true (by omega)
                      have z5 : decide (0 < nt) = true := decide_eq_true (by omega)
                      have z6 : decide (q < nt) = false := decide_eq_false (by omega)
                      have z7 : decide (1 ≤ (nt : Int)) = true := decide_eq_true (by omega)
                      clear hge hq x1 x2
                      go_wp2_with (first
                        | (go_at_call 14; go_loud ((refine (LC.out A9 c9 w11 T11.out.t.a.tr C11.out).mono ?_); rintro e w12 ⟨rfl, hb⟩; have T12 := Aside0.mk (T11.out.below hb); have B12 := Aside0.mk (B11.out.trans (hb.mono B11.out.size)); clear hb))
                        | ((with_reducible refine gate_builtin (b := .append) (xs := #[.tmp 119, .tmp 120]) rfl ?_); go_loud ((refine Kd.R_append_rows kI (w0 := wr) wr.heap.size rfl (.tmp 119) (.tmp 120) 31 3 (.int .i64 0) 8 rfl Try.underlying31 infoI rfl (by decide) (by omega) (.slice A8 nt c8) t [1, 2] (some ⟨w9.heap.size, 0, none⟩) 2 2 (fun _ => True) (fun _ => False) (by rfl) (by rfl) ?aO ?aR (fun _ _ h => h) (fun _ h => h.elim) ?aF ?aB ?aS ?aL ?_); (case aR => exact Kd.F_now (lit_F (w := w9.alloc (.cells #[.int .i64 1, .int .i64 2] 3 (0, 0))) (b := w9.heap.size) (l := [1, 2]) (blk_new w9 (.cells #[.int .i64 1, .int .i64 2] 3 (0, 0))) (by decide))); (case aB => exact below_alloc B9.out _); (case aF => exact fun _ _ => trivial); (case aO => exact Kd.R_alloc K9.out _); (case aS => exact Nat.le_trans B9.out.size (below_alloc (Below.refl _ _) _).size); (case aL => rw [HNT.out]; omega); intro v10 w11 ho hb hg hat; obtain ⟨A9, c9, rfl⟩ := Kd.R_slice ho; have h10 := (Kd.R_reads' ho).2.2; rw [HN2.out] at h10; have C11 := Aside0.mk h10; rw [HN2.out]; clear h10; have B11 := Aside0.mk hb; have T11 := Aside0.mk (TT.out.below hb); clear ho hb hg hat))
                        | ((with_reducible refine gate_builtin (b := .append) (xs := #[.tmp 117, .tmp 118]) rfl ?_); go_loud ((refine Kd.R_append_rows kI (w0 := wr) wr.heap.size rfl (.tmp 117) (.tmp 118) 31 3 (.int .i64 0) 8 rfl Try.underlying31 infoI rfl (by decide) (by omega) (.slice (some ⟨wr.heap.size, 0, none⟩) 0 0) [] t A7 nt c7 (fun _ => True) (fun _ => False) (by rfl) (by rfl) ?aO ?aR (fun _ _ h => h) (fun _ h => h.elim) ?aF ?aB ?aS ?aL ?_); (case aR => exact Kd.C_below HC.out (below_alloc (Below.refl _ _) _)); (case aB => exact below_alloc (Below.refl _ _) _); (case aF => exact fun _ _ => trivial); (case aO => exact KN.out); (case aS => exact (below_alloc (Below.refl _ _) _).size); (case aL => simp; omega); intro v9 w9 ho hb hg hat; rw [List.nil_append] at ho; obtain ⟨A8, c8, rfl⟩ := Kd.R_slice ho; rw [HNT.out] at ho; have K9 := Aside0.mk ho; rw [HNT.out]; have B9 := Aside0.mk hb; clear ho hb hg hat))
                        | (go_at_call 11; go_loud ((refine GC.out.mono ?_); rintro e w8 ⟨rfl, hb⟩; subst hb)))
                      go_roundg k3
                      case measure => omega
                      case rel => exact ⟨m + 1, by go_num, ⟨by have := HJ3.out; omega⟩, T12, ⟨WB.out.trans (B12.out.mono WB.out.size)⟩⟩
                    · rw [if_neg hh] at GC
                      have zz : (decide (1 ≤ nt) = false ∧ decide ((nt : Int) ≥ 1) = false ∧ decide (0 < nt) = false ∧ decide (1 ≤ (nt : Int)) = false) ∨ ((decide (1 ≤ nt) = true ∧ decide ((nt : Int) ≥ 1) = true ∧ decide (0 < nt) = true ∧ decide (1 ≤ (nt : Int)) = true) ∧ decide (nt ≤ 128) = false ∧ decide ((nt : Int) ≤ 128) = false) := by
                        by_cases h1 : 1 ≤ nt
                        · exact .inr ⟨⟨decide_eq_true h1, decide_eq_true (by omega), decide_eq_true (by omega), decide_eq_true (by omega)⟩, decide_eq_false (by omega), decide_eq_false (by omega)⟩
                        · exact .inl ⟨decide_eq_false h1, decide_eq_false (by omega), decide_eq_false (by omega), decide_eq_false (by omega)⟩
                      clear hge hh
                      rcases zz with ⟨z1, z2, z3, z4⟩ | ⟨⟨z1, z2, z3, z4⟩, z5, z6⟩
                      all_goals (
                        go_wp2_with (first
                        | (go_at_call 14; go_loud ((refine (LC.out A9 c9 w11 T11.out.t.a.tr C11.out).mono ?_); rintro e w12 ⟨rfl, hb⟩; have T12 := Aside0.mk (T11.out.below hb); have B12 := Aside0.mk (B11.out.trans (hb.mono B11.out.size)); clear hb))
                        | ((with_reducible refine gate_builtin (b := .append) (xs := #[.tmp 119, .tmp 120]) rfl ?_); go_loud ((refine Kd.R_append_rows kI (w0 := wr) wr.heap.size rfl (.tmp 119) (.tmp 120) 31 3 (.int .i64 0) 8 rfl Try.underlying31 infoI rfl (by decide) (by omega) (.slice A8 nt c8) t [1, 2] (some ⟨w9.heap.size, 0, none⟩) 2 2 (fun _ => True) (fun _ => False) (by rfl) (by rfl) ?aO ?aR (fun _ _ h => h) (fun _ h => h.elim) ?aF ?aB ?aS ?aL ?_); (case aR => exact Kd.F_now (lit_F (w := w9.alloc (.cells #[.int .i64 1, .int .i64 2] 3 (0, 0))) (b := w9.heap.size) (l := [1, 2]) (blk_new w9 (.cells #[.int .i64 1, .int .i64 2] 3 (0, 0))) (by decide))); (case aB => exact below_alloc B9.out _); (case aF => exact fun _ _ => trivial); (case aO => exact Kd.R_alloc K9.out _); (case aS => exact Nat.le_trans B9.out.size (below_alloc (Below.refl _ _) _).size); (case aL => rw [HNT.out]; omega); intro v10 w11 ho hb hg hat; obtain ⟨A9, c9, rfl⟩ := Kd.R_slice ho; have h10 := (Kd.R_reads' ho).2.2; rw [HN2.out] at h10; have C11 := Aside0.mk h10; rw [HN2.out]; clear h10; have B11 := Aside0.mk hb; have T11 := Aside0.mk (TT.out.below hb); clear ho hb hg hat))
                        | ((with_reducible refine gate_builtin (b := .append) (xs := #[.tmp 117, .tmp 118]) rfl ?_); go_loud ((refine Kd.R_append_rows kI (w0 := wr) wr.heap.size rfl (.tmp 117) (.tmp 118) 31 3 (.int .i64 0) 8 rfl Try.underlying31 infoI rfl (by decide) (by omega) (.slice (some ⟨wr.heap.size, 0, none⟩) 0 0) [] t A7 nt c7 (fun _ => True) (fun _ => False) (by rfl) (by rfl) ?aO ?aR (fun _ _ h => h) (fun _ h => h.elim) ?aF ?aB ?aS ?aL ?_); (case aR => exact Kd.C_below HC.out (below_alloc (Below.refl _ _) _)); (case aB => exact below_alloc (Below.refl _ _) _); (case aF => exact fun _ _ => trivial); (case aO => exact KN.out); (case aS => exact (below_alloc (Below.refl _ _) _).size); (case aL => simp; omega); intro v9 w9 ho hb hg hat; rw [List.nil_append] at ho; obtain ⟨A8, c8, rfl⟩ := Kd.R_slice ho; rw [HNT.out] at ho; have K9 := Aside0.mk ho; rw [HNT.out]; have B9 := Aside0.mk hb; clear ho hb hg hat))
                        | (go_at_call 11; go_loud ((refine GC.out.mono ?_); rintro e w8 ⟨rfl, hb⟩; subst hb)))
                        go_roundg k3
                        case measure => omega
                        case rel => exact ⟨m + 1, by go_num, ⟨by have := HJ3.out; omega⟩, T12, ⟨WB.out.trans (B12.out.mono WB.out.size)⟩⟩)
                  | zero =>
                    have hin : m = j := by omega
                    subst hin
                    have d3 : decide (m < m) = false := decide_eq_false (by omega)
                    have C4z := Aside0.mk (Kd.C_below C4b.out WB.out)
                    have C6z := Aside0.mk (Kd.C_below C6.out WB.out)
                    clear hj
                    go_wp2_with (first
                      | (go_at_call 16; go_loud ((refine (same_calls A4 A6 c4 c6 l w8 (Kd.C_below C4z.out B8.out) L4.out (Kd.C_below C6z.out B8.out) L6.out (by have := LL.out; omega) LS.out).mono ?_); rintro e w10 ⟨rfl, hb⟩; have T10 := Aside0.mk (T8.out.below hb); clear hb))
                      | (go_at_call 9; go_loud ((refine (awake_calls _).mono ?_); rintro e w8 ⟨rfl, hb⟩; have T8 := Aside0.mk (TT.out.below hb); have B8 := Aside0.mk hb; clear hb)))
                    go_ret
                    exact ⟨rfl, by rw [HG.out]; exact T10.out.t.bel⟩
      )
end Go.Proofs.Ytfnogcppbhggpaa.OTOrder
