/- TrieBack, walked by hand. Written by this session's program otback.py. -/
import Derived.Test.YtfnogcppbhggpaaOTTwo
import Derived.Test.YtfnogcppbhggpaaOBMap
set_option linter.unusedVariables false
set_option linter.unusedSimpArgs false
namespace Go.Proofs.Ytfnogcppbhggpaa.OTBack
open Go.RowKit Go.Proofs.YtfnogcppbhggpaaW.PrintWords Go.Proofs.YtfnogcppbhggpaaW.PrintLast Go.Proofs.YtfnogcppbhggpaaW.PrintMore Go.Proofs.Ytfnogcppbhggpaa.GQ Go.Proofs.Ytfnogcppbhggpaa.OMap Go.Proofs.Ytfnogcppbhggpaa.UTrie Go.Proofs.Ytfnogcppbhggpaa.UTold Go.Proofs.Ytfnogcppbhggpaa.OTrie Go.Maps
def rowA (l : List (List Int)) (j : Nat) : Row := (row l j).take 140
/-- Rows that were put for a while. -/
def Aw (val : Row → Option Int) (l : List (List Int)) (i : Nat) (q : Row) : Prop := ∃ j, j < i ∧ q = rowA l j ∧ val q = none ∧ 1 ≤ q.length ∧ q.length ≤ 128
open Classical in
noncomputable def v2 (val : Row → Option Int) (l : List (List Int)) (i : Nat) (dr : List Row) : Row → Option Int := fun q => if Aw val l i q ∧ q ∉ dr then some 2 else val q
theorem v2_zero (val : Row → Option Int) (l : List (List Int)) : v2 val l 0 [] = val := by
  funext q
  unfold v2
  rw [if_neg]
  rintro ⟨⟨j, hj, _⟩, _⟩
  omega
theorem aw_succ {val : Row → Option Int} {l : List (List Int)} {i : Nat} {q : Row} (h : q ≠ rowA l i ∨ val q ≠ none ∨ q.length = 0 ∨ q.length > 128) : Aw val l (i + 1) q ↔ Aw val l i q := by
  constructor
  · rintro ⟨j, hj, h1, h2, h3, h4⟩
    refine ⟨j, ?_, h1, h2, h3, h4⟩
    rcases Nat.lt_or_ge j i with k | k
    · exact k
    · have : j = i := by omega
      subst this
      rcases h with k | k | k | k
      · exact absurd h1 k
      · exact absurd h2 k
      · omega
      · omega
  · rintro ⟨j, hj, r⟩
    exact ⟨j, by omega, r⟩
theorem v2_there {val : Row → Option Int} {l : List (List Int)} {i : Nat} (h : (val (rowA l i)).isSome = true) : v2 val l (i + 1) [] = v2 val l i [] := by
  funext q
  unfold v2
  have e : Aw val l (i + 1) q ↔ Aw val l i q := by
    refine aw_succ ?_
    by_cases k : q = rowA l i
    · subst k; exact .inr (.inl (by intro e; rw [e] at h; cases h))
    · exact .inl k
  by_cases k : Aw val l i q ∧ q ∉ ([] : List Row)
  · rw [if_pos k, if_pos ⟨e.2 k.1, k.2⟩]
  · rw [if_neg k, if_neg (fun k2 => k ⟨e.1 k2.1, k2.2⟩)]
theorem v2_put {val : Row → Option Int} {l : List (List Int)} {i : Nat} {cnt : Int} (h : val (rowA l i) = none) (hc : cnt < 1000) : (tPut (v2 val l i []) cnt (rowA l i) 2).1 = v2 val l (i + 1) [] := by
  have other : ∀ q, q ≠ rowA l i → v2 val l (i + 1) [] q = v2 val l i [] q := fun q hq => by
    unfold v2
    have e : Aw val l (i + 1) q ↔ Aw val l i q := aw_succ (.inl hq)
    by_cases k : Aw val l i q ∧ q ∉ ([] : List Row)
    · rw [if_pos k, if_pos ⟨e.2 k.1, k.2⟩]
    · rw [if_neg k, if_neg (fun k2 => k ⟨e.1 k2.1, k2.2⟩)]
  have bad : (rowA l i).length = 0 ∨ (rowA l i).length > 128 → v2 val l i [] = v2 val l (i + 1) [] := fun hb => by
    funext q
    by_cases hq : q = rowA l i
    · subst hq
      unfold v2
      have e : Aw val l (i + 1) (rowA l i) ↔ Aw val l i (rowA l i) := aw_succ (.inr (.inr hb))
      by_cases k : Aw val l i (rowA l i) ∧ rowA l i ∉ ([] : List Row)
      · rw [if_pos k, if_pos ⟨e.2 k.1, k.2⟩]
      · rw [if_neg k, if_neg (fun k2 => k ⟨e.1 k2.1, k2.2⟩)]
    · exact (other q hq).symm
  unfold tPut
  by_cases h1 : (rowA l i).length = 0
  · rw [if_pos h1]; exact bad (.inl h1)
  rw [if_neg h1]
  by_cases h2 : (rowA l i).length > 128
  · rw [if_pos h2]; exact bad (.inr h2)
  rw [if_neg h2]
  have good : upd (v2 val l i []) (rowA l i) (some 2) = v2 val l (i + 1) [] := by
    funext q
    by_cases hq : q = rowA l i
    · subst hq
      rw [upd_same]
      unfold v2
      rw [if_pos ⟨⟨i, by omega, rfl, h, by omega, by omega⟩, by simp⟩]
    · rw [upd_ne hq]; exact (other q hq).symm
  by_cases h3 : (v2 val l i [] (rowA l i)).isSome = true
  · rw [if_pos h3]; exact good
  rw [if_neg h3, if_neg (by omega)]
  exact good
theorem v2_drop {val : Row → Option Int} {l : List (List Int)} {i : Nat} {dr : List Row} {t : Row} (h : val t = none) : upd (v2 val l i dr) t none = v2 val l i (t :: dr) := by
  funext q
  by_cases e : q = t
  · subst e
    rw [upd_same]
    unfold v2
    rw [if_neg (fun k => k.2 (by simp)), h]
  · rw [upd_ne e]
    unfold v2
    by_cases k : Aw val l i q ∧ q ∉ dr
    · rw [if_pos k, if_pos ⟨k.1, by simp [e, k.2]⟩]
    · rw [if_neg k, if_neg (fun k2 => k ⟨k2.1, fun k3 => k2.2 (by simp [k3])⟩)]
theorem v2_end {val : Row → Option Int} {l : List (List Int)} {i : Nat} {dr : List Row} (h : ∀ j, j < i → val (rowA l j) = none → rowA l j ∈ dr) : v2 val l i dr = val := by
  funext q
  unfold v2
  rw [if_neg]
  rintro ⟨⟨j, hj, rfl, hv, _⟩, hn⟩
  exact hn (h j hj hv)
/-- Which were there ahead. -/
def keptF (val : Row → Option Int) (l : List (List Int)) (i : Nat) : Int → Bool := fun x => (decide (0 ≤ x) && decide (x < i)) && (val (rowA l x.toNat)).isSome
theorem kept_zero (val : Row → Option Int) (l : List (List Int)) : keptF val l 0 = fun _ => false := by
  funext x
  unfold keptF
  by_cases h : 0 ≤ x
  · rw [decide_eq_true h, decide_eq_false (show ¬ x < ((0 : Nat) : Int) by omega)]; rfl
  · rw [decide_eq_false h]; rfl
theorem kept_succ (val : Row → Option Int) (l : List (List Int)) (i : Nat) : (fun y => if y = (i : Int) then (val (rowA l i)).isSome else keptF val l i y) = keptF val l (i + 1) := by
  funext y
  unfold keptF
  by_cases e : y = (i : Int)
  · subst e
    rw [if_pos rfl, decide_eq_true (by omega), decide_eq_true (by omega), Int.toNat_natCast]; rfl
  · rw [if_neg e]
    by_cases h : 0 ≤ y ∧ y < (i : Int)
    · rw [decide_eq_true h.1, decide_eq_true h.2, decide_eq_true (show y < ((i + 1 : Nat) : Int) by omega)]
    · by_cases h0 : 0 ≤ y
      · rw [decide_eq_true h0, decide_eq_false (show ¬ y < (i : Int) by omega), decide_eq_false (show ¬ y < ((i + 1 : Nat) : Int) by omega)]
      · rw [decide_eq_false h0]; rfl
/-- Both tries, and the map. -/
structure TB (w W : World) (g1 g2 mB lo N K : Nat) (cnt1 cnt2 : Int) (val1 val2 : Row → Option Int) (f : Int → Bool) (X1 X2 : TX) : Prop where
  a : Tr W g1 N cnt1 val1 lo X1
  b : Tr W g2 N cnt2 val2 lo X2
  ap : apart X1 X2
  mp : BoolAt W mB K f
  n1 : ¬ foot X1 mB
  n2 : ¬ foot X2 mB
  bel : Below lo w W
  le : lo ≤ W.heap.size
  ml : lo ≤ mB
theorem TB.below {w W W' : World} {g1 g2 mB lo N K : Nat} {cnt1 cnt2 : Int} {val1 val2 : Row → Option Int} {f : Int → Bool} {X1 X2 : TX} (h : TB w W g1 g2 mB lo N K cnt1 cnt2 val1 val2 f X1 X2) (hb : Below W.heap.size W W') : TB w W' g1 g2 mB lo N K cnt1 cnt2 val1 val2 f X1 X2 :=
  ⟨h.a.below hb, h.b.below hb, h.ap, h.mp.below hb, h.n1, h.n2, h.bel.trans (hb.mono h.le), Nat.le_trans h.le hb.size, h.ml⟩
theorem Tr.mono {W : World} {g N N' : Nat} {cnt : Int} {val : Row → Option Int} {lo : Nat} {X : TX} (h : Tr W g N cnt val lo X) (hn : N ≤ N') : Tr W g N' cnt val lo X := ⟨h.tr.mono hn, h.ct, h.vl, h.lo⟩
theorem TB.first {w W W' : World} {g1 g2 mB lo N K n : Nat} {cnt1 cnt2 cnt' : Int} {val1 val2 val' : Row → Option Int} {f : Int → Bool} {X1 X2 : TX} (h : TB w W g1 g2 mB lo N K cnt1 cnt2 val1 val2 f X1 X2) {N' : Nat} (hN : N ≤ N') (d : Done n W W' g1 0 N' X1 val' cnt') :
    ∃ X1', TB w W' g1 g2 mB lo N' K cnt' cnt2 val' val2 f X1' X2 := by
  obtain ⟨X1', t, p, b⟩ := h.a.then_ h.le d
  have hm := h.mp.lt
  exact ⟨X1', t, Tr.mono (h.b.beside p h.ap) hN, apart_then h.ap p h.b.tr, h.mp.block (p.kept.2 mB hm h.n1), fun hf => (p.foot mB hf).elim h.n1 (fun q => by omega), h.n2, h.bel.trans b, Nat.le_trans h.le p.kept.1, h.ml⟩
theorem TB.second {w W W' : World} {g1 g2 mB lo N K n : Nat} {cnt1 cnt2 cnt' : Int} {val1 val2 val' : Row → Option Int} {f : Int → Bool} {X1 X2 : TX} (h : TB w W g1 g2 mB lo N K cnt1 cnt2 val1 val2 f X1 X2) {N' : Nat} (hN : N ≤ N') (d : Done n W W' g2 0 N' X2 val' cnt') :
    ∃ X2', TB w W' g1 g2 mB lo N' K cnt1 cnt' val1 val' f X1 X2' := by
  obtain ⟨X2', t, p, b⟩ := h.b.then_ h.le d
  have hm := h.mp.lt
  exact ⟨X2', Tr.mono (h.a.beside p (apart_symm h.ap)) hN, t, apart_symm (apart_then (apart_symm h.ap) p h.a.tr), h.mp.block (p.kept.2 mB hm h.n2), h.n1, fun hf => (p.foot mB hf).elim h.n2 (fun q => by omega), h.bel.trans b, Nat.le_trans h.le p.kept.1, h.ml⟩
theorem TB.upd {w W W' : World} {g1 g2 mB lo N K : Nat} {cnt1 cnt2 : Int} {val1 val2 : Row → Option Int} {f f' : Int → Bool} {X1 X2 : TX} (h : TB w W g1 g2 mB lo N K cnt1 cnt2 val1 val2 f X1 X2) (hm : BoolAt W' mB (K + 1) f') (ht : W.mapTurned W' mB) :
    TB w W' g1 g2 mB lo N (K + 1) cnt1 cnt2 val1 val2 f' X1 X2 := by
  have hg := ht.grown
  have hk : ∀ X : TX, ¬ foot X mB → ∀ {g : Nat} {cnt : Int} {val : Row → Option Int}, Tr W g N cnt val lo X → Tr W' g N cnt val lo X := fun X hn g cnt val t =>
    ⟨t.tr.move (fun k hf => hg.block k (foot_lt t.tr hf) (fun e => hn (by injection e with e; rw [← e]; exact hf))), by
      obtain ⟨cs, ty, h1, h2⟩ := t.ct
      exact ⟨cs, ty, (hg.block g (blk_lt h1) (fun e => hn (by injection e with e; rw [← e]; exact foot_root t.tr))).trans h1, h2⟩, t.vl, t.lo⟩
  exact ⟨hk X1 h.n1 h.a, hk X2 h.n2 h.b, h.ap, hm, h.n1, h.n2, pw_below_grown h.bel (some mB) h.le hg (fun k hk => by cases hk; exact h.ml), Nat.le_trans h.le hg.size, h.ml⟩
open Classical in
/-- The law's answer within the row's bounds. -/
noncomputable def tillerlaw13_TrieBack.f (l0 l1 : List (List Int)) (l2 : List Int) : Option Bool := if (∀ x ∈ l0, okL x) ∧ (∀ x ∈ l1, okL x) ∧ okL l2 ∧ l2.length ≤ 140737488351232 then some true else none
set_option maxHeartbeats 32000000 in
set_option maxRecDepth 100000 in
theorem tillerlaw13_TrieBack.calls (A0 : Option Addr) (c0 : Nat) (l0 : List (List Int)) (A1 : Option Addr) (c1 : Nat) (l1 : List (List Int)) (A2 : Option Addr) (c2 : Nat) (l2 : List Int) (r : Bool) (w : World) (hr0 : Kd.C kL w A0 l0.length l0) (hc0 : l0.length ≤ c0) (hr1 : Kd.C kL w A1 l1.length l1) (hc1 : l1.length ≤ c1) (hr2 : Kd.C kI w A2 l2.length l2) (hc2 : l2.length ≤ c2) (hr_ : Aside0 (r = true)) (h : tillerlaw13_TrieBack.f l0 l1 l2 = some r) :
    Calls Try.prog 7 #[.slice A0 l0.length c0, .slice A1 l1.length c1, .slice A2 l2.length c2] w fun e w' => e = .returned (.bool r) ∧ Below w.heap.size w w' := by
  obtain ⟨hr⟩ := hr_
  subst hr
  have OK := Aside0.mk (show (∀ x ∈ l0, okL x) ∧ (∀ x ∈ l1, okL x) ∧ okL l2 ∧ l2.length ≤ 140737488351232 by
    unfold tillerlaw13_TrieBack.f at h
    by_cases e : (∀ x ∈ l0, okL x) ∧ (∀ x ∈ l1, okL x) ∧ okL l2 ∧ l2.length ≤ 140737488351232
    · exact e
    · rw [if_neg e] at h; cases h)
  have R0 := Aside0.mk hr0
  have R1 := Aside0.mk hr1
  have R2 := Aside0.mk hr2
  obtain ⟨n0, hn0⟩ : ∃ n, l0.length = n := ⟨_, rfl⟩
  obtain ⟨n1, hn1⟩ : ∃ n, l1.length = n := ⟨_, rfl⟩
  obtain ⟨n2, hn2⟩ : ∃ n, l2.length = n := ⟨_, rfl⟩
  have HN0 := Aside0.mk hn0
  have HN1 := Aside0.mk hn1
  have HN2 := Aside0.mk hn2
  obtain ⟨M0, hM0⟩ : ∃ M : Nat, M = min n0 20 := ⟨_, rfl⟩
  obtain ⟨M1, hM1⟩ : ∃ M : Nat, M = min n1 20 := ⟨_, rfl⟩
  have HM0 := Aside0.mk hM0
  have HM1 := Aside0.mk hM1
  have mx2 : n2 ≤ 140737488351232 := by rw [← hn2]; exact OK.out.2.2.2
  rw [hn0, hn1, hn2]
  clear h hr0 hc0 hr1 hc1 hr2 hc2 hn0 hn1 hn2 hM0 hM1
  obtain ⟨w1, hw1⟩ : ∃ w1, w1 = (w.alloc (.cells zcells 27 (0, 0))).alloc (.cells zcells 27 (0, 0)) := ⟨_, rfl⟩
  obtain ⟨w2, hw2⟩ : ∃ w2, w2 = w1.alloc (.map #[] 0) := ⟨_, rfl⟩
  have s1 : w1.heap.size = w.heap.size + 2 := by rw [hw1, World.size_alloc, World.size_alloc]
  have ST := Aside0.mk (show TB w w2 w.heap.size (w.heap.size + 1) w1.heap.size w.heap.size 0 0 0 0 (fun _ => none) (fun _ => none) (fun _ => false) (zX w.heap.size 0) (zX (w.heap.size + 1) 0) from by
    have b0 := below_alloc (Below.refl w.heap.size w) (.cells zcells 27 (0, 0))
    have b1 : Below w.heap.size w w1 := by rw [hw1]; exact below_alloc b0 _
    have b2 := below_alloc (Below.refl w1.heap.size w1) (.map #[] 0)
    have hg1 : w1.heap[w.heap.size]? = some (.cells zcells 27 (0, 0)) := by rw [hw1]; exact blk_alloc (blk_new w _) _
    have hg2 : w1.heap[w.heap.size + 1]? = some (.cells zcells 27 (0, 0)) := by
      have := blk_new (w.alloc (.cells zcells 27 (0, 0))) (.cells zcells 27 (0, 0))
      rw [World.size_alloc] at this
      rw [hw1]; exact this
    rw [hw2]
    refine ⟨(Tr.zero hg1).below b2, ⟨((Tr.zero hg2).below b2).tr, ((Tr.zero hg2).below b2).ct, rfl, fun k hk => by have := foot_zero hk; omega⟩, fun k hk hf => by have := foot_zero hk; have := foot_zero hf; omega, BoolAt.made w1, fun hf => by have := foot_zero hf; omega, fun hf => by have := foot_zero hf; omega, b1.trans (b2.mono b1.size), Nat.le_trans b1.size b2.size, b1.size⟩)
  have hmk := @run_makeMap Try.prog
  go_enter Try.func7, Try.ntmps7
  go_upto_region 3 with (fail)
  clear hmk
  rw [← hw1, ← hw2]
  obtain ⟨mB, hmB⟩ : ∃ m, w1.heap.size = m := ⟨_, rfl⟩
  rw [hmB] at ST
  rw [show w.heap.size + 1 + 1 = mB by omega]
  clear hw1 hw2 s1 hmB
  generalize hg2 : w.heap.size + 1 = g2 at ST ⊢
  clear hg2
  generalize hg : w.heap.size = g at ST ⊢
  have HG := Aside0.mk hg
  clear hg
  go_wp2
  go_loopg [10] M0 (fun kq v10 w' => ∃ (i : Nat) (X1 X2 : TX) (cnt : Int) (val : Row → Option Int), v10 = .int .i64 (i : Int) ∧ Aside0 (i + kq = M0) ∧ Aside0 (hasL val cnt i) ∧ Aside0 (TB w w' g g2 mB g (i * 256) 0 cnt cnt val val (fun _ => false) X1 X2))
  case atStart => exact ⟨0, _, _, 0, _, rfl, ⟨Nat.zero_add _⟩, ⟨hasL_zero⟩, ST⟩
  case round =>
    obtain ⟨i, X1, X2, cnt, val, rfl, HJ, HL, TT⟩ := hrel
    have hj := HJ.out
    have hm := HM0.out
    have BW := Aside0.mk (show Below w.heap.size w wr by rw [HG.out]; exact TT.out.bel)
    cases gk with
    | succ k =>
      have e1 : decide (i < n0) = true := decide_eq_true (by omega)
      have e2 : decide (i < 20) = true := decide_eq_true (by omega)
      have e3 : decide ((i : Int) < 20) = true := decide_eq_true (by omega)
      have p1 : 0 ≤ (i : Int) := by omega
      have q1 : (i : Int) < (n0 : Int) := by omega
      have q2 : (i : Int) ≤ 20 := by omega
      obtain ⟨ad, A', c', e0, hx0, hl0, hC0⟩ := at_row (Kd.C_below R0.out BW.out) i (by rw [HN0.out]; omega)
      cases e0
      have HX := Aside0.mk hx0
      have HC := Aside0.mk hC0
      have HLE := Aside0.mk hl0
      have OR := Aside0.mk (okL_take (OK.out.1 _ (row_mem l0 i (by rw [HN0.out]; omega))) 140)
      have FC := Aside0.mk (few_calls A' c' (row l0 i) 140 (by omega) wr hC0 hl0)
      obtain ⟨t, ht⟩ : ∃ t, (row l0 i).take 140 = t := ⟨_, rfl⟩
      have HT := Aside0.mk ht
      obtain ⟨nr, hnr⟩ : ∃ nr, (row l0 i).length = nr := ⟨_, rfl⟩
      have HNR := Aside0.mk hnr
      have BD := Aside0.mk (show i * 256 ≤ 1000000 ∧ 0 ≤ cnt ∧ cnt ≤ 1000 by have := HL.out.range; omega)
      rw [ht] at FC OR
      rw [hnr] at FC hx0
      clear hj hm hl0 hC0 ht hnr
      go_upto_region 7 with (first
        | (go_at_call 13; go_loud ((refine FC.out.mono ?_); rintro e w3 ⟨A3, c3, rfl, hR, hb⟩; have F3 := Aside0.mk (fresh_F TT.out.a.tr hR); have T3 := Aside0.mk (TT.out.below hb); clear hR hb))
        | (go_at_call 10; go_loud ((refine (put_calls g 0 (i * 256) X1 A3 c3 t 1 cnt w3 T3.out.a.tr T3.out.a.ct F3.out OR.out (by have := BD.out; omega) (by have := BD.out; omega)).mono ?_); rw [T3.out.a.vl]; rintro e w4 ⟨rfl, d⟩; obtain ⟨X4, t4⟩ := T3.out.first (N' := i * 256 + 128) (by omega) d; have T4 := Aside0.mk t4; clear d t4)))
      have BW4 := Aside0.mk (show Below w.heap.size w w4 by rw [HG.out]; exact T4.out.bel)
      obtain ⟨ad4, A4, c4, e0, hx4, hl4, hC4⟩ := at_row (Kd.C_below R0.out BW4.out) i (by rw [HN0.out]; omega)
      cases e0
      have FC4 := Aside0.mk (few_calls A4 c4 (row l0 i) 140 (by omega) w4 hC4 hl4)
      rw [HT.out, HNR.out] at FC4
      rw [HNR.out] at hx4
      clear hx0 hl4 hC4
      go_wp2_with (first
        | (go_at_call 13; go_loud ((refine FC4.out.mono ?_); rintro e w5 ⟨A5, c5, rfl, hR, hb⟩; have F5 := Aside0.mk (fresh_F T4.out.b.tr hR); have T5 := Aside0.mk (T4.out.below hb); clear hR hb))
        | (go_at_call 10; go_loud ((refine (put_calls g2 0 (i * 256 + 128) X2 A5 c5 t 1 cnt w5 T5.out.b.tr T5.out.b.ct F5.out OR.out (by have := BD.out; omega) (by have := BD.out; omega)).mono ?_); rw [T5.out.b.vl]; rintro e w6 ⟨rfl, d⟩; obtain ⟨X6, t6⟩ := T5.out.second (N' := i * 256 + 128 + 128) (by omega) d; have T6 := Aside0.mk t6; clear d t6)))
      go_roundg k
      case measure => omega
      case rel => exact ⟨i + 1, X4, X6, _, _, by go_num, ⟨by have := HJ.out; omega⟩, ⟨HL.out.put t 1⟩, ⟨by have h := T6.out; rwa [show i * 256 + 128 + 128 = (i + 1) * 256 by omega] at h⟩⟩
    | zero =>
      have b1 : decide (i < n0) = false ∨ (decide (i < n0) = true ∧ decide ((i : Int) < 20) = false ∧ decide (i < 20) = false) := by
        by_cases h1 : i < n0
        · exact .inr ⟨decide_eq_true h1, decide_eq_false (by omega), decide_eq_false (by omega)⟩
        · exact .inl (decide_eq_false h1)
      have hi20 : i ≤ 20 := by omega
      have HL1 := Aside0.mk (HL.out.mono hi20)
      have CR := Aside0.mk HL1.out.range
      have S1 := Aside0.mk (show TB w wr g g2 mB g 5120 0 cnt cnt (v2 val l1 0 []) val (keptF val l1 0) X1 X2 by rw [v2_zero, kept_zero]; exact ⟨Tr.mono TT.out.a (by omega), Tr.mono TT.out.b (by omega), TT.out.ap, TT.out.mp, TT.out.n1, TT.out.n2, TT.out.bel, TT.out.le, TT.out.ml⟩)
      have HL0 := Aside0.mk (show hasL (v2 val l1 0 []) cnt 20 by rw [v2_zero]; exact HL1.out)
      clear hj hm hi20 TT HL BW HJ
      rcases b1 with b1 | ⟨b1, b2, b3⟩
      all_goals (
        go_wp2
        go_loopg [11] M1 (fun kq v11 w' => ∃ (j : Nat) (X3 : TX) (cnt3 : Int), v11 = .int .i64 (j : Int) ∧ Aside0 (j + kq = M1) ∧ Aside0 (hasL (v2 val l1 j []) cnt3 (20 + j)) ∧ Aside0 (TB w w' g g2 mB g (5120 + j * 128) j cnt3 cnt (v2 val l1 j []) val (keptF val l1 j) X3 X2))
        case atStart => exact ⟨0, X1, cnt, rfl, ⟨Nat.zero_add _⟩, HL0, S1⟩
        case round =>
          obtain ⟨j, X3, cnt3, rfl, HJ, HL, TT⟩ := hrel
          have hj := HJ.out
          have hm := HM1.out
          have BW := Aside0.mk (show Below w.heap.size w wr by rw [HG.out]; exact TT.out.bel)
          cases gk with
          | succ k =>
            have e1 : decide (j < n1) = true := decide_eq_true (by omega)
            have e2 : decide (j < 20) = true := decide_eq_true (by omega)
            have e3 : decide ((j : Int) < 20) = true := decide_eq_true (by omega)
            have p1 : 0 ≤ (j : Int) := by omega
            have q1 : (j : Int) < (n1 : Int) := by omega
            have q2 : (j : Int) ≤ 20 := by omega
            obtain ⟨ad, A', c', e0, hx0, hl0, hC0⟩ := at_row (Kd.C_below R1.out BW.out) j (by rw [HN1.out]; omega)
            cases e0
            have OR := Aside0.mk (okL_take (OK.out.2.1 _ (row_mem l1 j (by rw [HN1.out]; omega))) 140)
            have FC := Aside0.mk (few_calls A' c' (row l1 j) 140 (by omega) wr hC0 hl0)
            have ht : (row l1 j).take 140 = rowA l1 j := rfl
            obtain ⟨nr, hnr⟩ : ∃ nr, (row l1 j).length = nr := ⟨_, rfl⟩
            have HNR := Aside0.mk hnr
            have BD := Aside0.mk (show j ≤ 20 ∧ 0 ≤ cnt3 ∧ cnt3 < 1000 by have := HL.out.range; omega)
            rw [ht] at FC OR
            rw [hnr] at FC hx0
            obtain ⟨t, htt⟩ : ∃ t, rowA l1 j = t := ⟨_, rfl⟩
            have HTT := Aside0.mk htt
            rw [htt] at FC OR
            obtain ⟨b, hb⟩ : ∃ b, (val t).isSome = b := ⟨_, rfl⟩
            have HB := Aside0.mk hb
            clear hj hm hl0 hC0 ht hnr htt hb
            go_upto_region 12 with (first
              | (go_at_call 13; go_loud ((refine FC.out.mono ?_); rintro e w3 ⟨A3, c3, rfl, hR, hb⟩; have F3 := Aside0.mk (Kd.R_reads' hR).2.2; have T3 := Aside0.mk (TT.out.below hb); clear hR hb))
              | (go_at_call 11; go_loud ((refine (get_calls g2 0 (5120 + j * 128) X2 A3 c3 t w3 T3.out.b.tr F3.out OR.out).mono ?_); rw [T3.out.b.vl, HB.out]; rintro e w4 ⟨rfl, rfl⟩)))
            obtain ⟨D, d1, d2⟩ := T3.out.mp
            have DO := Aside0.mk d1
            have D2 := Aside0.mk d2
            have KX := Aside0.mk (show i64 (j : Int) by unfold i64; omega)
            clear d1 d2 hx0
            go_upto_region 13 with (at_mapUpdate; go_loud ((refine wpList_mapUpdate_in _ rfl (.tmp 58) (.tmp 59) (.tmp 60) 51 rfl 3 4 K3 Try.underlying51 (plainElem Try.prog 4) mB j D rfl DO.out (by have := BD.out.1; unfold maxLen; omega) _ _ (ik (j : Int)) rfl rfl (key3 KX.out) _ [] (plainElem_bool Try.underlying4 b) ?_); intro w5 ho ht; have T5 := Aside0.mk (show TB w w5 g g2 mB g (5120 + j * 128) (j + 1) cnt3 cnt (v2 val l1 j []) val (keptF val l1 (j + 1)) X3 X2 by rw [← kept_succ, HTT.out, HB.out]; exact T3.out.upd (BoolAt.put DO.out D2.out ho) ht); clear ho ht))
            cases b with
            | true =>
              have EV := Aside0.mk (v2_there (l := l1) (i := j) (val := val) (by rw [HTT.out]; exact HB.out))
              go_wp2
              go_roundg k
              case measure => omega
              case rel => exact ⟨j + 1, X3, cnt3, by go_num, ⟨by have := HJ.out; omega⟩, ⟨by rw [EV.out]; exact HL.out.mono (by omega)⟩, ⟨by rw [EV.out]; exact ⟨Tr.mono T5.out.a (by omega), Tr.mono T5.out.b (by omega), T5.out.ap, T5.out.mp, T5.out.n1, T5.out.n2, T5.out.bel, T5.out.le, T5.out.ml⟩⟩⟩
            | false =>
              have VN := Aside0.mk (show val (rowA l1 j) = none by rw [HTT.out]; simpa using HB.out)
              have EV := Aside0.mk (v2_put (l := l1) (i := j) (cnt := cnt3) VN.out BD.out.2.2)
              have BW5 := Aside0.mk (show Below w.heap.size w w5 by rw [HG.out]; exact T5.out.bel)
              obtain ⟨ad5, A5, c5, e0, hx5, hl5, hC5⟩ := at_row (Kd.C_below R1.out BW5.out) j (by rw [HN1.out]; have := HJ.out; have := HM1.out; omega)
              cases e0
              have FC5 := Aside0.mk (few_calls A5 c5 (row l1 j) 140 (by omega) w5 hC5 hl5)
              rw [show (row l1 j).take 140 = rowA l1 j from rfl, HTT.out, HNR.out] at FC5
              rw [HNR.out] at hx5
              rw [HTT.out] at EV
              clear hl5 hC5
              go_wp2_with (first
                | (go_at_call 13; go_loud ((refine FC5.out.mono ?_); rintro e w6 ⟨A6, c6, rfl, hR, hb⟩; have F6 := Aside0.mk (fresh_F T5.out.a.tr hR); have T6 := Aside0.mk (T5.out.below hb); clear hR hb))
                | (go_at_call 10; go_loud ((refine (put_calls g 0 (5120 + j * 128) X3 A6 c6 t 2 cnt3 w6 T6.out.a.tr T6.out.a.ct F6.out OR.out (by have := BD.out; omega) (by have := BD.out; omega)).mono ?_); rw [T6.out.a.vl]; rintro e w7 ⟨rfl, d⟩; obtain ⟨X7, t7⟩ := T6.out.first (N' := 5120 + j * 128 + 128) (by omega) d; have T7 := Aside0.mk t7; clear d t7)))
              go_roundg k
              case measure => omega
              case rel => exact ⟨j + 1, X7, (tPut (v2 val l1 j []) cnt3 t 2).2.1, by go_num, ⟨by have := HJ.out; omega⟩, ⟨by have h := HL.out.put t 2; rw [EV.out] at h; exact h⟩, ⟨by have h := T7.out; rw [EV.out, show 5120 + j * 128 + 128 = 5120 + (j + 1) * 128 by omega] at h; exact h⟩⟩
          | zero =>
            have b4 : decide (j < n1) = false ∨ (decide (j < n1) = true ∧ decide ((j : Int) < 20) = false ∧ decide (j < 20) = false) := by
              by_cases h1 : j < n1
              · exact .inr ⟨decide_eq_true h1, decide_eq_false (by omega), decide_eq_false (by omega)⟩
              · exact .inl (decide_eq_false h1)
            have hjM : j = M1 := by omega
            subst hjM
            have hj20 : j ≤ 20 ∧ j ≤ n1 := by omega
            have MJ := Aside0.mk (And.intro hj20 hm)
            have HL3 := Aside0.mk (HL.out.mono (show 20 + j ≤ 40 by omega))
            have S3 := Aside0.mk (show TB w wr g g2 mB g 8000 j cnt3 cnt (v2 val l1 j []) val (keptF val l1 j) X3 X2 from ⟨Tr.mono TT.out.a (by omega), Tr.mono TT.out.b (by omega), TT.out.ap, TT.out.mp, TT.out.n1, TT.out.n2, TT.out.bel, TT.out.le, TT.out.ml⟩)
            clear hj hm hj20 TT HL BW HJ
            rcases b4 with b4 | ⟨b4, b5, b6⟩
            all_goals (
              go_wp2
              go_loopg [14] (n2 + 20) (fun kq v14 w' => ∃ (i : Nat) (X4 : TX) (cnt4 : Int) (dr : List Row), v14 = .int .i64 (i : Int) ∧ Aside0 (i + kq = n2 + 20) ∧ Aside0 (hasL (v2 val l1 j dr) cnt4 40) ∧ Aside0 (TB w w' g g2 mB g 8000 j cnt4 cnt (v2 val l1 j dr) val (keptF val l1 j) X4 X2) ∧ Aside0 (∀ q : Nat, q < j → n2 + q < i → n2 + q ≤ 200 → val (rowA l1 q) = none → rowA l1 q ∈ dr))
              case atStart => exact ⟨0, X3, cnt3, [], rfl, ⟨Nat.zero_add _⟩, HL3, S3, ⟨fun q _ h => absurd h (by omega)⟩⟩
              case round =>
                obtain ⟨i, X4, cnt4, dr, rfl, HJ, HL, TT, DI⟩ := hrel
                have hj := HJ.out
                have BW := Aside0.mk (show Below w.heap.size w wr by rw [HG.out]; exact TT.out.bel)
                cases gk with
                | succ k =>
                  have e1 : decide ((i : Int) < (n2 : Int) + 20) = true := decide_eq_true (by omega)
                  have e2 : decide (i < n2 + 20) = true := decide_eq_true (by omega)
                  have p1 : 0 ≤ (i : Int) := by omega
                  have p2 : (n2 : Int) ≤ 140737488351232 := by omega
                  have p3 : (i : Int) ≤ 140737488351272 := by omega
                  have HI := Aside0.mk (show i < n2 + 20 by omega)
                  by_cases hi : i < n2
                  · have d1 : decide (i < n2) = true := decide_eq_true hi
                    have q1 : (i : Int) < (n2 : Int) := by omega
                    obtain ⟨ad, e0, hx0⟩ := at_int (Kd.C_below R2.out BW.out) i (by rw [HN2.out]; omega)
                    cases e0
                    have KX := Aside0.mk (OK.out.2.2.1 _ (rd_mem l2 i (by rw [HN2.out]; omega)))
                    obtain ⟨z, hz⟩ : ∃ z, rd l2 i = z := ⟨_, rfl⟩
                    rw [hz] at hx0 KX
                    have ZQ := Aside0.mk (show ∀ q : Nat, n2 + q = i → z = (q : Int) from fun q hq => by omega)
                    clear hj hz hi
                    go_upto_region 21 with (fail)
                    clear hx0 d1 q1
                    have hlk := TT.out.mp.look KX.out
                    by_cases sk : i > 200 ∨ z < 0 ∨ z ≥ (n1 : Int) ∨ z ≥ 20 ∨ keptF val l1 j z = true
                    · have SK := Aside0.mk sk
                      have NEXT := Aside0.mk (show ∀ q : Nat, q < j → n2 + q < i + 1 → n2 + q ≤ 200 → val (rowA l1 q) = none → rowA l1 q ∈ dr from fun q h1 h2 h3 h4 => by
                        by_cases e : n2 + q < i
                        · exact DI.out q h1 e h3 h4
                        · have hz := ZQ.out q (by omega)
                          have hM := MJ.out
                          rcases SK.out with k | k | k | k | k
                          · omega
                          · omega
                          · omega
                          · omega
                          · rw [hz] at k
                            unfold keptF at k
                            rw [Int.toNat_natCast, h4] at k
                            simp at k)
                      have facts : (decide ((i : Int) > 200) = true ∧ decide (200 < i) = true) ∨ (decide ((i : Int) > 200) = false ∧ decide (200 < i) = false ∧ decide (z < 0) = true) ∨ (decide ((i : Int) > 200) = false ∧ decide (200 < i) = false ∧ decide (z < 0) = false ∧ decide (z ≥ (n1 : Int)) = true) ∨ (decide ((i : Int) > 200) = false ∧ decide (200 < i) = false ∧ decide (z < 0) = false ∧ decide (z ≥ (n1 : Int)) = false ∧ decide (z ≥ 20) = true) ∨ (decide ((i : Int) > 200) = false ∧ decide (200 < i) = false ∧ decide (z < 0) = false ∧ decide (z ≥ (n1 : Int)) = false ∧ decide (z ≥ 20) = false ∧ keptF val l1 j z = true) := by
                        by_cases k1 : i > 200
                        · exact .inl ⟨decide_eq_true (by omega), decide_eq_true k1⟩
                        by_cases k2 : z < 0
                        · exact .inr (.inl ⟨decide_eq_false (by omega), decide_eq_false k1, decide_eq_true k2⟩)
                        by_cases k3 : z ≥ (n1 : Int)
                        · exact .inr (.inr (.inl ⟨decide_eq_false (by omega), decide_eq_false k1, decide_eq_false k2, decide_eq_true k3⟩))
                        by_cases k4 : z ≥ 20
                        · exact .inr (.inr (.inr (.inl ⟨decide_eq_false (by omega), decide_eq_false k1, decide_eq_false k2, decide_eq_false k3, decide_eq_true k4⟩)))
                        · refine .inr (.inr (.inr (.inr ⟨decide_eq_false (by omega), decide_eq_false k1, decide_eq_false k2, decide_eq_false k3, decide_eq_false k4, ?_⟩)))
                          rcases sk with k | k | k | k | k
                          · exact absurd k k1
                          · exact absurd k k2
                          · exact absurd k k3
                          · exact absurd k k4
                          · exact k
                      clear sk
                      rcases facts with ⟨f1, f2⟩ | ⟨f1, f2, f3⟩ | ⟨f1, f2, f3, f4⟩ | ⟨f1, f2, f3, f4, f5⟩ | ⟨f1, f2, f3, f4, f5, f6⟩
                      · go_wp2
                        go_roundg k
                        case measure => omega
                        case rel => exact ⟨i + 1, X4, cnt4, dr, by go_num, ⟨by have := HJ.out; omega⟩, HL, TT, NEXT⟩
                      · go_wp2
                        go_roundg k
                        case measure => omega
                        case rel => exact ⟨i + 1, X4, cnt4, dr, by go_num, ⟨by have := HJ.out; omega⟩, HL, TT, NEXT⟩
                      · go_wp2
                        go_roundg k
                        case measure => omega
                        case rel => exact ⟨i + 1, X4, cnt4, dr, by go_num, ⟨by have := HJ.out; omega⟩, HL, TT, NEXT⟩
                      · go_wp2
                        go_roundg k
                        case measure => omega
                        case rel => exact ⟨i + 1, X4, cnt4, dr, by go_num, ⟨by have := HJ.out; omega⟩, HL, TT, NEXT⟩
                      · rw [f6] at hlk
                        clear f6
                        go_wp2
                        go_roundg k
                        case measure => omega
                        case rel => exact ⟨i + 1, X4, cnt4, dr, by go_num, ⟨by have := HJ.out; omega⟩, HL, TT, NEXT⟩
                    · have k1 : ¬ i > 200 := fun h => sk (.inl h)
                      have k2 : ¬ z < 0 := fun h => sk (.inr (.inl h))
                      have k3 : ¬ z ≥ (n1 : Int) := fun h => sk (.inr (.inr (.inl h)))
                      have k4 : ¬ z ≥ 20 := fun h => sk (.inr (.inr (.inr (.inl h))))
                      have k5 : keptF val l1 j z = false := by
                        cases e : keptF val l1 j z with
                        | false => rfl
                        | true => exact absurd (.inr (.inr (.inr (.inr e)))) sk
                      rw [k5] at hlk
                      obtain ⟨q, rfl⟩ : ∃ q : Nat, z = (q : Int) := ⟨z.toNat, (Int.toNat_of_nonneg (by omega)).symm⟩
                      have hM := MJ.out
                      have hqj : q < j := by omega
                      have VN := Aside0.mk (show val (rowA l1 q) = none by
                        unfold keptF at k5
                        rw [decide_eq_true (by omega), decide_eq_true (by omega), Int.toNat_natCast] at k5
                        simpa using k5)
                      have f1 : decide ((i : Int) > 200) = false := decide_eq_false (by omega)
                      have f2 : decide (200 < i) = false := decide_eq_false k1
                      have f3 : decide ((q : Int) < 0) = false := decide_eq_false k2
                      have f4 : decide (n1 ≤ q) = false := decide_eq_false (by omega)
                      have f4' : decide ((q : Int) ≥ (n1 : Int)) = false := decide_eq_false k3
                      have f5 : decide (20 ≤ q) = false := decide_eq_false (by omega)
                      have f5' : decide ((q : Int) ≥ 20) = false := decide_eq_false k4
                      have r1 : 0 ≤ (q : Int) := by omega
                      have r2 : (q : Int) < (n1 : Int) := by omega
                      obtain ⟨adr_, A', c', e0, hx1, hl1, hC1⟩ := at_row (Kd.C_below R1.out BW.out) q (by rw [HN1.out]; omega)
                      cases e0
                      have OR := Aside0.mk (okL_take (OK.out.2.1 _ (row_mem l1 q (by rw [HN1.out]; omega))) 140)
                      have FC := Aside0.mk (few_calls A' c' (row l1 q) 140 (by omega) wr hC1 hl1)
                      have ht : (row l1 q).take 140 = rowA l1 q := rfl
                      obtain ⟨nr, hnr⟩ : ∃ nr, (row l1 q).length = nr := ⟨_, rfl⟩
                      rw [ht] at FC OR
                      rw [hnr] at FC hx1
                      obtain ⟨t, htt⟩ : ∃ t, rowA l1 q = t := ⟨_, rfl⟩
                      have HTT := Aside0.mk htt
                      rw [htt] at FC OR VN
                      have NEXT := Aside0.mk (show ∀ q' : Nat, q' < j → n2 + q' < i + 1 → n2 + q' ≤ 200 → val (rowA l1 q') = none → rowA l1 q' ∈ t :: dr from fun q' h1 h2 h3 h4 => by
                        by_cases e : n2 + q' < i
                        · exact List.mem_cons_of_mem _ (DI.out q' h1 e h3 h4)
                        · have hz := ZQ.out q' (by omega)
                          have : q = q' := by omega
                          subst this
                          rw [htt]
                          exact List.mem_cons_self)
                      clear sk k1 k2 k3 k4 k5 hM hqj hl1 hC1 ht hnr htt
                      go_wp2_with (first
                        | (go_at_call 13; go_loud ((refine FC.out.mono ?_); rintro e w6 ⟨A6, c6, rfl, hR, hb⟩; have F6 := Aside0.mk (fresh_F TT.out.a.tr hR); have C6 := Aside0.mk (Kd.R_reads' hR).2.1; have T6 := Aside0.mk (TT.out.below hb); clear hR hb))
                        | (go_at_call 19; go_loud ((refine (drop_calls g 0 8000 X4 A6 c6 t cnt4 w6 T6.out.a.tr T6.out.a.ct F6.out C6.out OR.out (by have := HL.out.range; omega)).mono ?_); rintro e w7 ⟨he, d⟩; subst he; rw [T6.out.a.vl] at d; obtain ⟨X7, t7⟩ := T6.out.first (N' := 8000) (by omega) d; have T7 := Aside0.mk t7; clear d t7)))
                      go_roundg k
                      case measure => omega
                      case rel => exact ⟨i + 1, X7, _, t :: dr, by go_num, ⟨by have := HJ.out; omega⟩, ⟨by rw [← v2_drop VN.out]; exact HL.out.drop t⟩, ⟨by rw [← v2_drop VN.out]; exact T7.out⟩, NEXT⟩
                  · have d1 : decide (i < n2) = false := decide_eq_false hi
                    obtain ⟨z, hz⟩ : ∃ z, (i : Int) - (n2 : Int) = z := ⟨_, rfl⟩
                    have KX := Aside0.mk (show i64 z by unfold i64; omega)
                    have ZQ := Aside0.mk (show ∀ q : Nat, n2 + q = i → z = (q : Int) from fun q hq => by omega)
                    have ZB := Aside0.mk hz
                    clear hj hi hz
                    go_upto_region 21 with (fail)
                    rw [ZB.out]
                    clear d1
                    have hlk := TT.out.mp.look KX.out
                    by_cases sk : i > 200 ∨ z < 0 ∨ z ≥ (n1 : Int) ∨ z ≥ 20 ∨ keptF val l1 j z = true
                    · have SK := Aside0.mk sk
                      have NEXT := Aside0.mk (show ∀ q : Nat, q < j → n2 + q < i + 1 → n2 + q ≤ 200 → val (rowA l1 q) = none → rowA l1 q ∈ dr from fun q h1 h2 h3 h4 => by
                        by_cases e : n2 + q < i
                        · exact DI.out q h1 e h3 h4
                        · have hz := ZQ.out q (by omega)
                          have hM := MJ.out
                          rcases SK.out with k | k | k | k | k
                          · omega
                          · omega
                          · omega
                          · omega
                          · rw [hz] at k
                            unfold keptF at k
                            rw [Int.toNat_natCast, h4] at k
                            simp at k)
                      have facts : (decide ((i : Int) > 200) = true ∧ decide (200 < i) = true) ∨ (decide ((i : Int) > 200) = false ∧ decide (200 < i) = false ∧ decide (z < 0) = true) ∨ (decide ((i : Int) > 200) = false ∧ decide (200 < i) = false ∧ decide (z < 0) = false ∧ decide (z ≥ (n1 : Int)) = true) ∨ (decide ((i : Int) > 200) = false ∧ decide (200 < i) = false ∧ decide (z < 0) = false ∧ decide (z ≥ (n1 : Int)) = false ∧ decide (z ≥ 20) = true) ∨ (decide ((i : Int) > 200) = false ∧ decide (200 < i) = false ∧ decide (z < 0) = false ∧ decide (z ≥ (n1 : Int)) = false ∧ decide (z ≥ 20) = false ∧ keptF val l1 j z = true) := by
                        by_cases k1 : i > 200
                        · exact .inl ⟨decide_eq_true (by omega), decide_eq_true k1⟩
                        by_cases k2 : z < 0
                        · exact .inr (.inl ⟨decide_eq_false (by omega), decide_eq_false k1, decide_eq_true k2⟩)
                        by_cases k3 : z ≥ (n1 : Int)
                        · exact .inr (.inr (.inl ⟨decide_eq_false (by omega), decide_eq_false k1, decide_eq_false k2, decide_eq_true k3⟩))
                        by_cases k4 : z ≥ 20
                        · exact .inr (.inr (.inr (.inl ⟨decide_eq_false (by omega), decide_eq_false k1, decide_eq_false k2, decide_eq_false k3, decide_eq_true k4⟩)))
                        · refine .inr (.inr (.inr (.inr ⟨decide_eq_false (by omega), decide_eq_false k1, decide_eq_false k2, decide_eq_false k3, decide_eq_false k4, ?_⟩)))
                          rcases sk with k | k | k | k | k
                          · exact absurd k k1
                          · exact absurd k k2
                          · exact absurd k k3
                          · exact absurd k k4
                          · exact k
                      clear sk
                      rcases facts with ⟨f1, f2⟩ | ⟨f1, f2, f3⟩ | ⟨f1, f2, f3, f4⟩ | ⟨f1, f2, f3, f4, f5⟩ | ⟨f1, f2, f3, f4, f5, f6⟩
                      · go_wp2
                        go_roundg k
                        case measure => omega
                        case rel => exact ⟨i + 1, X4, cnt4, dr, by go_num, ⟨by have := HJ.out; omega⟩, HL, TT, NEXT⟩
                      · go_wp2
                        go_roundg k
                        case measure => omega
                        case rel => exact ⟨i + 1, X4, cnt4, dr, by go_num, ⟨by have := HJ.out; omega⟩, HL, TT, NEXT⟩
                      · go_wp2
                        go_roundg k
                        case measure => omega
                        case rel => exact ⟨i + 1, X4, cnt4, dr, by go_num, ⟨by have := HJ.out; omega⟩, HL, TT, NEXT⟩
                      · go_wp2
                        go_roundg k
                        case measure => omega
                        case rel => exact ⟨i + 1, X4, cnt4, dr, by go_num, ⟨by have := HJ.out; omega⟩, HL, TT, NEXT⟩
                      · rw [f6] at hlk
                        clear f6
                        go_wp2
                        go_roundg k
                        case measure => omega
                        case rel => exact ⟨i + 1, X4, cnt4, dr, by go_num, ⟨by have := HJ.out; omega⟩, HL, TT, NEXT⟩
                    · have k1 : ¬ i > 200 := fun h => sk (.inl h)
                      have k2 : ¬ z < 0 := fun h => sk (.inr (.inl h))
                      have k3 : ¬ z ≥ (n1 : Int) := fun h => sk (.inr (.inr (.inl h)))
                      have k4 : ¬ z ≥ 20 := fun h => sk (.inr (.inr (.inr (.inl h))))
                      have k5 : keptF val l1 j z = false := by
                        cases e : keptF val l1 j z with
                        | false => rfl
                        | true => exact absurd (.inr (.inr (.inr (.inr e)))) sk
                      rw [k5] at hlk
                      obtain ⟨q, rfl⟩ : ∃ q : Nat, z = (q : Int) := ⟨z.toNat, (Int.toNat_of_nonneg (by omega)).symm⟩
                      have hM := MJ.out
                      have hqj : q < j := by omega
                      have VN := Aside0.mk (show val (rowA l1 q) = none by
                        unfold keptF at k5
                        rw [decide_eq_true (by omega), decide_eq_true (by omega), Int.toNat_natCast] at k5
                        simpa using k5)
                      have f1 : decide ((i : Int) > 200) = false := decide_eq_false (by omega)
                      have f2 : decide (200 < i) = false := decide_eq_false k1
                      have f3 : decide ((q : Int) < 0) = false := decide_eq_false k2
                      have f4 : decide (n1 ≤ q) = false := decide_eq_false (by omega)
                      have f4' : decide ((q : Int) ≥ (n1 : Int)) = false := decide_eq_false k3
                      have f5 : decide (20 ≤ q) = false := decide_eq_false (by omega)
                      have f5' : decide ((q : Int) ≥ 20) = false := decide_eq_false k4
                      have r1 : 0 ≤ (q : Int) := by omega
                      have r2 : (q : Int) < (n1 : Int) := by omega
                      obtain ⟨adr_, A', c', e0, hx1, hl1, hC1⟩ := at_row (Kd.C_below R1.out BW.out) q (by rw [HN1.out]; omega)
                      cases e0
                      have OR := Aside0.mk (okL_take (OK.out.2.1 _ (row_mem l1 q (by rw [HN1.out]; omega))) 140)
                      have FC := Aside0.mk (few_calls A' c' (row l1 q) 140 (by omega) wr hC1 hl1)
                      have ht : (row l1 q).take 140 = rowA l1 q := rfl
                      obtain ⟨nr, hnr⟩ : ∃ nr, (row l1 q).length = nr := ⟨_, rfl⟩
                      rw [ht] at FC OR
                      rw [hnr] at FC hx1
                      obtain ⟨t, htt⟩ : ∃ t, rowA l1 q = t := ⟨_, rfl⟩
                      have HTT := Aside0.mk htt
                      rw [htt] at FC OR VN
                      have NEXT := Aside0.mk (show ∀ q' : Nat, q' < j → n2 + q' < i + 1 → n2 + q' ≤ 200 → val (rowA l1 q') = none → rowA l1 q' ∈ t :: dr from fun q' h1 h2 h3 h4 => by
                        by_cases e : n2 + q' < i
                        · exact List.mem_cons_of_mem _ (DI.out q' h1 e h3 h4)
                        · have hz := ZQ.out q' (by omega)
                          have : q = q' := by omega
                          subst this
                          rw [htt]
                          exact List.mem_cons_self)
                      clear sk k1 k2 k3 k4 k5 hM hqj hl1 hC1 ht hnr htt
                      go_wp2_with (first
                        | (go_at_call 13; go_loud ((refine FC.out.mono ?_); rintro e w6 ⟨A6, c6, rfl, hR, hb⟩; have F6 := Aside0.mk (fresh_F TT.out.a.tr hR); have C6 := Aside0.mk (Kd.R_reads' hR).2.1; have T6 := Aside0.mk (TT.out.below hb); clear hR hb))
                        | (go_at_call 19; go_loud ((refine (drop_calls g 0 8000 X4 A6 c6 t cnt4 w6 T6.out.a.tr T6.out.a.ct F6.out C6.out OR.out (by have := HL.out.range; omega)).mono ?_); rintro e w7 ⟨he, d⟩; subst he; rw [T6.out.a.vl] at d; obtain ⟨X7, t7⟩ := T6.out.first (N' := 8000) (by omega) d; have T7 := Aside0.mk t7; clear d t7)))
                      go_roundg k
                      case measure => omega
                      case rel => exact ⟨i + 1, X7, _, t :: dr, by go_num, ⟨by have := HJ.out; omega⟩, ⟨by rw [← v2_drop VN.out]; exact HL.out.drop t⟩, ⟨by rw [← v2_drop VN.out]; exact T7.out⟩, NEXT⟩
                | zero =>
                  have hin : i = n2 + 20 := by omega
                  subst hin
                  have e1 : decide ((((n2 + 20 : Nat)) : Int) < (n2 : Int) + 20) = false := decide_eq_false (by omega)
                  have e2 : decide (n2 + 20 < n2 + 20) = false := decide_eq_false (by omega)
                  have e3 : decide ((n2 : Int) + 20 < (n2 : Int) + 20) = false := decide_eq_false (by omega)
                  have p2 : (n2 : Int) ≤ 140737488351232 := by omega
                  clear hj
                  by_cases h180 : n2 > 180
                  · have d1 : decide ((n2 : Int) > 180) = true := decide_eq_true (by omega)
                    have d2 : decide (180 < n2) = true := decide_eq_true h180
                    clear h180
                    go_wp2_with (go_at_call 9; go_loud ((refine (awake_calls _).mono ?_); rintro e w5 ⟨rfl, hb⟩; have T5 := Aside0.mk (TT.out.below hb); clear hb))
                    go_ret
                    exact ⟨rfl, by rw [HG.out]; exact T5.out.bel⟩
                  · have d1 : decide ((n2 : Int) > 180) = false := decide_eq_false (by omega)
                    have d2 : decide (180 < n2) = false := decide_eq_false h180
                    have EV : v2 val l1 j dr = val := v2_end (fun q hq hv => DI.out q hq (by have := MJ.out; omega) (by have := MJ.out; omega) hv)
                    rw [EV] at HL TT
                    have HCC := Aside0.mk (HL.out.same HL1.out)
                    obtain ⟨l, hrep, hcnt, hlen⟩ := HL1.out
                    have LR := Aside0.mk hrep
                    have LL := Aside0.mk hlen
                    have LS := Aside0.mk (rep_short TT.out.b.tr (l := l) (by rw [TT.out.b.vl]; exact hrep))
                    rw [HCC.out] at TT
                    have f1 : (cnt == cnt) = true := by simp
                    clear h180 EV hrep hcnt hlen HCC
                    go_wp2_with (first
                      | (go_at_call 12; (with_reducible refine (count_calls g2 0 cnt w10 T10.out.b.ct).mono ?_); rintro e w12 ⟨rfl, rfl⟩)
                      | (go_at_call 12; (with_reducible refine (count_calls g 0 cnt w10 T10.out.a.ct).mono ?_); rintro e w11 ⟨rfl, rfl⟩)
                      | (go_at_call 16; go_loud ((refine (same_calls A7 A9 c7 c9 l w9 (Kd.C_below C7.out B9.out) L7.out C9.out L9.out (by have := LL.out; omega) LS.out).mono ?_); rintro e w10 ⟨rfl, hb⟩; have T10 := Aside0.mk (T9.out.below hb); clear hb))
                      | (go_at_call 17; (with_reducible refine (told_calls A8 c8 l _ _ w8 R8.out (by have := LL.out; omega)).mono ?_); rintro e w9 ⟨A9, c9, rfl, hle, hC, hb⟩; have T9 := Aside0.mk (T8.out.below hb); have L9 := Aside0.mk hle; have C9 := Aside0.mk hC; have B9 := Aside0.mk (B8.out.trans (hb.mono B8.out.size)); clear hle hC hb)
                      | (go_at_call 15; (with_reducible refine (all_told T7.out.b LR.out (by omega) (by have := LL.out; omega)).mono ?_); rintro e w8 ⟨A8, c8, rfl, hR, hb⟩; have T8 := Aside0.mk (T7.out.below hb); have R8 := Aside0.mk hR; have B8 := Aside0.mk hb; clear hR hb)
                      | (go_at_call 17; (with_reducible refine (told_calls A6 c6 l _ _ w6 R6.out (by have := LL.out; omega)).mono ?_); rintro e w7 ⟨A7, c7, rfl, hle, hC, hb⟩; have T7 := Aside0.mk (T6.out.below hb); have L7 := Aside0.mk hle; have C7 := Aside0.mk hC; clear hle hC hb)
                      | (go_at_call 15; go_loud ((refine (all_told T5.out.a LR.out (by omega) (by have := LL.out; omega)).mono ?_); rintro e w6 ⟨A6, c6, rfl, hR, hb⟩; have T6 := Aside0.mk (T5.out.below hb); have R6 := Aside0.mk hR; clear hR hb))
                      | (go_at_call 9; go_loud ((refine (awake_calls _).mono ?_); rintro e w5 ⟨rfl, hb⟩; have T5 := Aside0.mk (TT.out.below hb); clear hb)))
                    go_ret
                    exact ⟨rfl, by rw [HG.out]; exact T10.out.bel⟩))
end Go.Proofs.Ytfnogcppbhggpaa.OTBack
