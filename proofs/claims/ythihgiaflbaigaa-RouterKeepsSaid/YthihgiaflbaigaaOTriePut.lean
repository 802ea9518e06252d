/- (*Trie).Put, walked by hand. Written by this session's program otput.py. -/
import Derived.Test.YthihgiaflbaigaaOTrieAt
import Derived.WalkSpells
set_option linter.unusedVariables false
set_option linter.unusedSimpArgs false
namespace Go.Proofs.Ythihgiaflbaigaa.OTrie
open Go.RowKit Go.Proofs.YthihgiaflbaigaaW.PrintWords Go.Proofs.YthihgiaflbaigaaW.PrintLast Go.Proofs.YthihgiaflbaigaaW.PrintMore Go.Proofs.Ythihgiaflbaigaa.GQ Go.Proofs.Ythihgiaflbaigaa.OMap Go.Proofs.Ythihgiaflbaigaa.UTrie Go.Maps
/-- What Put makes of the values, of how many there are; is it new; the error's number. -/
def tPut (val : Row → Option Int) (cnt : Int) (l : Row) (v : Int) : (Row → Option Int) × Int × Bool × Int :=
  if l.length = 0 then (val, cnt, false, 8)
  else if l.length > 128 then (val, cnt, false, 2)
  else if (val l).isSome = true then (upd val l (some v), cnt, false, 0)
  else if cnt ≥ 1000 then (val, cnt, false, 10)
  else (upd val l (some v), cnt + 1, true, 0)
def Done (n : Nat) (w w' : World) (g o N : Nat) (X : TX) (val : Row → Option Int) (cnt : Int) : Prop := ∃ X', TrieAt w' g o N X' ∧ CntAt w' g o cnt ∧ X'.val = val ∧ Post n w w' g o X X'
theorem Done.same {w w' : World} {g o N N' : Nat} {X : TX} {cnt : Int} (h : TrieAt w g o N X) (hc : CntAt w g o cnt) (hb : Below w.heap.size w w') (hn : N ≤ N') : Done 4 w w' g o N' X X.val cnt :=
  ⟨X, (h.below hb).mono hn, hc.below hb, rfl, Post.of_below hb⟩
theorem CntAt.post {w w' : World} {g o : Nat} {X X' : TX} {cnt : Int} (h : CntAt w g o cnt) (hp : Post 3 w w' g o X X') : CntAt w' g o cnt := by
  obtain ⟨cs, t, h1, h2⟩ := h
  obtain ⟨cs', e, _, r⟩ := hp.rest cs t h1
  exact ⟨cs', t, e, by rw [r (o + 3) (.inr (Nat.le_refl _))]; exact h2⟩
/-- A value written over at a node that has one. -/
theorem over_at {w : World} {g o N : Nat} {X : TX} {p : Row} {a b : Nat} {u : Int} (h : TrieAt w g o N X) (hp : X.nd p = some (a, b)) (hv : X.val p = some u) (v : Int) :
    TrieAt (w.setCell ⟨a, b + 2, none⟩ (.int .i64 v)) g o N { X with val := upd X.val p (some v) } ∧ Post 3 w (w.setCell ⟨a, b + 2, none⟩ (.int .i64 v)) g o X { X with val := upd X.val p (some v) } := by
  refine ⟨h.value hp (some v) ?_ (fun k _ hk => Below.heap_setCell _ _ _ _ hk), (Post.set (X := X) _ (.inl ⟨p, b, hp⟩) (fun e => ?_)).view (fun k hk => .inl hk)⟩
  · obtain ⟨cs, t, h1, h2, h3, h4⟩ := h.node p a b hp
    rw [hv] at h3
    refine ⟨_, t, blk_set h1 (b + 2) _, ?_, ?_, ?_⟩
    · rw [Array.getElem?_setIfInBounds_ne (by omega)]; exact h2
    · rw [Array.getElem?_setIfInBounds_ne (by omega)]; exact h3
    · rw [Array.getElem?_setIfInBounds_self_of_lt ((Array.getElem?_eq_some_iff.1 h4).1)]; rfl
  · subst e
    have := h.injN p [] a b o hp h.root
    subst this
    have := h.root
    rw [hp] at this
    cases this
    omega
/-- A value written at a node. -/
theorem put_at {w : World} {g o N : Nat} {X : TX} {p : Row} {a b : Nat} (h : TrieAt w g o N X) (hp : X.nd p = some (a, b)) (v : Option Int) :
    TrieAt ((w.setCell ⟨a, b + 1, none⟩ (.bool v.isSome)).setCell ⟨a, b + 2, none⟩ (.int .i64 (v.getD 0))) g o N { X with val := upd X.val p v } ∧ Post 3 w ((w.setCell ⟨a, b + 1, none⟩ (.bool v.isSome)).setCell ⟨a, b + 2, none⟩ (.int .i64 (v.getD 0))) g o X { X with val := upd X.val p v } := by
  have ha : a = g → b = o := fun e => by
    subst e
    have := h.injN p [] a b o hp h.root
    subst this
    have := h.root
    rw [hp] at this
    cases this
    rfl
  refine ⟨h.value hp v ?_ (fun k _ hk => (Below.heap_setCell _ _ _ _ hk).trans (Below.heap_setCell _ _ _ _ hk)), ((Post.set (X := X) _ (.inl ⟨p, b, hp⟩) (fun e => by have := ha e; omega)).trans (Post.set (X := X) _ (.inl ⟨p, b, hp⟩) (fun e => by have := ha e; omega))).view (fun k hk => .inl hk)⟩
  obtain ⟨cs, t, h1, h2, h3, h4⟩ := h.node p a b hp
  refine ⟨_, t, blk_set (blk_set h1 (b + 1) _) (b + 2) _, ?_, ?_, ?_⟩
  · rw [Array.getElem?_setIfInBounds_ne (by omega), Array.getElem?_setIfInBounds_ne (by omega)]; exact h2
  · rw [Array.getElem?_setIfInBounds_ne (by omega), Array.getElem?_setIfInBounds_self_of_lt ((Array.getElem?_eq_some_iff.1 h3).1)]
  · rw [Array.getElem?_setIfInBounds_self_of_lt (by rw [Array.size_setIfInBounds]; exact (Array.getElem?_eq_some_iff.1 h4).1)]
theorem node_set {w : World} {a b : Nat} {m m' : Option Nat} {v : Option Int} (h : NodeAt w a b m v) : NodeAt (w.setCell ⟨a, b, none⟩ (.map m')) a b m' v := by
  obtain ⟨cs, t, h1, h2, h3, h4⟩ := h
  refine ⟨_, t, blk_set h1 b _, ?_, ?_, ?_⟩
  · rw [Array.getElem?_setIfInBounds_self_of_lt ((Array.getElem?_eq_some_iff.1 h2).1)]
  · rw [Array.getElem?_setIfInBounds_ne (by omega)]; exact h3
  · rw [Array.getElem?_setIfInBounds_ne (by omega)]; exact h4
/-- A map is made for a node. -/
theorem map_made {w : World} {g o N : Nat} {X : TX} {p : Row} {a b : Nat} (h : TrieAt w g o N X) (hp : X.nd p = some (a, b)) (hm : X.mp p = none) :
    TrieAt ((w.alloc (.map #[] 0)).setCell ⟨a, b, none⟩ (.map (some w.heap.size))) g o N { X with mp := fun q => if q = p then some w.heap.size else X.mp q } ∧ Post 3 w ((w.alloc (.map #[] 0)).setCell ⟨a, b, none⟩ (.map (some w.heap.size))) g o X { X with mp := fun q => if q = p then some w.heap.size else X.mp q } := by
  have hlt := (h.node p a b hp).lt
  have ha : a = g → b = o := fun e => by
    subst e
    have := h.injN p [] a b o hp h.root
    subst this
    have := h.root
    rw [hp] at this
    cases this
    rfl
  have hb := below_alloc (Below.refl w.heap.size w) (.map #[] 0)
  refine ⟨h.newMap hp hm (fun hf => by have := foot_lt h hf; omega) ?_ ?_ (fun k hk hne => ?_), ((Post.of_below (X := X) hb).trans (Post.set (X := X) _ (.inl ⟨p, b, hp⟩) (fun e => by have := ha e; omega))).view (fun k hk => ?_)⟩
  · exact node_set ((h.node p a b hp).block (hb.block a hlt))
  · exact (((MapAt.made w).mono (Nat.zero_le N)).block (Below.heap_setCell (w.alloc (.map #[] 0)) ⟨a, b, none⟩ _ _ (show w.heap.size ≠ a by omega)))
  · exact (Below.heap_setCell _ _ _ _ hne).trans (hb.block k (foot_lt h hk))
  · rcases hk with ⟨q, b', hq⟩ | ⟨q, hq, hmq⟩
    · exact .inl (.inl ⟨q, b', hq⟩)
    · have hm2 : (if q = p then some w.heap.size else X.mp q) = some k := hmq
      by_cases e : q = p
      · rw [if_pos e] at hm2
        cases hm2
        exact .inr (Nat.le_refl _)
      · rw [if_neg e] at hm2
        exact .inl (.inr ⟨q, hq, hm2⟩)
/-- A node is made below another one. -/
theorem kid_made {W w0 w3 : World} {g o MM : Nat} {X0 X1 : TX} {p : Row} {x : Int} {a b m : Nat} {cnt : Int} {D : DT} {val : Row → Option Int} (h : TrieAt W g o MM X1) (hp : X1.nd p = some (a, b)) (hm : X1.mp p = some m) (h0 : X1.nd (p ++ [x]) = none) (hl : p.length < 128) (hx : i64 x)
    (hP : Post 3 w0 W g o X0 X1) (hC : CntAt W g o cnt) (d2 : ∀ x, i64 x → has D (ik x) = (kidOf X1 p x).isSome) (d3 : ∀ x g, kidOf X1 p x = some g → i64 x ∧ D.atKey (ik x) pz = .lit (.int .i64 (g : Int)))
    (ho : w3.ownsMap Try.prog 3 pe m (MM + 1) (D.put (ik x) (.lit (.int .i64 (W.heap.size : Int))))) (ht : (W.alloc (.cells #[.map none, .bool false, .int .i64 0] 75 (0, 0))).mapTurned w3 m) (hv : X1.val = val)
    (d1 : W.ownsMap Try.prog 3 pe m MM D) :
    ∃ X3 : TX, TrieAt w3 g o (MM + 1) X3 ∧ X3.nd p = some (a, b) ∧ X3.nd (p ++ [x]) = some (W.heap.size, 0) ∧ X3.mp p = some m ∧ X3.val = val ∧ Post 3 w0 w3 g o X0 X3 ∧ CntAt w3 g o cnt := by
  have hpn : X1.nd p ≠ none := by rw [hp]; simp
  have hpp : p ≠ p ++ [x] := fun e => by rw [← e] at h0; exact hpn h0
  have hb := below_alloc (Below.refl W.heap.size W) (.cells #[.map none, .bool false, .int .i64 0] 75 (0, 0))
  have hmlt := (h.map p m hpn hm).lt
  have hg := ht.grown
  have hM : MapAt w3 m (MM + 1) (turn (kidOf X1 p) x (some W.heap.size)) := MapAt.put d1 d2 d3 hx W.heap.size ho
  have hnew : NodeAt w3 W.heap.size 0 none none := by
    refine ⟨_, 75, (hg.block W.heap.size (by rw [World.size_alloc]; omega) (fun e => by injection e with e; omega)).trans (blk_new W _), rfl, rfl, rfl⟩
  have hnf : ¬ foot X1 W.heap.size := fun hf => by have := foot_lt h hf; omega
  have T3 := h.newKid hp hm h0 hl hnf hnew hM (fun j hj hne => (hg.block j (by rw [World.size_alloc]; have := foot_lt h hj; omega) (fun e => hne (by injection e))).trans (hb.block j (foot_lt h hj)))
  have PQ : Post 3 W w3 g o X1 { X1 with nd := fun q => if q = p ++ [x] then some (W.heap.size, 0) else X1.nd q, mp := fun q => if q = p ++ [x] then none else X1.mp q } := by
    refine ((Post.of_below (X := X1) hb).trans (Post.map (X := X1) ht (.inr ⟨p, hpn, hm⟩))).view (fun k hk => ?_)
    rcases hk with ⟨q, b', hq⟩ | ⟨q, hq, hmq⟩
    · have hq2 : (if q = p ++ [x] then some (W.heap.size, 0) else X1.nd q) = some (k, b') := hq
      by_cases e : q = p ++ [x]
      · rw [if_pos e] at hq2; cases hq2; exact .inr (Nat.le_refl _)
      · rw [if_neg e] at hq2; exact .inl (.inl ⟨q, b', hq2⟩)
    · have hq2 : (if q = p ++ [x] then some (W.heap.size, 0) else X1.nd q) ≠ none := hq
      have hm2 : (if q = p ++ [x] then none else X1.mp q) = some k := hmq
      by_cases e : q = p ++ [x]
      · rw [if_pos e] at hm2; cases hm2
      · rw [if_neg e] at hm2 hq2; exact .inl (.inr ⟨q, hq2, hm2⟩)
  exact ⟨_, T3, (if_neg hpp).trans hp, if_pos rfl, (if_neg hpp).trans hm, hv, hP.trans PQ, hC.post PQ⟩
/-- The count is written. -/
theorem count_set {w : World} {g o N : Nat} {X : TX} {cnt : Int} (h : TrieAt w g o N X) (hc : CntAt w g o cnt) (c : Int) :
    TrieAt (w.setCell ⟨g, o + 3, none⟩ (.int .i64 c)) g o N X ∧ Post 4 w (w.setCell ⟨g, o + 3, none⟩ (.int .i64 c)) g o X X ∧ CntAt (w.setCell ⟨g, o + 3, none⟩ (.int .i64 c)) g o c := by
  refine ⟨{ h with node := fun p a b hp => ?_, map := fun p m hp hm => ?_ }, Post.set _ (foot_root h) (fun _ => by omega), ?_⟩
  · by_cases e : a = g
    · subst e
      have := h.injN p [] a b o hp h.root
      subst this
      have h1 := h.root
      rw [hp] at h1
      cases h1
      obtain ⟨cs, t, h1, h2, h3, h4⟩ := h.node [] a _ hp
      refine ⟨_, t, blk_set h1 (o + 3) _, ?_, ?_, ?_⟩
      · rw [Array.getElem?_setIfInBounds_ne (by omega)]; exact h2
      · rw [Array.getElem?_setIfInBounds_ne (by omega)]; exact h3
      · rw [Array.getElem?_setIfInBounds_ne (by omega)]; exact h4
    · exact (h.node p a b hp).block (Below.heap_setCell _ _ _ _ e)
  · exact (h.map p m hp hm).block (Below.heap_setCell _ _ _ _ (fun e => node_map h h.root hp hm e.symm))
  · obtain ⟨cs, t, h1, h2⟩ := hc
    exact ⟨_, t, blk_set h1 (o + 3) _, by rw [Array.getElem?_setIfInBounds_self_of_lt ((Array.getElem?_eq_some_iff.1 h2).1)]⟩
theorem rd_F {w : World} {ok : Nat → Prop} {A : Option Addr} {l : List Int} (h : Kd.F kI w ok A l.length l) : Kd.C kI w A l.length l := Kd.F_now h
set_option maxHeartbeats 16000000 in
set_option maxRecDepth 100000 in
theorem put_calls (g o N : Nat) (X : TX) (A : Option Addr) (c : Nat) (l : List Int) (v cnt : Int) (w : World) (h : TrieAt w g o N X) (hc : CntAt w g o cnt) (hF : Kd.F kI w (fun k => ¬ foot X k) A l.length l) (hi : ∀ x ∈ l, i64 x) (hN : N ≤ 1000000000) (h0 : 0 ≤ cnt ∧ cnt ≤ 1000) :
    Calls Try.prog 39 #[.pointer (some ⟨g, o, none⟩), .slice A l.length c, .int .i64 v] w fun e w' => e = .returned (.tuple #[.bool (tPut X.val cnt l v).2.2.1, .int .i64 (tPut X.val cnt l v).2.2.2]) ∧ Done 4 w w' g o (N + 128) X (tPut X.val cnt l v).1 (tPut X.val cnt l v).2.1 := by
  have HS := Aside0.mk (Done.same (N' := N + 128) h hc (Below.refl _ _) (by omega))
  have HA := Aside0.mk (at_calls g o N X A c l w h (Kd.F_now hF) hi)
  obtain ⟨n, hn⟩ : ∃ n, l.length = n := ⟨_, rfl⟩
  have hmax : n ≤ 9223372036854775807 := by rw [← hn]; exact (Kd.F_now hF).2.1
  by_cases b1 : n = 0
  · have e0 : tPut X.val cnt l v = (X.val, cnt, false, 8) := by unfold tPut; rw [if_pos (by omega)]
    rw [e0, hn]
    subst b1
    clear h hc hF hi HA hn e0
    go_enter Try.func39, Try.ntmps39
    go_wp2
    go_ret2
    exact ⟨rfl, HS.out⟩
  by_cases b2 : n > 128
  · have e0 : tPut X.val cnt l v = (X.val, cnt, false, 2) := by unfold tPut; rw [if_neg (by omega), if_pos (by omega)]
    rw [e0, hn]
    have d1 : ((n : Int) == 0) = false := beq_eq_false_iff_ne.mpr (by omega)
    have d2 : decide ((n : Int) > 128) = true := decide_eq_true (by omega)
    have d3 : 128 < n := by omega
    clear h hc hF hi HA hn e0
    go_enter Try.func39, Try.ntmps39
    go_wp2
    go_ret2
    exact ⟨rfl, HS.out⟩
  have d1 : ((n : Int) == 0) = false := beq_eq_false_iff_ne.mpr (by omega)
  have d2 : decide ((n : Int) > 128) = false := decide_eq_false (by omega)
  have d3 : ¬ 128 < n := b2
  have d4 : ¬ n = 0 := b1
  have HN := Aside0.mk hn
  by_cases hv : (X.val l).isSome = true
  · have e0 : tPut X.val cnt l v = (upd X.val l (some v), cnt, false, 0) := by unfold tPut; rw [if_neg (by omega), if_neg (by omega), if_pos hv]
    rw [e0]
    obtain ⟨u, hu⟩ := Option.isSome_iff_exists.1 hv
    cases hk : X.nd l with
    | none => exact absurd hk (h.there l (by rw [hu]; simp))
    | some q =>
      obtain ⟨a, b⟩ := q
      obtain ⟨c0, c1, c2, c3⟩ := (h.node l a b hk).cells
      rw [hu] at c1 c2
      simp only [Option.isSome_some, Option.getD_some] at c1 c2
      rw [hk] at HA
      simp only [adr, Option.map_some] at HA
      have z2 := c3 (b + 2)
      have P := Aside0.mk (show Done 4 w (w.setCell ⟨a, b + 2, none⟩ (.int .i64 v)) g o (N + 128) X (upd X.val l (some v)) cnt from by
        obtain ⟨r1, r2⟩ := over_at h hk hu v
        exact ⟨_, r1.mono (by omega), hc.post r2, rfl, r2.wide (by omega)⟩)
      rw [hn] at HA ⊢
      clear h hc hF hi hn e0 hk hu hv c0 c3 HS
      go_enter Try.func39, Try.ntmps39
      go_wp2_with (go_at_call 47; (with_reducible refine HA.out.mono ?_); rintro e w' ⟨rfl, rfl⟩)
      go_ret2
      exact ⟨rfl, P.out⟩
  have hcell := hc.cell.1
  by_cases b3 : cnt ≥ 1000
  · have e0 : tPut X.val cnt l v = (X.val, cnt, false, 10) := by unfold tPut; rw [if_neg (by omega), if_neg (by omega), if_neg hv, if_pos b3]
    rw [e0]
    have d5 : decide (cnt ≥ 1000) = true := decide_eq_true b3
    cases hk : X.nd l with
    | none =>
      rw [hk] at HA
      simp only [adr, Option.map_none] at HA
      rw [hn] at HA ⊢
      clear h hc hF hi hn e0 hk hv
      go_enter Try.func39, Try.ntmps39
      go_wp2_with (go_at_call 47; (with_reducible refine HA.out.mono ?_); rintro e w' ⟨rfl, rfl⟩)
      go_ret2
      exact ⟨rfl, HS.out⟩
    | some q =>
      obtain ⟨a, b⟩ := q
      obtain ⟨c0, c1, c2, c3⟩ := (h.node l a b hk).cells
      have hu : X.val l = none := by simpa using hv
      rw [hu] at c1
      simp only [Option.isSome_none] at c1
      rw [hk] at HA
      simp only [adr, Option.map_some] at HA
      rw [hn] at HA ⊢
      clear h hc hF hi hn e0 hk hu hv c0 c2 c3
      go_enter Try.func39, Try.ntmps39
      go_wp2_with (go_at_call 47; (with_reducible refine HA.out.mono ?_); rintro e w' ⟨rfl, rfl⟩)
      go_ret2
      exact ⟨rfl, HS.out⟩
  have e0 : tPut X.val cnt l v = (upd X.val l (some v), cnt + 1, true, 0) := by unfold tPut; rw [if_neg (by omega), if_neg (by omega), if_neg hv, if_neg b3]
  rw [e0]
  have d5 : decide (cnt ≥ 1000) = false := decide_eq_false b3
  have HT := Aside0.mk h
  have HC := Aside0.mk hc
  have HF := Aside0.mk hF
  have HI := Aside0.mk hi
  have HNN := Aside0.mk (show N ≤ 1000000000 ∧ n ≤ 128 by omega)
  have R0 := Aside0.mk h.root
  have hu : X.val l = none := by simpa using hv
  have qm : ∀ (w : World) (r : Option Nat), (binOp .eql 73 (.map r) (.map none)).run Try.prog w = .ok (.bool r.isNone) w := fun w r => run_eql_map_nil w _ _ _ r Try.underlying73
  have hmm := @run_makeMap Try.prog
  have HA2 := Aside0.mk (show (X.nd l = none ∧ True) ∨ ∃ a b, X.nd l = some (a, b) ∧ w.cell? ⟨a, b + 1, none⟩ = some (.bool false) by
    cases hk : X.nd l with
    | none => exact .inl ⟨rfl, trivial⟩
    | some q =>
      obtain ⟨a, b⟩ := q
      have c1 := (h.node l a b hk).cells.2.1
      rw [hu] at c1
      exact .inr ⟨a, b, rfl, c1⟩)
  clear h hc hF hi e0 hv HS hu
  rw [hn] at HA ⊢
  clear hn
  go_enter Try.func39, Try.ntmps39
  rcases HA2.out with ⟨hk, _⟩ | ⟨a0, b0, hk, hc1⟩
  all_goals
    rw [hk] at HA
    simp only [adr, Option.map_none, Option.map_some] at HA
    clear hk HA2
    go_wp2_with (go_at_call 47; (with_reducible refine HA.out.mono ?_); rintro e w' ⟨rfl, rfl⟩)
    try clear hc1
    clear HA hcell
    go_loopg [9, 43] n (fun kq v9 v43 w' => ∃ (i a b : Nat) (X1 : TX), v9 = .pointer (some ⟨a, b, none⟩) ∧ v43 = .int .i64 (i : Int) ∧ Aside0 (i + kq = n) ∧ Aside0 (X1.nd (l.take i) = some (a, b)) ∧ Aside0 (TrieAt w' g o (N + i) X1) ∧ Aside0 (X1.val = X.val) ∧ Aside0 (Post 3 w w' g o X X1) ∧ Aside0 (CntAt w' g o cnt))
    case atStart => exact ⟨0, g, o, X, rfl, rfl, ⟨Nat.zero_add _⟩, R0, HT, ⟨rfl⟩, ⟨Post.refl⟩, HC⟩
    case round =>
      obtain ⟨i, a, b, X1, rfl, rfl, HJ, HP1, T1, HV1, P1, C1⟩ := hrel
      have hj := HJ.out
      obtain ⟨W, hW⟩ : ∃ W, W = wr := ⟨_, rfl⟩
      subst hW
      cases gk with
      | succ k =>
        have e1 : decide (i < n) = true := decide_eq_true (by omega)
        have p1 : 0 ≤ (i : Int) := by omega
        have q1 : (i : Int) < (n : Int) := by omega
        have x1 : (n : Int) ≤ 128 := by have := HNN.out.2; omega
        obtain ⟨ad, e0, hx0⟩ := at_int (Kd.F_now (Kd.F_kept HF.out P1.out.kept (fun k hk => hk))) i (by rw [HN.out]; omega)
        cases e0
        have ET := Aside0.mk (take_snoc l i (by rw [HN.out]; omega))
        have HX := Aside0.mk (HI.out _ (rd_mem l i (by rw [HN.out]; omega)))
        obtain ⟨x, hx⟩ : ∃ x, rd l i = x := ⟨_, rfl⟩
        rw [hx] at hx0 ET HX
        have HLT := Aside0.mk (show (l.take i).length < 128 by rw [List.length_take]; have := HNN.out.2; omega)
        obtain ⟨MM, hMM⟩ : ∃ MM, MM = N + i := ⟨_, rfl⟩
        rw [← hMM] at T1
        have HMM := Aside0.mk hMM
        have HNN := Aside0.mk (show MM ≤ 1000000128 by have := HNN.out; omega)
        clear hj hx hMM
        cases hm : X1.mp (l.take i) with
        | none =>
          have HK0 := T1.out.nomap (l.take i) (by rw [HP1.out]; simp) hm x
          obtain ⟨c0, _, _, c3⟩ := (T1.out.node _ a b HP1.out).cells
          rw [hm] at c0
          have z0 := c3 b
          have hb1 := below_alloc (Below.refl W.heap.size W) (.map #[] 0)
          have y0 := (hb1.cell (p := ⟨a, b, none⟩) (World.block_lt_of_cell? W _ c0)).trans c0
          have y1 := (hb1.frozen (p := ⟨a, b, none⟩) (World.block_lt_of_cell? W _ c0)).trans z0
          clear hb1
          have S1 := Aside0.mk (map_made T1.out HP1.out hm)
          clear c3
          have AB := Aside0.mk hm
          clear hm
          go_upto_region 17 with (fail)
          clear c0 z0 hx0 y0 y1
          generalize hX2 : ({ X1 with mp := fun q => if q = l.take i then some W.heap.size else X1.mp q } : TX) = X2 at S1
          have HM := Aside0.mk (show X2.mp (l.take i) = some W.heap.size by rw [← hX2]; exact if_pos rfl)
          replace HP1 := Aside0.mk (show X2.nd (l.take i) = some (a, b) by rw [← hX2]; exact HP1.out)
          replace HK0 := Aside0.mk (show X2.nd (l.take i ++ [x]) = none by rw [← hX2]; exact HK0)
          replace HV1 := Aside0.mk (show X2.val = X.val by rw [← hX2]; exact HV1.out)
          replace P1 := Aside0.mk (P1.out.trans S1.out.2)
          replace C1 := Aside0.mk (C1.out.post S1.out.2)
          replace T1 := Aside0.mk S1.out.1
          clear S1 hX2 AB
          generalize W.heap.size = m at HM T1 P1 C1 ⊢
          generalize (W.alloc (.map #[] 0)).setCell ⟨a, b, none⟩ (.map (some m)) = W at T1 P1 C1 ⊢
          obtain ⟨D, d1, d2, d3⟩ := T1.out.map (l.take i) m (by rw [HP1.out]; simp) HM.out
          have DO := Aside0.mk d1
          have D2 := Aside0.mk d2
          have D3 := Aside0.mk d3
          have hlk := look_kid T1.out (p := l.take i) (by rw [HP1.out]; simp) HX.out
          rw [HM.out, HK0.out] at hlk
          simp only [adr, Option.map_none] at hlk
          obtain ⟨c0, _, _, c3⟩ := (T1.out.node _ a b HP1.out).cells
          rw [HM.out] at c0
          clear d1 d2 d3
          go_wp2_with (at_mapUpdate; go_loud ((refine wpList_mapUpdate_in _ rfl (.tmp 66) (.tmp 67) (.tmp 69) 73 rfl 3 110 K3 Try.underlying73 pe m MM D rfl (DO.out.alloc _) (by have := HNN.out; unfold maxLen; omega) _ _ (ik x) rfl rfl (key3 HX.out) _ [] (pe_some _) ?_); intro w3 ho ht; obtain ⟨X3, s3⟩ := (kid_made T1.out HP1.out HM.out HK0.out HLT.out HX.out P1.out C1.out D2.out D3.out ho ht HV1.out DO.out); have S3 := Aside0.mk s3; clear s3; have hlk3 := look_kid S3.out.1 (p := l.take i) (by rw [S3.out.2.1]; simp) HX.out; have e3 := S3.out.2.2.1; rw [e3] at hlk3; have y0 := (S3.out.1.node _ a b S3.out.2.1).cells.1; rw [S3.out.2.2.2.1] at hlk3 y0; simp only [adr, Option.map_some] at hlk3; clear ho ht e3 hlk))
          go_roundg k
          case measure => omega
          case rel => exact ⟨i + 1, W.heap.size, 0, X3, rfl, by go_num, ⟨by have := HJ.out; omega⟩, ⟨by rw [ET.out]; exact S3.out.2.2.1⟩, ⟨by have h := S3.out.1; rwa [show MM + 1 = N + (i + 1) by have := HMM.out; omega] at h⟩, ⟨S3.out.2.2.2.2.1⟩, ⟨S3.out.2.2.2.2.2.1⟩, ⟨S3.out.2.2.2.2.2.2⟩⟩
        | some m =>
          have HM := Aside0.mk hm
          clear hm
          cases hk : X1.nd (l.take i ++ [x]) with
          | none =>
            have HK0 := Aside0.mk hk
            clear hk
            obtain ⟨D, d1, d2, d3⟩ := T1.out.map (l.take i) m (by rw [HP1.out]; simp) HM.out
            have DO := Aside0.mk d1
            have D2 := Aside0.mk d2
            have D3 := Aside0.mk d3
            have hlk := look_kid T1.out (p := l.take i) (by rw [HP1.out]; simp) HX.out
            rw [HM.out, HK0.out] at hlk
            simp only [adr, Option.map_none] at hlk
            obtain ⟨c0, _, _, c3⟩ := (T1.out.node _ a b HP1.out).cells
            rw [HM.out] at c0
            clear d1 d2 d3
            go_wp2_with (at_mapUpdate; go_loud ((refine wpList_mapUpdate_in _ rfl (.tmp 66) (.tmp 67) (.tmp 69) 73 rfl 3 110 K3 Try.underlying73 pe m MM D rfl (DO.out.alloc _) (by have := HNN.out; unfold maxLen; omega) _ _ (ik x) rfl rfl (key3 HX.out) _ [] (pe_some _) ?_); intro w3 ho ht; obtain ⟨X3, s3⟩ := (kid_made T1.out HP1.out HM.out HK0.out HLT.out HX.out P1.out C1.out D2.out D3.out ho ht HV1.out DO.out); have S3 := Aside0.mk s3; clear s3; have hlk3 := look_kid S3.out.1 (p := l.take i) (by rw [S3.out.2.1]; simp) HX.out; have e3 := S3.out.2.2.1; rw [e3] at hlk3; have y0 := (S3.out.1.node _ a b S3.out.2.1).cells.1; rw [S3.out.2.2.2.1] at hlk3 y0; simp only [adr, Option.map_some] at hlk3; clear ho ht e3 hlk))
            go_roundg k
            case measure => omega
            case rel => exact ⟨i + 1, W.heap.size, 0, X3, rfl, by go_num, ⟨by have := HJ.out; omega⟩, ⟨by rw [ET.out]; exact S3.out.2.2.1⟩, ⟨by have h := S3.out.1; rwa [show MM + 1 = N + (i + 1) by have := HMM.out; omega] at h⟩, ⟨S3.out.2.2.2.2.1⟩, ⟨S3.out.2.2.2.2.2.1⟩, ⟨S3.out.2.2.2.2.2.2⟩⟩
          | some q =>
            obtain ⟨a', b'⟩ := q
            have hlk := look_kid T1.out (p := l.take i) (by rw [HP1.out]; simp) HX.out
            rw [HM.out, hk] at hlk
            simp only [adr, Option.map_some] at hlk
            have HQ := Aside0.mk (show X1.nd (l.take (i + 1)) = some (a', b') by rw [ET.out]; exact hk)
            obtain ⟨c0, _, _, c3⟩ := (T1.out.node _ a b HP1.out).cells
            rw [HM.out] at c0
            clear hk c3
            go_wp2
            go_roundg k
            case measure => omega
            case rel => exact ⟨i + 1, a', b', X1, rfl, by go_num, ⟨by have := HJ.out; omega⟩, HQ, ⟨T1.out.mono (by have := HMM.out; omega)⟩, HV1, P1, C1⟩
      | zero =>
        have hin : i = n := by omega
        subst hin
        have e1 : decide (i < i) = false := decide_eq_false (by omega)
        have HL := Aside0.mk (show X1.nd l = some (a, b) by rw [← HP1.out, List.take_of_length_le (by rw [HN.out]; omega)])
        obtain ⟨c0, c1, c2, c3⟩ := (T1.out.node l a b HL.out).cells
        have z1 := c3 (b + 1)
        have z2 := c3 (b + 2)
        have S1 := Aside0.mk (put_at T1.out HL.out (some v))
        simp only [Option.isSome_some, Option.getD_some] at S1
        have hx1 : cnt + 1 ≤ 1000 := by omega
        have hx2 : 0 ≤ cnt := h0.1
        clear hj c0 c3
        go_upto_region 22 with (fail)
        clear c1 c2 z1 z2
        have C2 := Aside0.mk (C1.out.post S1.out.2)
        generalize ((W.setCell ⟨a, b + 1, none⟩ (.bool true)).setCell ⟨a, b + 2, none⟩ (.int .i64 v)) = W2 at S1 C2 ⊢
        obtain ⟨y0, y1⟩ := C2.out.cell
        have P2 := Aside0.mk (show Done 4 w (W2.setCell ⟨g, o + 3, none⟩ (.int .i64 (cnt + 1))) g o (N + 128) X (upd X.val l (some v)) (cnt + 1) from by
          obtain ⟨t2, p2⟩ := S1.out
          obtain ⟨t3, p3, c3⟩ := count_set t2 C2.out (cnt + 1)
          exact ⟨_, t3.mono (by have := HNN.out; omega), c3, by show upd X1.val l (some v) = _; rw [HV1.out], ((P1.out.trans p2).wide (by omega)).trans p3⟩)
        clear S1 C2
        go_wp2
        go_ret2
        exact ⟨rfl, P2.out⟩
end Go.Proofs.Ythihgiaflbaigaa.OTrie
