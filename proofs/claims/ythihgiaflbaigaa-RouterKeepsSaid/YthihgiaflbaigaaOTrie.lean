/- A trie in memory: its nodes by the rows that lead to them. -/
import Derived.Test.YthihgiaflbaigaaOMap
import Derived.Test.YthihgiaflbaigaaUTrie
import Derived.Outline
import Derived.OwnWalk
set_option linter.unusedVariables false
set_option linter.unusedSimpArgs false
namespace Go.Proofs.Ythihgiaflbaigaa.OTrie
open Go.RowKit Go.Proofs.YthihgiaflbaigaaW.PrintWords Go.Proofs.Ythihgiaflbaigaa.OMap Go.Proofs.Ythihgiaflbaigaa.UTrie
/-- Where the nodes lie (block, place), their maps, their values. -/
structure TX where
  nd : Row → Option (Nat × Nat)
  mp : Row → Option Nat
  val : Row → Option Int
/-- The blocks of a trie. -/
def foot (X : TX) (k : Nat) : Prop := (∃ p b, X.nd p = some (k, b)) ∨ ∃ p, X.nd p ≠ none ∧ X.mp p = some k
/-- A node's cells. -/
def NodeAt (W : World) (a b : Nat) (m : Option Nat) (v : Option Int) : Prop :=
  ∃ cs t, W.heap[a]? = some (.cells cs t (0, 0)) ∧ cs[b]? = some (.map m) ∧ cs[b + 1]? = some (.bool v.isSome) ∧ cs[b + 2]? = some (.int .i64 (v.getD 0))
def kidOf (X : TX) (p : Row) : Int → Option Nat := fun x => (X.nd (p ++ [x])).map (·.1)
/-- A trie whose root's node lies at g, o; no map has more than N entries. -/
structure TrieAt (W : World) (g o N : Nat) (X : TX) : Prop where
  root : X.nd [] = some (g, o)
  pre : ∀ p x, X.nd (p ++ [x]) ≠ none → X.nd p ≠ none
  node : ∀ p a b, X.nd p = some (a, b) → NodeAt W a b (X.mp p) (X.val p)
  kid : ∀ p x a b, X.nd (p ++ [x]) = some (a, b) → b = 0
  there : ∀ p, X.val p ≠ none → X.nd p ≠ none
  nomap : ∀ p, X.nd p ≠ none → X.mp p = none → ∀ x, X.nd (p ++ [x]) = none
  map : ∀ p m, X.nd p ≠ none → X.mp p = some m → MapAt W m N (kidOf X p)
  injN : ∀ p q a b b', X.nd p = some (a, b) → X.nd q = some (a, b') → p = q
  injM : ∀ p q m, X.nd p ≠ none → X.nd q ≠ none → X.mp p = some m → X.mp q = some m → p = q
  len : ∀ p, X.nd p ≠ none → p.length ≤ 128
theorem NodeAt.block {W W' : World} {a b : Nat} {m : Option Nat} {v : Option Int} (h : NodeAt W a b m v) (he : W'.heap[a]? = W.heap[a]?) : NodeAt W' a b m v := by
  obtain ⟨cs, t, h1, h2⟩ := h
  exact ⟨cs, t, he.trans h1, h2⟩
theorem NodeAt.lt {W : World} {a b : Nat} {m : Option Nat} {v : Option Int} (h : NodeAt W a b m v) : a < W.heap.size := by
  obtain ⟨cs, t, h1, h2⟩ := h
  exact blk_lt h1
theorem NodeAt.cells {W : World} {a b : Nat} {m : Option Nat} {v : Option Int} (h : NodeAt W a b m v) : W.cell? ⟨a, b, none⟩ = some (.map m) ∧ W.cell? ⟨a, b + 1, none⟩ = some (.bool v.isSome) ∧ W.cell? ⟨a, b + 2, none⟩ = some (.int .i64 (v.getD 0)) ∧ ∀ j, W.frozen? ⟨a, j, none⟩ = false := by
  obtain ⟨cs, t, h1, h2, h3, h4⟩ := h
  exact ⟨(blk_cell h1 b).trans h2, (blk_cell h1 (b + 1)).trans h3, (blk_cell h1 (b + 2)).trans h4, fun j => blk_frozen h1 j⟩
theorem foot_lt {W : World} {g o N : Nat} {X : TX} (h : TrieAt W g o N X) {k : Nat} (hk : foot X k) : k < W.heap.size := by
  rcases hk with ⟨p, b, hp⟩ | ⟨p, hp, hm⟩
  · exact (h.node p k b hp).lt
  · exact (h.map p k hp hm).lt
theorem foot_root {W : World} {g o N : Nat} {X : TX} (h : TrieAt W g o N X) : foot X g := .inl ⟨[], o, h.root⟩
/-- What the trie's blocks hold stays. -/
theorem TrieAt.move {W W' : World} {g o N : Nat} {X : TX} (h : TrieAt W g o N X) (hk : ∀ k, foot X k → W'.heap[k]? = W.heap[k]?) : TrieAt W' g o N X :=
  { h with
    node := fun p a b hp => (h.node p a b hp).block (hk a (.inl ⟨p, b, hp⟩))
    map := fun p m hp hm => (h.map p m hp hm).block (hk m (.inr ⟨p, hp, hm⟩)) }
theorem TrieAt.below {W W' : World} {g o N : Nat} {X : TX} (h : TrieAt W g o N X) (hb : Below W.heap.size W W') : TrieAt W' g o N X :=
  h.move (fun k hk => hb.block k (foot_lt h hk))
theorem TrieAt.kept {W W' : World} {g o N : Nat} {X : TX} {S : Nat → Prop} (h : TrieAt W g o N X) (hk : Kept W W' S) (hS : ∀ k, foot X k → ¬ S k) : TrieAt W' g o N X :=
  h.move (fun k hf => hk.2 k (foot_lt h hf) (hS k hf))
theorem TrieAt.mono {W : World} {g o N N' : Nat} {X : TX} (h : TrieAt W g o N X) (hn : N ≤ N') : TrieAt W g o N' X :=
  { h with map := fun p m hp hm => (h.map p m hp hm).mono hn }
theorem pre_all {W : World} {g o N : Nat} {X : TX} (h : TrieAt W g o N X) : ∀ (s p : Row), X.nd (p ++ s) ≠ none → X.nd p ≠ none
  | [], p, hp => by rwa [List.append_nil] at hp
  | x :: s, p, hp => h.pre p x (pre_all h s (p ++ [x]) (by rwa [List.append_assoc, List.singleton_append]))
/-- A node's block is none of a map's. -/
theorem node_map {W : World} {g o N : Nat} {X : TX} (h : TrieAt W g o N X) {p q : Row} {a b m : Nat} (hp : X.nd p = some (a, b)) (hq : X.nd q ≠ none) (hm : X.mp q = some m) : a ≠ m := by
  rintro rfl
  obtain ⟨cs, t, h1, _⟩ := h.node p a b hp
  obtain ⟨es, cl, h2⟩ := (h.map q a hq hm).isMap
  rw [h1] at h2
  cases h2
/-- What a call leaves behind: only the trie's own blocks have turned, and of the root's block only n cells from the root's on. -/
structure Post (n : Nat) (w w' : World) (g o : Nat) (X X' : TX) : Prop where
  kept : Kept w w' (foot X)
  foot : ∀ k, foot X' k → OTrie.foot X k ∨ w.heap.size ≤ k
  below : ∀ base, base ≤ w.heap.size → (∀ k, OTrie.foot X k → base ≤ k) → Below base w w'
  rest : ∀ cs t, w.heap[g]? = some (.cells cs t (0, 0)) → ∃ cs', w'.heap[g]? = some (.cells cs' t (0, 0)) ∧ cs'.size = cs.size ∧ ∀ j, (j < o ∨ o + n ≤ j) → cs'[j]? = cs[j]?
theorem Post.of_below {n : Nat} {w w' : World} {g o : Nat} {X : TX} (hb : Below w.heap.size w w') : Post n w w' g o X X :=
  ⟨Kept.of_below hb _, fun k hk => .inl hk, fun base h1 _ => hb.mono h1, fun cs t h => ⟨cs, blk_below h hb, rfl, fun _ _ => rfl⟩⟩
theorem Post.refl {n : Nat} {w : World} {g o : Nat} {X : TX} : Post n w w g o X X := Post.of_below (Below.refl _ _)
theorem Post.trans {n : Nat} {w w1 w2 : World} {g o : Nat} {X X1 X2 : TX} (h : Post n w w1 g o X X1) (k : Post n w1 w2 g o X1 X2) : Post n w w2 g o X X2 := by
  have hs := h.kept.1
  refine ⟨h.kept.then_ k.kept (fun j hj => h.foot j hj), fun j hj => ?_, fun base h1 h2 => ?_, fun cs t hg => ?_⟩
  · rcases k.foot j hj with q | q
    · exact h.foot j q
    · exact .inr (by omega)
  · exact (h.below base h1 h2).trans (k.below base (by omega) (fun j hj => by
      rcases h.foot j hj with q | q
      · exact h2 j q
      · omega))
  · obtain ⟨cs1, e1, s1, r1⟩ := h.rest cs t hg
    obtain ⟨cs2, e2, s2, r2⟩ := k.rest cs1 t e1
    exact ⟨cs2, e2, s2.trans s1, fun j hj => (r2 j hj).trans (r1 j hj)⟩
theorem Post.wide {n n' : Nat} {w w' : World} {g o : Nat} {X X' : TX} (h : Post n w w' g o X X') (hn : n ≤ n') : Post n' w w' g o X X' :=
  ⟨h.kept, h.foot, h.below, fun cs t hg => by
    obtain ⟨cs', e, hs, r⟩ := h.rest cs t hg
    exact ⟨cs', e, hs, fun j hj => r j (by omega)⟩⟩
theorem Post.then_below {n : Nat} {w w1 w2 : World} {g o : Nat} {X X1 : TX} (h : Post n w w1 g o X X1) (hb : Below w1.heap.size w1 w2) : Post n w w2 g o X X1 :=
  h.trans (Post.of_below hb)
/-- A store into a cell of the trie's own. -/
theorem Post.set {n : Nat} {w : World} {g o : Nat} {X : TX} {a j : Nat} (u : Value) (hf : OTrie.foot X a) (ha : a = g → o ≤ j ∧ j < o + n) : Post n w (w.setCell ⟨a, j, none⟩ u) g o X X := by
  refine ⟨(Kept.refl w _).setCell (p := ⟨a, j, none⟩) (.inl hf) u, fun k hk => .inl hk, fun base h1 h2 => (Below.refl base w).setCell (p := ⟨a, j, none⟩) (h2 a hf) u, fun cs t hg => ?_⟩
  by_cases e : a = g
  · subst e
    have hj := ha rfl
    refine ⟨_, blk_set hg j u, by simp, fun i hi => ?_⟩
    rw [Array.getElem?_setIfInBounds_ne (by omega)]
  · exact ⟨cs, blk_far (p := ⟨a, j, none⟩) hg (fun h => e h.symm) u, rfl, fun _ _ => rfl⟩
theorem Post.map {n : Nat} {w w' : World} {g o : Nat} {X : TX} {m : Nat} (ht : w.mapTurned w' m) (hf : OTrie.foot X m) : Post n w w' g o X X := by
  have hg := ht.grown
  refine ⟨Kept.of_grown hg (Kept.refl w _) (fun k hk => by cases hk; exact .inl hf), fun k hk => .inl hk, fun base h1 h2 => ?_, fun cs t hb => ?_⟩
  · exact pw_below_grown (Below.refl base w) (some m) h1 hg (fun k hk => by cases hk; exact h2 m hf)
  · refine ⟨cs, ?_, rfl, fun _ _ => rfl⟩
    obtain ⟨es, cl, es', cl', hm, _⟩ := ht
    refine (hg.block g (blk_lt hb) (fun e => ?_)).trans hb
    cases e
    rw [hb] at hm
    cases hm
/-- The same blocks, or new ones, under another view. -/
theorem Post.view {n : Nat} {w w' : World} {g o : Nat} {X X1 X2 : TX} (h : Post n w w' g o X X1) (hs : ∀ k, OTrie.foot X2 k → OTrie.foot X1 k ∨ w.heap.size ≤ k) : Post n w w' g o X X2 :=
  ⟨h.kept, fun k hk => (hs k hk).elim (h.foot k) .inr, h.below, h.rest⟩
/-- A value is written. -/
theorem TrieAt.value {W W' : World} {g o N : Nat} {X : TX} (h : TrieAt W g o N X) {p : Row} {a b : Nat} (hp : X.nd p = some (a, b)) (v : Option Int) (hn : NodeAt W' a b (X.mp p) v) (hk : ∀ k, foot X k → k ≠ a → W'.heap[k]? = W.heap[k]?) :
    TrieAt W' g o N { X with val := upd X.val p v } := by
  refine { h with node := fun q a' b' hq => ?_, there := fun q hq => ?_, map := fun q m hq hm => ?_ }
  · show NodeAt W' a' b' (X.mp q) (upd X.val p v q)
    by_cases e : q = p
    · subst e
      have hq' : X.nd q = some (a', b') := hq
      rw [hp] at hq'
      cases hq'
      rw [upd_same]
      exact hn
    · rw [upd_ne e]
      refine (h.node q a' b' hq).block (hk a' (.inl ⟨q, b', hq⟩) (fun ea => ?_))
      subst ea
      exact e (h.injN q p a' b' b hq hp)
  · by_cases e : q = p
    · subst e; show X.nd q ≠ none; rw [hp]; simp
    · have hq2 : upd X.val p v q ≠ none := hq
      rw [upd_ne e] at hq2
      exact h.there q hq2
  · exact (h.map q m hq hm).block (hk m (.inr ⟨q, hq, hm⟩) (fun e => node_map h hp hq hm e.symm))
theorem foot_value {X : TX} {val : Row → Option Int} {k : Nat} (h : foot { X with val := val } k) : foot X k := h
/-- A node gets a map. -/
theorem TrieAt.newMap {W W' : World} {g o N : Nat} {X : TX} (h : TrieAt W g o N X) {p : Row} {a b m : Nat} (hp : X.nd p = some (a, b)) (hm0 : X.mp p = none) (hf : ¬ foot X m) (hn : NodeAt W' a b (some m) (X.val p)) (hM : MapAt W' m N (fun _ => none)) (hk : ∀ k, foot X k → k ≠ a → W'.heap[k]? = W.heap[k]?) :
    TrieAt W' g o N { X with mp := fun q => if q = p then some m else X.mp q } := by
  have hpn : X.nd p ≠ none := by rw [hp]; simp
  refine { h with node := fun q a' b' hq => ?_, nomap := fun q hq hm => ?_, map := fun q m' hq hm => ?_, injM := fun q q' m' hq hq' hm hm' => ?_ }
  · show NodeAt W' a' b' (if q = p then some m else X.mp q) (X.val q)
    by_cases e : q = p
    · subst e
      have hq' : X.nd q = some (a', b') := hq
      rw [hp] at hq'
      cases hq'
      rw [if_pos rfl]
      exact hn
    · rw [if_neg e]
      refine (h.node q a' b' hq).block (hk a' (.inl ⟨q, b', hq⟩) (fun ea => ?_))
      subst ea
      exact e (h.injN q p a' b' b hq hp)
  · have hm2 : (if q = p then some m else X.mp q) = none := hm
    by_cases e : q = p
    · rw [if_pos e] at hm2; cases hm2
    · rw [if_neg e] at hm2; exact h.nomap q hq hm2
  · have hm2 : (if q = p then some m else X.mp q) = some m' := hm
    by_cases e : q = p
    · rw [if_pos e] at hm2
      cases hm2
      subst e
      refine hM.congr (fun x => ?_)
      show none = (X.nd (q ++ [x])).map (·.1)
      rw [h.nomap q hpn hm0 x]; rfl
    · rw [if_neg e] at hm2
      exact (h.map q m' hq hm2).block (hk m' (.inr ⟨q, hq, hm2⟩) (fun e => node_map h hp hq hm2 e.symm))
  · have hm2 : (if q = p then some m else X.mp q) = some m' := hm
    have hm3 : (if q' = p then some m else X.mp q') = some m' := hm'
    by_cases e : q = p
    · rw [if_pos e] at hm2
      cases hm2
      by_cases e' : q' = p
      · rw [e, e']
      · rw [if_neg e'] at hm3
        exact absurd (.inr ⟨q', hq', hm3⟩) hf
    · rw [if_neg e] at hm2
      by_cases e' : q' = p
      · rw [if_pos e'] at hm3
        cases hm3
        exact absurd (.inr ⟨q, hq, hm2⟩) hf
      · rw [if_neg e'] at hm3
        exact h.injM q q' m' hq hq' hm2 hm3
theorem snoc_inj {p q : Row} {x y : Int} (h : p ++ [x] = q ++ [y]) : p = q ∧ x = y := by
  have := List.append_inj' h rfl
  exact ⟨this.1, by simpa using this.2⟩
/-- A node gets a node below it. -/
theorem TrieAt.newKid {W W' : World} {g o N : Nat} {X : TX} (h : TrieAt W g o N X) {p : Row} {x : Int} {a b m k : Nat} (hp : X.nd p = some (a, b)) (hm : X.mp p = some m) (h0 : X.nd (p ++ [x]) = none) (hl : p.length < 128) (hf : ¬ foot X k)
    (hn : NodeAt W' k 0 none none) (hM : MapAt W' m (N + 1) (turn (kidOf X p) x (some k))) (hk : ∀ j, foot X j → j ≠ m → W'.heap[j]? = W.heap[j]?) :
    TrieAt W' g o (N + 1) { X with nd := fun q => if q = p ++ [x] then some (k, 0) else X.nd q, mp := fun q => if q = p ++ [x] then none else X.mp q } := by
  have hpn : X.nd p ≠ none := by rw [hp]; simp
  have hv : X.val (p ++ [x]) = none := by
    cases e : X.val (p ++ [x]) with
    | none => rfl
    | some v => exact absurd h0 (h.there _ (by rw [e]; simp))
  have hne : ∀ q, X.nd q ≠ none → q ≠ p ++ [x] := fun q hq e => hq (by rw [e]; exact h0)
  have hpp : p ≠ p ++ [x] := hne p hpn
  refine ⟨?_, ?_, ?_, ?_, ?_, ?_, ?_, ?_, ?_, ?_⟩
  · show (if ([] : Row) = p ++ [x] then some (k, 0) else X.nd []) = _
    rw [if_neg (by simp)]
    exact h.root
  · intro q y hq
    show (if q = p ++ [x] then some (k, 0) else X.nd q) ≠ none
    by_cases e : q = p ++ [x]
    · rw [if_pos e]; simp
    · rw [if_neg e]
      have hq2 : (if q ++ [y] = p ++ [x] then some (k, 0) else X.nd (q ++ [y])) ≠ none := hq
      by_cases e2 : q ++ [y] = p ++ [x]
      · rw [(snoc_inj e2).1]; exact hpn
      · rw [if_neg e2] at hq2; exact h.pre q y hq2
  · intro q a' b' hq
    have hq2 : (if q = p ++ [x] then some (k, 0) else X.nd q) = some (a', b') := hq
    show NodeAt W' a' b' (if q = p ++ [x] then none else X.mp q) (X.val q)
    by_cases e : q = p ++ [x]
    · rw [if_pos e] at hq2 ⊢
      cases hq2
      rw [e, hv]
      exact hn
    · rw [if_neg e] at hq2 ⊢
      exact (h.node q a' b' hq2).block (hk a' (.inl ⟨q, b', hq2⟩) (node_map h hq2 hpn hm))
  · intro q y a' b' hq
    have hq2 : (if q ++ [y] = p ++ [x] then some (k, 0) else X.nd (q ++ [y])) = some (a', b') := hq
    by_cases e : q ++ [y] = p ++ [x]
    · rw [if_pos e] at hq2; cases hq2; rfl
    · rw [if_neg e] at hq2; exact h.kid q y a' b' hq2
  · intro q hq
    show (if q = p ++ [x] then some (k, 0) else X.nd q) ≠ none
    by_cases e : q = p ++ [x]
    · rw [if_pos e]; simp
    · rw [if_neg e]; exact h.there q hq
  · intro q hq hmq y
    have hq2 : (if q = p ++ [x] then some (k, 0) else X.nd q) ≠ none := hq
    have hm2 : (if q = p ++ [x] then none else X.mp q) = none := hmq
    show (if q ++ [y] = p ++ [x] then some (k, 0) else X.nd (q ++ [y])) = none
    by_cases e : q = p ++ [x]
    · rw [if_neg (fun e2 => hpp (by rw [← e]; exact (snoc_inj e2).1.symm)), e]
      cases e3 : X.nd (p ++ [x] ++ [y]) with
      | none => rfl
      | some z => exact absurd h0 (h.pre _ y (by rw [e3]; simp))
    · rw [if_neg e] at hq2 hm2
      rw [if_neg (fun e2 => by rw [(snoc_inj e2).1, hm] at hm2; cases hm2)]
      exact h.nomap q hq2 hm2 y
  · intro q m' hq hmq
    have hq2 : (if q = p ++ [x] then some (k, 0) else X.nd q) ≠ none := hq
    have hm2 : (if q = p ++ [x] then none else X.mp q) = some m' := hmq
    by_cases e : q = p ++ [x]
    · rw [if_pos e] at hm2; cases hm2
    · rw [if_neg e] at hq2 hm2
      by_cases e2 : q = p
      · subst e2
        rw [hm] at hm2
        cases hm2
        refine hM.congr (fun y => ?_)
        unfold turn kidOf
        show _ = ((if q ++ [y] = q ++ [x] then some (k, 0) else X.nd (q ++ [y])) : Option (Nat × Nat)).map (·.1)
        by_cases e3 : y = x
        · subst e3; rw [if_pos rfl, if_pos rfl]; rfl
        · rw [if_neg e3, if_neg (fun e4 => e3 (snoc_inj e4).2)]
      · refine (((h.map q m' hq2 hm2).block (hk m' (.inr ⟨q, hq2, hm2⟩) (fun e3 => ?_))).mono (Nat.le_succ N)).congr (fun y => ?_)
        · subst e3
          exact e2 (h.injM q p m' hq2 hpn hm2 hm)
        · unfold kidOf
          show _ = ((if q ++ [y] = p ++ [x] then some (k, 0) else X.nd (q ++ [y])) : Option (Nat × Nat)).map (·.1)
          rw [if_neg (fun e4 => e2 (snoc_inj e4).1)]
  · intro q q' a' b1 b2 hq hq'
    have hq2 : (if q = p ++ [x] then some (k, 0) else X.nd q) = some (a', b1) := hq
    have hq3 : (if q' = p ++ [x] then some (k, 0) else X.nd q') = some (a', b2) := hq'
    by_cases e : q = p ++ [x]
    · rw [if_pos e] at hq2
      cases hq2
      by_cases e' : q' = p ++ [x]
      · rw [e, e']
      · rw [if_neg e'] at hq3
        exact absurd (.inl ⟨q', b2, hq3⟩) hf
    · rw [if_neg e] at hq2
      by_cases e' : q' = p ++ [x]
      · rw [if_pos e'] at hq3
        cases hq3
        exact absurd (.inl ⟨q, b1, hq2⟩) hf
      · rw [if_neg e'] at hq3
        exact h.injN q q' a' b1 b2 hq2 hq3
  · intro q q' m' hq hq' hmq hmq'
    have hm2 : (if q = p ++ [x] then none else X.mp q) = some m' := hmq
    have hm3 : (if q' = p ++ [x] then none else X.mp q') = some m' := hmq'
    have hq2 : (if q = p ++ [x] then some (k, 0) else X.nd q) ≠ none := hq
    have hq3 : (if q' = p ++ [x] then some (k, 0) else X.nd q') ≠ none := hq'
    by_cases e : q = p ++ [x]
    · rw [if_pos e] at hm2; cases hm2
    · by_cases e' : q' = p ++ [x]
      · rw [if_pos e'] at hm3; cases hm3
      · rw [if_neg e] at hm2 hq2
        rw [if_neg e'] at hm3 hq3
        exact h.injM q q' m' hq2 hq3 hm2 hm3
  · intro q hq
    have hq2 : (if q = p ++ [x] then some (k, 0) else X.nd q) ≠ none := hq
    by_cases e : q = p ++ [x]
    · rw [e, List.length_append, List.length_singleton]; omega
    · rw [if_neg e] at hq2; exact h.len q hq2
/-- A node without value and without nodes below it goes. -/
theorem TrieAt.lessKid {W W' : World} {g o N : Nat} {X : TX} (h : TrieAt W g o N X) {p : Row} {x : Int} {m : Nat} (hpn : X.nd p ≠ none) (hm : X.mp p = some m) (hv : X.val (p ++ [x]) = none) (hkid : ∀ y, X.nd (p ++ [x] ++ [y]) = none)
    (hM : MapAt W' m N (turn (kidOf X p) x none)) (hk : ∀ j, foot X j → j ≠ m → W'.heap[j]? = W.heap[j]?) :
    TrieAt W' g o N { X with nd := fun q => if q = p ++ [x] then none else X.nd q } := by
  refine ⟨?_, ?_, ?_, ?_, ?_, ?_, ?_, ?_, ?_, ?_⟩
  · show (if ([] : Row) = p ++ [x] then none else X.nd []) = _
    rw [if_neg (by simp)]
    exact h.root
  · intro q y hq
    have hq2 : (if q ++ [y] = p ++ [x] then none else X.nd (q ++ [y])) ≠ none := hq
    show (if q = p ++ [x] then none else X.nd q) ≠ none
    by_cases e2 : q ++ [y] = p ++ [x]
    · rw [if_pos e2] at hq2; exact absurd rfl hq2
    · rw [if_neg e2] at hq2
      by_cases e : q = p ++ [x]
      · rw [e] at hq2; exact absurd (hkid y) hq2
      · rw [if_neg e]; exact h.pre q y hq2
  · intro q a' b' hq
    have hq2 : (if q = p ++ [x] then none else X.nd q) = some (a', b') := hq
    by_cases e : q = p ++ [x]
    · rw [if_pos e] at hq2; cases hq2
    · rw [if_neg e] at hq2
      exact (h.node q a' b' hq2).block (hk a' (.inl ⟨q, b', hq2⟩) (node_map h hq2 hpn hm))
  · intro q y a' b' hq
    have hq2 : (if q ++ [y] = p ++ [x] then none else X.nd (q ++ [y])) = some (a', b') := hq
    by_cases e : q ++ [y] = p ++ [x]
    · rw [if_pos e] at hq2; cases hq2
    · rw [if_neg e] at hq2; exact h.kid q y a' b' hq2
  · intro q hq
    show (if q = p ++ [x] then none else X.nd q) ≠ none
    by_cases e : q = p ++ [x]
    · rw [e] at hq; exact absurd hv hq
    · rw [if_neg e]; exact h.there q hq
  · intro q hq hmq y
    have hq2 : (if q = p ++ [x] then none else X.nd q) ≠ none := hq
    show (if q ++ [y] = p ++ [x] then none else X.nd (q ++ [y])) = none
    by_cases e : q = p ++ [x]
    · rw [if_pos e] at hq2; exact absurd rfl hq2
    · rw [if_neg e] at hq2
      by_cases e2 : q ++ [y] = p ++ [x]
      · rw [if_pos e2]
      · rw [if_neg e2]; exact h.nomap q hq2 hmq y
  · intro q m' hq hmq
    have hq2 : (if q = p ++ [x] then none else X.nd q) ≠ none := hq
    have hm2 : X.mp q = some m' := hmq
    by_cases e : q = p ++ [x]
    · rw [if_pos e] at hq2; exact absurd rfl hq2
    · rw [if_neg e] at hq2
      by_cases e2 : q = p
      · subst e2
        rw [hm] at hm2
        cases hm2
        refine hM.congr (fun y => ?_)
        unfold turn kidOf
        show _ = ((if q ++ [y] = q ++ [x] then none else X.nd (q ++ [y])) : Option (Nat × Nat)).map (·.1)
        by_cases e3 : y = x
        · subst e3; rw [if_pos rfl, if_pos rfl]; rfl
        · rw [if_neg e3, if_neg (fun e4 => e3 (snoc_inj e4).2)]
      · refine ((h.map q m' hq2 hm2).block (hk m' (.inr ⟨q, hq2, hm2⟩) (fun e3 => ?_))).congr (fun y => ?_)
        · subst e3
          exact e2 (h.injM q p m' hq2 hpn hm2 hm)
        · unfold kidOf
          show _ = ((if q ++ [y] = p ++ [x] then none else X.nd (q ++ [y])) : Option (Nat × Nat)).map (·.1)
          rw [if_neg (fun e4 => e2 (snoc_inj e4).1)]
  · intro q q' a' b1 b2 hq hq'
    have hq2 : (if q = p ++ [x] then none else X.nd q) = some (a', b1) := hq
    have hq3 : (if q' = p ++ [x] then none else X.nd q') = some (a', b2) := hq'
    by_cases e : q = p ++ [x]
    · rw [if_pos e] at hq2; cases hq2
    · by_cases e' : q' = p ++ [x]
      · rw [if_pos e'] at hq3; cases hq3
      · rw [if_neg e] at hq2
        rw [if_neg e'] at hq3
        exact h.injN q q' a' b1 b2 hq2 hq3
  · intro q q' m' hq hq' hmq hmq'
    have hq2 : (if q = p ++ [x] then none else X.nd q) ≠ none := hq
    have hq3 : (if q' = p ++ [x] then none else X.nd q') ≠ none := hq'
    by_cases e : q = p ++ [x]
    · rw [if_pos e] at hq2; exact absurd rfl hq2
    · by_cases e' : q' = p ++ [x]
      · rw [if_pos e'] at hq3; exact absurd rfl hq3
      · rw [if_neg e] at hq2
        rw [if_neg e'] at hq3
        exact h.injM q q' m' hq2 hq3 hmq hmq'
  · intro q hq
    have hq2 : (if q = p ++ [x] then none else X.nd q) ≠ none := hq
    by_cases e : q = p ++ [x]
    · rw [if_pos e] at hq2; exact absurd rfl hq2
    · rw [if_neg e] at hq2; exact h.len q hq2
end Go.Proofs.Ythihgiaflbaigaa.OTrie
