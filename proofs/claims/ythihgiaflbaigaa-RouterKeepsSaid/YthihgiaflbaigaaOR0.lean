/- A router in memory. -/
import Derived.Test.YthihgiaflbaigaaUEnt
import Derived.Test.YthihgiaflbaigaaOTrieAwake
set_option linter.unusedVariables false
set_option linter.unusedSimpArgs false
namespace Go.Proofs.Ythihgiaflbaigaa.ORouter
open Go.RowKit Go.Proofs.YthihgiaflbaigaaW.PrintWords Go.Proofs.YthihgiaflbaigaaW.PrintLast Go.Proofs.YthihgiaflbaigaaW.PrintMore Go.Proofs.Ythihgiaflbaigaa.GQ Go.Proofs.Ythihgiaflbaigaa.OMap Go.Proofs.Ythihgiaflbaigaa.UTrie Go.Proofs.Ythihgiaflbaigaa.OTrie
/-- What is known of a request. -/
structure PE where
  tr : Int
  pf : Int
  dc : Int
  prompt : List Int
  most : Int
  at_ : Int
  en : Int
  ans : List Int
def zP : PE := ⟨0, 0, 0, [], 0, 0, 0, []⟩
structure Cfg where
  f0 : Int
  f1 : Int
  f2 : Int
  f3 : Int
  f4 : Int
/-- A router, plainly. -/
structure RX where
  c : Cfg
  p : S31
  out : List Bool
  t0 : Int
  t1 : Int
  val : Row → Option Int
  cnt : Int
  es : List PE
/-- Where its parts lie: the trie, its maps' bound, the drained nodes' block, the entries. -/
structure Lo where
  X : TX
  N : Nat
  q : Nat
  oc : Nat
  b : Nat
  AE : Option Addr
  cE : Nat
  ms : List ME
  I : Nat → Prop
/-- The router's own cells, but for the trie's. -/
def own18 (S : RX) (L : Lo) : List (Option Value) :=
  [some (.int .i64 S.c.f0), some (.int .i64 S.c.f1), some (.int .i64 S.c.f2), some (.int .i64 S.c.f3), some (.int .i64 S.c.f4),
   some (.int .i64 S.p.f0), some (.int .i64 S.p.f1), some (.int .i64 S.p.f2), some (.int .i64 S.p.f3), some (.int .i64 S.p.f4),
   some (.slice (some ⟨L.q, 0, none⟩) S.out.length L.oc), some (.int .i64 S.t0), some (.int .i64 S.t1), none, none, none, none, some (.slice L.AE L.ms.length L.cE)]
def BoxAt (W : World) (g : Nat) (l : List (Option Value)) : Prop :=
  ∃ cs, W.heap[g]? = some (.cells cs 80 (0, 0)) ∧ cs.size = 18 ∧ ∀ (j : Nat) (u : Value), l[j]? = some (some u) → cs[j]? = some u
theorem BoxAt.cell {W : World} {g : Nat} {l : List (Option Value)} (h : BoxAt W g l) (j : Nat) {u : Value} (hj : l[j]? = some (some u)) : W.cell? ⟨g, j, none⟩ = some u ∧ W.frozen? ⟨g, j, none⟩ = false := by
  obtain ⟨cs, h1, _, h2⟩ := h
  exact ⟨(blk_cell h1 j).trans (h2 j u hj), blk_frozen h1 j⟩
theorem BoxAt.below {W W' : World} {g : Nat} {l : List (Option Value)} (h : BoxAt W g l) (hb : Below W.heap.size W W') : BoxAt W' g l := by
  obtain ⟨cs, h1, h2⟩ := h
  exact ⟨cs, blk_below h1 hb, h2⟩
theorem BoxAt.far {W : World} {g : Nat} {l : List (Option Value)} (h : BoxAt W g l) {a : Addr} (ha : g ≠ a.block) (u : Value) : BoxAt (W.setCell a u) g l := by
  obtain ⟨cs, h1, h2⟩ := h
  exact ⟨cs, by rw [Below.heap_setCell _ _ _ _ ha]; exact h1, h2⟩
theorem BoxAt.set {W : World} {g : Nat} {l : List (Option Value)} (h : BoxAt W g l) (j : Nat) (u : Value) (hl : l.length = 18) (hj : j < 18) : BoxAt (W.setCell ⟨g, j, none⟩ u) g (l.set j (some u)) := by
  obtain ⟨cs, h1, h2, h3⟩ := h
  refine ⟨_, blk_set h1 j u, by simpa using h2, fun i v hi => ?_⟩
  by_cases e : j = i
  · subst e
    rw [List.getElem?_set_self (by omega)] at hi
    cases hi
    rw [Array.getElem?_setIfInBounds_self_of_lt (by omega)]
  · rw [List.getElem?_set_ne e] at hi
    rw [Array.getElem?_setIfInBounds_ne e]
    exact h3 i v hi
theorem BoxAt.post {w w' : World} {g n : Nat} {l : List (Option Value)} {X X' : TX} (h : BoxAt w g l) (p : Post n w w' g 13 X X') (hn : n ≤ 4) (hl : ∀ j : Nat, 13 ≤ j → j < 17 → l[j]? = some none) : BoxAt w' g l := by
  obtain ⟨cs, h1, h2, h3⟩ := h
  obtain ⟨cs', e1, e2, e3⟩ := p.rest cs _ h1
  refine ⟨cs', e1, e2.trans h2, fun j u hj => ?_⟩
  by_cases q : 13 ≤ j ∧ j < 17
  · rw [hl j q.1 q.2] at hj
    cases hj
  · rw [e3 j (by omega)]
    exact h3 j u hj
/-- A row of numbers that nobody turns. -/
def SlAt (W : World) (ok : Nat → Prop) (s : SL) (l : List Int) : Prop := s.2.1 = l.length ∧ l.length ≤ s.2.2 ∧ Kd.F kI W ok s.1 l.length l
theorem SlAt.kept {W W' : World} {ok ok' : Nat → Prop} {s : SL} {l : List Int} (h : SlAt W ok s l) (hf : Kd.F kI W ok s.1 l.length l → Kd.F kI W' ok' s.1 l.length l) : SlAt W' ok' s l := ⟨h.1, h.2.1, hf h.2.2⟩
/-- An entry: its cells and what they say. -/
structure EntAt (W : World) (ok : Nat → Prop) (i : Nat) (m : ME) (e : PE) : Prop where
  req : m.req = (i : Int)
  tr : m.tr = e.tr
  pf : m.pf = e.pf
  dc : m.dc = e.dc
  pr : SlAt W ok m.pr e.prompt
  most : m.most = e.most
  at_ : m.at_ = e.at_
  en : m.en = e.en
  an : SlAt W ok m.an e.ans
/-- The blocks that a router turns. -/
def mine (L : Lo) (k : Nat) : Prop := foot L.X k ∨ k = L.q ∨ (0 < L.ms.length ∧ k = L.b)
/-- A router whose blocks lie from lo on. -/
structure RT (W : World) (g lo : Nat) (S : RX) (L : Lo) : Prop where
  box : BoxAt W g (own18 S L)
  tr : TrieAt W g 13 L.N L.X
  ct : CntAt W g 13 S.cnt
  vl : L.X.val = S.val
  out : kB.R 4 W lo (fun k => k = L.q) (.slice (some ⟨L.q, 0, none⟩) S.out.length L.oc) S.out
  ent : kE.R 40 W lo (fun k => 0 < L.ms.length ∧ k = L.b) (.slice L.AE L.ms.length L.cE) L.ms
  len : L.ms.length = S.es.length
  inn : ∀ i : Nat, i < S.es.length → EntAt W L.I i (L.ms.getD i zM) (S.es.getD i zP)
  lo : ∀ k, mine L k → lo ≤ k
  hi : ∀ k, mine L k → k < W.heap.size
  ih : ∀ k, L.I k → k < W.heap.size ∧ ¬ mine L k
  fq : ¬ foot L.X L.q
  fb : 0 < L.ms.length → ¬ foot L.X L.b ∧ L.b ≠ L.q
theorem RT.g {W : World} {g lo : Nat} {S : RX} {L : Lo} (h : RT W g lo S L) : mine L g := .inl (foot_root h.tr)
/-- What a call leaves behind. -/
structure RPost (lo : Nat) (w w' : World) (L L' : Lo) : Prop where
  kept : Kept w w' (mine L)
  mine : ∀ k, ORouter.mine L' k → ORouter.mine L k ∨ w.heap.size ≤ k
  inn : ∀ k, L'.I k → L.I k ∨ w.heap.size ≤ k
  below : Below lo w w'
theorem RPost.trans {lo : Nat} {w w1 w2 : World} {L L1 L2 : Lo} (h : RPost lo w w1 L L1) (k : RPost lo w1 w2 L1 L2) : RPost lo w w2 L L2 := by
  have hs := h.kept.1
  refine ⟨h.kept.then_ k.kept (fun j hj => h.mine j hj), fun j hj => ?_, fun j hj => ?_, h.below.trans k.below⟩
  · rcases k.mine j hj with q | q
    · exact h.mine j q
    · exact .inr (by omega)
  · rcases k.inn j hj with q | q
    · exact h.inn j q
    · exact .inr (by omega)
theorem RPost.refl {lo : Nat} {w : World} {L : Lo} : RPost lo w w L L := ⟨Kept.refl w _, fun k hk => .inl hk, fun k hk => .inl hk, Below.refl _ _⟩
theorem RPost.of_below {lo : Nat} {w w' : World} {L : Lo} (hl : lo ≤ w.heap.size) (hb : Below w.heap.size w w') : RPost lo w w' L L := ⟨Kept.of_below hb _, fun k hk => .inl hk, fun k hk => .inl hk, hb.mono hl⟩
/-- New blocks beside a router. -/
theorem RT.below {W W' : World} {g lo : Nat} {S : RX} {L : Lo} (h : RT W g lo S L) (hb : Below W.heap.size W W') : RT W' g lo S L :=
  { h with
    box := h.box.below hb
    tr := h.tr.below hb
    ct := h.ct.below hb
    out := Kd.R_below h.out hb
    ent := Kd.R_below h.ent hb
    inn := fun i hi => by
      have e := h.inn i hi
      exact { e with pr := e.pr.kept (fun f => Kd.F_below f hb), an := e.an.kept (fun f => Kd.F_below f hb) }
    hi := fun k hk => Nat.lt_of_lt_of_le (h.hi k hk) hb.size
    ih := fun k hk => ⟨Nat.lt_of_lt_of_le (h.ih k hk).1 hb.size, (h.ih k hk).2⟩ }
/-- A cell of the root's block beside the trie's own. -/
theorem beside {W : World} {g o N : Nat} {X : TX} (h : TrieAt W g o N X) (j : Nat) (hj : j < o ∨ o + 3 ≤ j) (u : Value) : TrieAt (W.setCell ⟨g, j, none⟩ u) g o N X := by
  refine { h with node := fun p a b hp => ?_, map := fun p m hp hm => (h.map p m hp hm).block ?_ }
  · by_cases e : a = g
    · subst e
      have hp0 := h.injN p [] a b o hp h.root
      subst hp0
      have hb := hp
      rw [h.root] at hb
      cases hb
      obtain ⟨cs, t, h1, h2, h3, h4⟩ := h.node [] a o h.root
      refine ⟨_, t, blk_set h1 j u, ?_, ?_, ?_⟩
      · rw [Array.getElem?_setIfInBounds_ne (by omega)]; exact h2
      · rw [Array.getElem?_setIfInBounds_ne (by omega)]; exact h3
      · rw [Array.getElem?_setIfInBounds_ne (by omega)]; exact h4
    · exact (h.node p a b hp).block (Below.heap_setCell _ _ _ _ (fun q => e q))
  · exact Below.heap_setCell _ _ _ _ (fun q => node_map h h.root hp hm q.symm)
theorem cnt_beside {W : World} {g o : Nat} {c : Int} (h : CntAt W g o c) (j : Nat) (hj : j ≠ o + 3) (u : Value) : CntAt (W.setCell ⟨g, j, none⟩ u) g o c := by
  obtain ⟨cs, t, h1, h2⟩ := h
  exact ⟨_, t, blk_set h1 j u, by rw [Array.getElem?_setIfInBounds_ne hj]; exact h2⟩
/-- A cell of the router's own is written: a number. -/
theorem RT.put {W : World} {g lo : Nat} {S S' : RX} {L : Lo} (h : RT W g lo S L) (j : Nat) (u : Value) (hj : j < 13) (hS : own18 S' L = (own18 S L).set j (some u)) (e1 : S'.val = S.val) (e2 : S'.cnt = S.cnt) (e3 : S'.out = S.out) (e4 : S'.es = S.es) :
    RT (W.setCell ⟨g, j, none⟩ u) g lo S' L ∧ RPost lo W (W.setCell ⟨g, j, none⟩ u) L L := by
  have hq : L.q ≠ g := fun e => h.fq (e ▸ foot_root h.tr)
  have hz := (h.box.set j u rfl (by omega))
  rw [← hS] at hz
  refine ⟨⟨hz, beside h.tr j (by omega) u, by rw [e2]; exact cnt_beside h.ct j (by omega) u, by rw [e1]; exact h.vl, ?_, ?_, by rw [e4]; exact h.len, fun i hi => ?_, h.lo, fun k hk => ?_, fun k hk => ⟨?_, (h.ih k hk).2⟩, h.fq, h.fb⟩, ⟨(Kept.refl W _).setCell (p := ⟨g, j, none⟩) (.inl h.g) u, fun k hk => .inl hk, fun k hk => .inl hk, (Below.refl lo W).setCell (p := ⟨g, j, none⟩) (h.lo g h.g) u⟩⟩
  · rw [e3]; exact Kd.R_far (p := ⟨g, j, none⟩) h.out (fun k hk => by rw [hk]; exact hq) u
  · exact Kd.R_far (p := ⟨g, j, none⟩) h.ent (fun k hk e => (h.fb hk.1).1 (hk.2 ▸ e ▸ foot_root h.tr)) u
  · rw [e4] at hi ⊢
    have e := h.inn i hi
    have far : ∀ k, L.I k → k ≠ (⟨g, j, none⟩ : Addr).block := fun k hk e => (h.ih k hk).2 (e ▸ h.g)
    exact { e with pr := e.pr.kept (fun f => Kd.F_far (p := ⟨g, j, none⟩) f far u), an := e.an.kept (fun f => Kd.F_far (p := ⟨g, j, none⟩) f far u) }
  · exact Nat.lt_of_lt_of_le (h.hi k hk) ((Below.refl lo W).setCell (p := ⟨g, j, none⟩) (h.lo g h.g) u).size
  · exact Nat.lt_of_lt_of_le ((h.ih k hk).1) ((Below.refl lo W).setCell (p := ⟨g, j, none⟩) (h.lo g h.g) u).size
/-- A store into a block that is none of the router's. -/
theorem RT.far {W : World} {g lo : Nat} {S : RX} {L : Lo} (h : RT W g lo S L) (a : Addr) (hm : ¬ mine L a.block) (hI : ¬ L.I a.block) (u : Value) : RT (W.setCell a u) g lo S L := by
  have hsz : W.heap.size ≤ (W.setCell a u).heap.size := ((Below.refl 0 W).setCell (p := a) (Nat.zero_le _) u).size
  have fb : ∀ k, foot L.X k → (W.setCell a u).heap[k]? = W.heap[k]? := fun k hk => Below.heap_setCell _ _ _ _ (fun e => hm (e ▸ .inl hk))
  refine ⟨h.box.far (fun e => hm (e ▸ h.g)) u, h.tr.move fb, ?_, h.vl, Kd.R_far h.out (fun k hk e => hm (e ▸ .inr (.inl hk))) u, Kd.R_far h.ent (fun k hk e => hm (e ▸ .inr (.inr hk))) u, h.len, fun i hi => ?_, h.lo, fun k hk => Nat.lt_of_lt_of_le (h.hi k hk) hsz, fun k hk => ⟨Nat.lt_of_lt_of_le (h.ih k hk).1 hsz, (h.ih k hk).2⟩, h.fq, h.fb⟩
  · obtain ⟨cs, t, h1, h2⟩ := h.ct
    exact ⟨cs, t, by rw [fb g (foot_root h.tr)]; exact h1, h2⟩
  · have e := h.inn i hi
    have far : ∀ k, L.I k → k ≠ a.block := fun k hk q => hI (q ▸ hk)
    exact { e with pr := e.pr.kept (fun f => Kd.F_far f far u), an := e.an.kept (fun f => Kd.F_far f far u) }
end Go.Proofs.Ythihgiaflbaigaa.ORouter
