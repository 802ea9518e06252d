/- A cell of a router's entry is written. -/
import Derived.Test.YthihgiaflbaigaaORGrow
set_option linter.unusedVariables false
set_option linter.unusedSimpArgs false
namespace Go.Proofs.Ythihgiaflbaigaa.ORouter
open Go.RowKit Go.Proofs.YthihgiaflbaigaaW.PrintWords Go.Proofs.YthihgiaflbaigaaW.PrintLast Go.Proofs.YthihgiaflbaigaaW.PrintMore Go.Proofs.Ythihgiaflbaigaa.GQ Go.Proofs.Ythihgiaflbaigaa.OMap Go.Proofs.Ythihgiaflbaigaa.UTrie Go.Proofs.Ythihgiaflbaigaa.OTrie
theorem RT.entForm {W : World} {g lo : Nat} {S : RX} {L : Lo} (h : RT W g lo S L) (hn : 0 < L.ms.length) : L.AE = some ⟨L.b, 0, none⟩ ∧ lo ≤ L.b ∧ L.b < W.heap.size := by
  obtain ⟨b, c, e, h1, h2, _⟩ := Kd.R_form h.ent hn
  injection e with e1 e2 e3
  have hb := (h.ent.1 b (by rw [e1]; rfl)).2
  subst hb
  exact ⟨e1, h1, h2⟩
theorem RT.entCell {W : World} {g lo : Nat} {S : RX} {L : Lo} (h : RT W g lo S L) (i : Nat) (hi : i < L.ms.length) : ∀ j u, (L.ms.getD i zM).cells[j]? = some u → W.cell? ⟨L.b, i * 9 + j, none⟩ = some u := by
  obtain ⟨ad, c, e, _, hK, hc0⟩ := Kd.C_get h.entC zM (i : Int) (by omega) (by omega)
  have hk := kE_open hK
  rw [Int.toNat_natCast] at hk hc0
  subst hk
  rw [(h.entForm (by omega)).1] at e
  cases e
  intro j u hj
  have := hc0 j u hj
  rw [Addr.add_lit, Nat.zero_add] at this
  exact this
theorem RT.entFrozen {W : World} {g lo : Nat} {S : RX} {L : Lo} (h : RT W g lo S L) (hn : 0 < L.ms.length) (j : Nat) : W.frozen? ⟨L.b, j, none⟩ = false := by
  have hf := (h.entForm hn).1
  have he := h.ent
  rw [hf] at he
  obtain ⟨_, inner, ho, hr⟩ := he
  rcases ho.2 with ⟨hv, _⟩ | ⟨g', cap', cur, hv, hb, hh, hnc, hcm, hcs, _⟩
  · cases hv
  injection hv with ha _ hc
  injection ha with ha
  injection ha with hg'
  subst hg'
  exact blk_frozen hh j
theorem getD_set_at {α : Type} (xs : List α) (i k : Nat) (x d : α) (hi : i < xs.length) : (xs.set i x).getD k d = if i = k then x else xs.getD k d := by
  rw [List.getD_eq_getElem?_getD, List.getD_eq_getElem?_getD, List.getElem?_set]
  by_cases e : i = k
  · subst e; simp [hi]
  · simp [e]
/-- One cell of entry i is written. -/
theorem RT.entSet {w0 W : World} {g lo : Nat} {S : RX} {L0 L : Lo} (h : RT W g lo S L) (P0 : RPost lo w0 W L0 L) (i : Nat) (hi : i < S.es.length) (j : Nat) (hj : j < 9) (v : Value) (m' : ME) (e' : PE) (In : Nat → Prop)
    (hc : m'.cells = (L.ms.getD i zM).cells.set j v) (hE : EntAt W (fun k => L.I k ∨ In k) i m' e') (hIn : ∀ k, In k → k < W.heap.size ∧ ¬ mine L k) (hI0 : ∀ k, In k → w0.heap.size ≤ k) :
    RT (W.setCell ⟨L.b, i * 9 + j, none⟩ v) g lo { S with es := S.es.set i e' } { L with ms := L.ms.set i m', I := fun k => L.I k ∨ In k } ∧ RPost lo w0 (W.setCell ⟨L.b, i * 9 + j, none⟩ v) L0 { L with ms := L.ms.set i m', I := fun k => L.I k ∨ In k } := by
  have hil : i < L.ms.length := by rw [h.len]; exact hi
  have hn : 0 < L.ms.length := by omega
  obtain ⟨hAE, hb1, hb2⟩ := h.entForm hn
  have hbm : mine L L.b := .inr (.inr ⟨hn, rfl⟩)
  have hseg := Kd.R_seg (d := kE) (okp := fun _ => False) (by have := h.ent; rw [hAE] at this; exact this) (i : Int) (by omega) (by omega) (c := (L.ms.getD i zM).cells) (seg := [v]) (j := j) rfl (fun q u hq => by rw [Int.toNat_natCast]; exact h.entCell i hil q u hq) (by show j + 1 ≤ 9; omega) (x' := m') (by
    have e : (L.ms.getD i zM).cells.take j ++ [v] ++ (L.ms.getD i zM).cells.drop (j + [v].length) = m'.cells := by
      rw [hc, List.set_eq_take_append_cons_drop, if_pos (by show j < 9; exact hj)]
      simp
    rw [e]
    exact kE_mkM _ _ _ _) (fun _ q => q.elim)
  rw [Int.toNat_natCast] at hseg
  have hs1 : W.setCells L.b (i * kE.sz + j) [v] = W.setCell ⟨L.b, i * 9 + j, none⟩ v := rfl
  rw [hs1] at hseg
  have hsz : W.heap.size ≤ (W.setCell ⟨L.b, i * 9 + j, none⟩ v).heap.size := ((Below.refl 0 W).setCell (p := ⟨L.b, i * 9 + j, none⟩) (Nat.zero_le _) v).size
  have stay : ∀ k, k ≠ L.b → (W.setCell ⟨L.b, i * 9 + j, none⟩ v).heap[k]? = W.heap[k]? := fun k hk => Below.heap_setCell _ _ _ _ hk
  have gf := foot_root h.tr
  have fbn : ∀ k, foot L.X k → k ≠ L.b := fun k hk e => (h.fb hn).1 (e ▸ hk)
  have ml : mine { L with ms := L.ms.set i m', I := fun k => L.I k ∨ In k } = mine L := by
    funext k
    unfold mine
    simp only [List.length_set]
  refine ⟨⟨?_, h.tr.move (fun k hk => stay k (fbn k hk)), ?_, h.vl, ?_, ?_, by simp [h.len], fun k hk => ?_, by rw [ml]; exact h.lo, fun k hk => ?_, fun k hk => ?_, h.fq, fun _ => h.fb hn⟩, ⟨(P0.kept.then_ ⟨hsz, fun k h1 h2 => stay k (fun e => h2 (by rw [e]; exact hbm))⟩ (fun q hq => P0.mine q hq)), fun k hk => ?_, fun k hk => hk.elim (P0.inn k) (fun z => .inr (hI0 k z)), P0.below.setCell (p := ⟨L.b, i * 9 + j, none⟩) hb1 v⟩⟩
  · have hz := h.box.far (a := ⟨L.b, i * 9 + j, none⟩) (fun e => fbn g gf e) v
    have e : own18 { S with es := S.es.set i e' } { L with ms := L.ms.set i m', I := fun k => L.I k ∨ In k } = own18 S L := by unfold own18; simp only [List.length_set]
    rw [e]; exact hz
  · obtain ⟨cs, t, h1, h2⟩ := h.ct
    exact ⟨cs, t, by rw [stay g (fbn g gf)]; exact h1, h2⟩
  · exact Kd.R_far (p := ⟨L.b, i * 9 + j, none⟩) h.out (fun k hk e => (h.fb hn).2 (by have z : k = L.b := e; rw [← z]; exact hk)) v
  · show kE.R _ _ _ _ (.slice L.AE (L.ms.set i m').length L.cE) (L.ms.set i m')
    rw [hAE, List.length_set]
    exact hseg.1
  · have nb : ∀ q, L.I q ∨ In q → q ≠ (⟨L.b, i * 9 + j, none⟩ : Addr).block := fun q hq e => (hq.elim (fun z => (h.ih q z).2) (fun z => (hIn q z).2)) (by have z : q = L.b := e; rw [z]; exact hbm)
    simp only [List.length_set] at hk
    rw [getD_set_at _ _ _ _ _ hil, getD_set_at _ _ _ _ _ hi]
    by_cases e : i = k
    · subst e
      rw [if_pos rfl, if_pos rfl]
      exact hE.far nb v
    · rw [if_neg e, if_neg e]
      exact ((h.inn k hk).mono (fun k hk => .inl hk)).far nb v
  · rw [ml] at hk; exact Nat.lt_of_lt_of_le (h.hi k hk) hsz
  · rw [ml]
    have z : k < W.heap.size ∧ ¬ mine L k := hk.elim (fun z => h.ih k z) (fun z => hIn k z)
    exact ⟨Nat.lt_of_lt_of_le z.1 hsz, z.2⟩
  · rw [ml] at hk; exact P0.mine k hk
end Go.Proofs.Ythihgiaflbaigaa.ORouter
