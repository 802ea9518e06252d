/- A router's entries grow by one. -/
import Derived.Test.YthihgiaflbaigaaORPlace
import Derived.Test.YthihgiaflbaigaaOROpen
set_option linter.unusedVariables false
set_option linter.unusedSimpArgs false
namespace Go.Proofs.Ythihgiaflbaigaa.ORouter
open Go.RowKit Go.Proofs.YthihgiaflbaigaaW.PrintWords Go.Proofs.YthihgiaflbaigaaW.PrintLast Go.Proofs.YthihgiaflbaigaaW.PrintMore Go.Proofs.Ythihgiaflbaigaa.GQ Go.Proofs.Ythihgiaflbaigaa.OMap Go.Proofs.Ythihgiaflbaigaa.UTrie Go.Proofs.Ythihgiaflbaigaa.OTrie
theorem EntAt.mono {W : World} {ok ok' : Nat → Prop} {i : Nat} {m : ME} {e : PE} (h : EntAt W ok i m e) (hk : ∀ k, ok k → ok' k) : EntAt W ok' i m e :=
  { h with pr := h.pr.kept (fun f => Kd.F_mono f hk), an := h.an.kept (fun f => Kd.F_mono f hk) }
theorem EntAt.far {W : World} {ok : Nat → Prop} {i : Nat} {m : ME} {e : PE} (h : EntAt W ok i m e) {a : Addr} (hk : ∀ k, ok k → k ≠ a.block) (u : Value) : EntAt (W.setCell a u) ok i m e :=
  { h with pr := h.pr.kept (fun f => Kd.F_far f hk u), an := h.an.kept (fun f => Kd.F_far f hk u) }
theorem EntAt.step {W W' : World} {ok : Nat → Prop} {i : Nat} {m : ME} {e : PE} (h : EntAt W ok i m e) (hm : ∀ k, ok k → k < W.heap.size → W'.heap[k]? = W.heap[k]?) : EntAt W' ok i m e :=
  { h with pr := h.pr.kept (fun f => Kd.F_step f hm), an := h.an.kept (fun f => Kd.F_step f hm) }
theorem RT.appended {w0 Wa w1 : World} {g lo : Nat} {S : RX} {L0 L : Lo} (h : RT Wa g lo S L) (P0 : RPost lo w0 Wa L0 L) (v1 : Value) (p : ME) (e : PE) (In : Nat → Prop)
    (hN : kE.R 40 w1 lo (fun k => (0 < L.ms.length ∧ k = L.b) ∨ Wa.heap.size ≤ k) v1 (L.ms ++ [p])) (hB : Below lo Wa w1) (hg : Wa.grownBy w1 (Value.slice L.AE L.ms.length L.cE).ownBlock)
    (hE : EntAt Wa (fun k => L.I k ∨ In k) S.es.length p e) (hIn : ∀ k, In k → k < Wa.heap.size ∧ ¬ mine L k) (hI0 : ∀ k, In k → w0.heap.size ≤ k) :
    ∃ b' A' c', v1 = .slice A' (L.ms ++ [p]).length c' ∧ RT (w1.setCell ⟨g, 17, none⟩ v1) g lo { S with es := S.es ++ [e] } { L with b := b', AE := A', cE := c', ms := L.ms ++ [p], I := fun k => L.I k ∨ In k } ∧ RPost lo w0 (w1.setCell ⟨g, 17, none⟩ v1) L0 { L with b := b', AE := A', cE := c', ms := L.ms ++ [p], I := fun k => L.I k ∨ In k } ∧ ∀ k, mine { L with b := b', AE := A', cE := c', ms := L.ms ++ [p], I := fun k => L.I k ∨ In k } k → mine L k ∨ Wa.heap.size ≤ k := by
  obtain ⟨b', c', hv, hb1, hb2, hb3⟩ := Kd.R_form hN (by simp)
  subst hv
  have hown : ∀ k, some k = (Value.slice L.AE L.ms.length L.cE).ownBlock → 0 < L.ms.length ∧ k = L.b := fun k hk => h.ent.1 k hk.symm
  have hb' : (0 < L.ms.length ∧ b' = L.b) ∨ Wa.heap.size ≤ b' := hN.1 b' (by rfl)
  have hs := h.size
  have hsz : Wa.heap.size ≤ w1.heap.size := hg.size
  have hsz2 : w1.heap.size ≤ (w1.setCell ⟨g, 17, none⟩ (Value.slice (some ⟨b', 0, none⟩) (L.ms ++ [p]).length c')).heap.size := ((Below.refl 0 w1).setCell (p := ⟨g, 17, none⟩) (Nat.zero_le _) _).size
  have nown : ∀ k, (0 < L.ms.length → k ≠ L.b) → some k ≠ (Value.slice L.AE L.ms.length L.cE).ownBlock := fun k hk e => hk (hown k e).1 (hown k e).2
  have stay : ∀ k, k < Wa.heap.size → (0 < L.ms.length → k ≠ L.b) → w1.heap[k]? = Wa.heap[k]? := fun k hlt hk => hg.block k hlt (nown k hk)
  have gf := foot_root h.tr
  have gb : 0 < L.ms.length → g ≠ L.b := fun hl e => (h.fb hl).1 (e ▸ gf)
  have ng : b' ≠ g := by
    rcases hb' with q | q
    · exact fun e => gb q.1 (by omega)
    · have := h.hi g h.g; omega
  have fb : ∀ k, foot L.X k → w1.heap[k]? = Wa.heap[k]? := fun k hk => stay k (h.hi k (.inl hk)) (fun hl e => (h.fb hl).1 (e ▸ hk))
  have mn : ∀ k, mine { L with b := b', AE := some ⟨b', 0, none⟩, cE := c', ms := L.ms ++ [p], I := fun k => L.I k ∨ In k } k → mine L k ∨ Wa.heap.size ≤ k := fun k hk => by
    rcases hk with q | q | q
    · exact .inl (.inl q)
    · exact .inl (.inr (.inl q))
    · rcases hb' with z | z
      · exact .inl (.inr (.inr ⟨z.1, by rw [q.2]; exact z.2⟩))
      · exact .inr (by rw [q.2]; exact z)
  refine ⟨b', some ⟨b', 0, none⟩, c', rfl, ⟨?_, beside (h.tr.move fb) 17 (by omega) _, ?_, h.vl, ?_, ?_, by simp [h.len], fun i hi => ?_, fun k hk => (mn k hk).elim (h.lo k) (fun q => Nat.le_trans hs q), fun k hk => ?_, fun k hk => ?_, h.fq, fun _ => ⟨fun hf => ?_, ?_⟩⟩, ⟨P0.kept.then_ ⟨Nat.le_trans hsz hsz2, fun k h1 h2 => ?_⟩ (fun j hj => P0.mine j hj), fun k hk => (mn k hk).elim (P0.mine k) (fun q => .inr (Nat.le_trans P0.kept.1 q)), fun k hk => ?_, ?_⟩, mn⟩
  · have hz : BoxAt w1 g (own18 S L) := by
      obtain ⟨cs, q1, q2⟩ := h.box
      exact ⟨cs, by rw [fb g gf]; exact q1, q2⟩
    exact hz.set 17 (Value.slice (some ⟨b', 0, none⟩) (L.ms ++ [p]).length c') rfl (by omega)
  · have hc : CntAt w1 g 13 S.cnt := by
      obtain ⟨cs, t, q1, q2⟩ := h.ct
      exact ⟨cs, t, by rw [fb g gf]; exact q1, q2⟩
    exact cnt_beside hc 17 (by omega) _
  · have ho : kB.R 4 w1 lo (fun k => k = L.q) (.slice (some ⟨L.q, 0, none⟩) S.out.length L.oc) S.out := Kd.R_step h.out (fun k ho hlt => stay k hlt (fun hl e => (h.fb hl).2 (by rw [← e]; exact ho)))
    exact Kd.R_far (p := ⟨g, 17, none⟩) ho (fun k hk e => h.fq (by have z : k = g := e; rw [← hk, z]; exact gf)) _
  · have ho := show kE.R 40 w1 lo (fun k => 0 < (L.ms ++ [p]).length ∧ k = b') (.slice (some ⟨b', 0, none⟩) (L.ms ++ [p]).length c') (L.ms ++ [p]) from Kd.R_reok rfl hN (fun k hk => ⟨by simp, by simpa [Value.ownBlock] using hk.symm⟩)
    exact Kd.R_far (p := ⟨g, 17, none⟩) ho (fun k hk e => ng (by rw [← hk.2]; exact e)) _
  · have far : ∀ {i : Nat} {m : ME} {e : PE}, EntAt Wa (fun k => L.I k ∨ In k) i m e → EntAt (w1.setCell ⟨g, 17, none⟩ (Value.slice (some ⟨b', 0, none⟩) (L.ms ++ [p]).length c')) (fun k => L.I k ∨ In k) i m e := fun q => by
      have nm : ∀ k, L.I k ∨ In k → ¬ mine L k := fun k hk => hk.elim (fun z => (h.ih k z).2) (fun z => (hIn k z).2)
      exact (q.step (fun k hk hlt => stay k hlt (fun hl e => nm k hk (.inr (.inr ⟨hl, e⟩))))).far (a := ⟨g, 17, none⟩) (fun k hk e => nm k hk (by have z : k = g := e; rw [z]; exact .inl gf)) _
    have hln : S.es.length = L.ms.length := h.len.symm
    simp only [List.length_append, List.length_singleton] at hi
    by_cases hlt : i < S.es.length
    · have q := far ((h.inn i hlt).mono (fun k hk => .inl hk))
      rw [List.getD_eq_getElem?_getD, List.getD_eq_getElem?_getD, List.getElem?_append_left (by omega), List.getElem?_append_left hlt, ← List.getD_eq_getElem?_getD, ← List.getD_eq_getElem?_getD]
      exact q
    · have hi2 : i = S.es.length := by omega
      subst hi2
      have q := far hE
      rw [List.getD_eq_getElem?_getD, List.getD_eq_getElem?_getD, List.getElem?_append_right (by omega), List.getElem?_append_right (by omega)]
      simpa [hln] using q
  · rcases hk with q | q | q
    · exact Nat.lt_of_lt_of_le (h.hi k (.inl q)) (Nat.le_trans hsz hsz2)
    · exact Nat.lt_of_lt_of_le (h.hi k (.inr (.inl q))) (Nat.le_trans hsz hsz2)
    · rw [q.2]; exact Nat.lt_of_lt_of_le hb2 hsz2
  · have z : k < Wa.heap.size ∧ ¬ mine L k := hk.elim (fun z => h.ih k z) (fun z => hIn k z)
    exact ⟨Nat.lt_of_lt_of_le z.1 (Nat.le_trans hsz hsz2), fun hm => (mn k hm).elim z.2 (fun q => by omega)⟩
  · rcases hb' with q | q
    · exact (h.fb q.1).1 (by have hf2 : foot L.X b' := hf; rw [q.2] at hf2; exact hf2)
    · have := h.hi b' (.inl hf); omega
  · show b' ≠ L.q
    rcases hb' with q | q
    · rw [q.2]; exact (h.fb q.1).2
    · have := h.hi L.q (.inr (.inl rfl)); omega
  · rw [Below.heap_setCell _ _ _ _ (fun e => h2 (by have z : k = g := e; rw [z]; exact h.g))]
    exact stay k h1 (fun hl e => h2 (.inr (.inr ⟨hl, e⟩)))
  · exact hk.elim (P0.inn k) (fun z => .inr (hI0 k z))
  · exact (P0.below.trans hB).setCell (p := ⟨g, 17, none⟩) (h.lo g h.g) _
end Go.Proofs.Ythihgiaflbaigaa.ORouter
