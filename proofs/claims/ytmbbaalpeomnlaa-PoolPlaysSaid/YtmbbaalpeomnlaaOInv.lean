/- What always holds of a pool: its idle row is just the sealed pages that nobody needs. -/
import Derived.Test.YtmbbaalpeomnlaaOPool6
set_option linter.unusedVariables false
set_option linter.unusedSimpArgs false
namespace Go.Proofs.Ytmbbaalpeomnlaa.OInv
open Go.RowKit Go.Proofs.YtmbbaalpeomnlaaW.PrintWords Go.Proofs.YtmbbaalpeomnlaaW.PrintLast Go.Proofs.YtmbbaalpeomnlaaW.PrintMore Go.Proofs.Ytmbbaalpeomnlaa.GQ Go.Proofs.Ytmbbaalpeomnlaa.OPool
def idp (p : PG) : Bool := p.f0 == 0 && p.f1
theorem idp_iff {p : PG} : idp p = true ↔ p.f0 = 0 ∧ p.f1 = true := by simp [idp]
structure Inv (X : PX) : Prop where
  low : ∀ p ∈ X.pages, 0 ≤ p.f0 ∧ p.f0 ≤ 1000
  zero : ∀ p ∈ X.pages, p.f1 = false → p.f2 = 0
  mem : ∀ i : Int, i ∈ X.idle ↔ (0 ≤ i ∧ i < X.pages.length ∧ idp (pg X.pages i) = true)
  nodup : X.idle.Nodup
  count : X.idle.length = X.pages.countP idp
  len : X.pages.length ≤ 64
theorem pg_mem {ps : List PG} {i : Int} (h0 : 0 ≤ i) (h1 : i < ps.length) : pg ps i ∈ ps := by
  have := pg_at ps i.toNat (by omega)
  rw [show (i.toNat : Int) = i by omega] at this
  rw [this]
  exact List.getElem_mem _
theorem pg_other (ps : List PG) (i j : Int) (p : PG) (h0 : 0 ≤ i) (hj : 0 ≤ j) (h : j ≠ i) : pg (pset ps i p) j = pg ps j := by
  unfold pg pset
  rw [List.getD_eq_getElem?_getD, List.getElem?_set_ne (by omega), ← List.getD_eq_getElem?_getD]
theorem cp_set (f : PG → Bool) : ∀ (ps : List PG) (i : Nat) (q : PG), i < ps.length → (ps.set i q).countP f + (if f (ps.getD i z55) then 1 else 0) = ps.countP f + (if f q then 1 else 0) := by
  intro ps
  induction ps with
  | nil => intro i q h; simp at h
  | cons p ps ih =>
    intro i q h
    cases i with
    | zero =>
      rw [List.set_cons_zero, List.countP_cons, List.countP_cons, List.getD_cons_zero]
      omega
    | succ i =>
      rw [List.set_cons_succ, List.countP_cons, List.countP_cons, List.getD_cons_succ]
      have := ih i q (by simpa using h)
      omega
theorem cp_pset (f : PG → Bool) (ps : List PG) (i : Int) (q : PG) (h0 : 0 ≤ i) (h1 : i < ps.length) : (pset ps i q).countP f + (if f (pg ps i) then 1 else 0) = ps.countP f + (if f q then 1 else 0) :=
  cp_set f ps i.toNat q (by omega)
theorem cp_room (f : PG → Bool) (ps : List PG) (i : Int) (h0 : 0 ≤ i) (h1 : i < ps.length) (q : PG) (hq : f q = true) (h : f (pg ps i) = false) : ps.countP f + 1 ≤ ps.length := by
  have := cp_pset f ps i q h0 h1
  have hl := List.countP_le_length (p := f) (l := pset ps i q)
  rw [pset_len] at hl
  rw [hq, h, if_pos rfl, if_neg (by decide)] at this
  omega
theorem iidx_mem (x : Int) : ∀ (l : List Int) (k : Nat), x ∈ l → (k : Int) ≤ iidx x l k := by
  intro l
  induction l with
  | nil => intro k h; cases h
  | cons y l ih =>
    intro k h
    simp only [iidx]
    split
    · omega
    · have := ih (k + 1) (by rcases List.mem_cons.1 h with e | e; exact absurd e (by assumption); exact e)
      omega
theorem mem_iidx (x : Int) : ∀ (l : List Int) (k : Nat), 0 ≤ iidx x l k → x ∈ l := by
  intro l
  induction l with
  | nil => intro k h; simp [iidx] at h
  | cons y l ih =>
    intro k h
    simp only [iidx] at h
    split at h
    · rename_i e; rw [e]; exact List.mem_cons_self
    · exact List.mem_cons_of_mem _ (ih (k + 1) h)
theorem erase_iidx (x : Int) : ∀ (l : List Int) (k : Nat), x ∈ l → l.eraseIdx (iidx x l k - (k : Int)).toNat = l.erase x := by
  intro l
  induction l with
  | nil => intro k h; cases h
  | cons y l ih =>
    intro k h
    by_cases e : x = y
    · subst e
      simp only [iidx, if_pos]
      rw [show ((k : Int) - (k : Int)).toNat = 0 by omega, List.erase_cons_head]
      rfl
    · have hm : x ∈ l := by rcases List.mem_cons.1 h with e' | e'; exact absurd e' e; exact e'
      simp only [iidx, if_neg e]
      have hk := iidx_mem x l (k + 1) hm
      have := ih (k + 1) hm
      rw [show (iidx x l (k + 1) - (k : Int)).toNat = (iidx x l (k + 1) - ((k + 1 : Nat) : Int)).toNat + 1 by omega, List.eraseIdx_cons_succ, this, List.erase_cons_tail]
      simpa using fun e' => e e'.symm
theorem erase_idle (x : Int) (l : List Int) (h : x ∈ l) : l.eraseIdx (iidx x l 0).toNat = l.erase x := by
  have := erase_iidx x l 0 h
  rwa [show iidx x l 0 - ((0 : Nat) : Int) = iidx x l 0 by omega] at this
/-- One page is another one; the idle row goes with it. -/
theorem inv_set {X : PX} (h : Inv X) (i : Int) (h0 : 0 ≤ i) (h1 : i < X.pages.length) (p : PG) (hl : 0 ≤ p.f0 ∧ p.f0 ≤ 1000) (hz : p.f1 = false → p.f2 = 0) (idle' : List Int)
    (ho : ∀ j, j ≠ i → (j ∈ idle' ↔ j ∈ X.idle)) (hi : i ∈ idle' ↔ idp p = true) (hn : idle'.Nodup) (hc : idle'.length + (if idp (pg X.pages i) then 1 else 0) = X.idle.length + (if idp p then 1 else 0)) : Inv ⟨pset X.pages i p, idle'⟩ := by
  refine ⟨?_, ?_, ?_, hn, ?_, by rw [show (⟨pset X.pages i p, idle'⟩ : PX).pages = pset X.pages i p from rfl, pset_len]; exact h.len⟩
  · intro q hq
    rcases List.mem_or_eq_of_mem_set hq with hq | rfl
    · exact h.low q hq
    · exact hl
  · intro q hq hf
    rcases List.mem_or_eq_of_mem_set hq with hq | rfl
    · exact h.zero q hq hf
    · exact hz hf
  · intro j
    show j ∈ idle' ↔ 0 ≤ j ∧ j < (pset X.pages i p).length ∧ idp (pg (pset X.pages i p) j) = true
    rw [pset_len]
    by_cases e : j = i
    · subst e
      rw [hi, pg_pset _ _ _ h0 h1]
      exact ⟨fun hh => ⟨h0, h1, hh⟩, fun hh => hh.2.2⟩
    · rw [ho j e, h.mem j]
      constructor
      · rintro ⟨a, b, c⟩; exact ⟨a, b, by rw [pg_other _ _ _ _ h0 a e]; exact c⟩
      · rintro ⟨a, b, c⟩; exact ⟨a, b, by rw [pg_other _ _ _ _ h0 a e] at c; exact c⟩
  · show idle'.length = (pset X.pages i p).countP idp
    have := cp_pset idp X.pages i p h0 h1
    have hc0 := h.count
    omega
theorem Inv.page {X : PX} (h : Inv X) {i : Int} (ht : there X.pages i = true) : 0 ≤ i ∧ i < X.pages.length ∧ (0 ≤ (pg X.pages i).f0 ∧ (pg X.pages i).f0 ≤ 1000) ∧ ((pg X.pages i).f1 = false → (pg X.pages i).f2 = 0 ∧ ¬ (pg X.pages i).f0 = 0) := by
  obtain ⟨a, b, c⟩ := there_iff ht
  refine ⟨a, b, h.low _ (pg_mem a b), fun hf => ?_⟩
  have hz := h.zero _ (pg_mem a b) hf
  refine ⟨hz, fun e => ?_⟩
  rw [fre_yes e (by rw [hf]; decide) hz] at c
  cases c
theorem Inv.hold_in {X : PX} (h : Inv X) (i : Int) (ht : there X.pages i = true) (h0 : (pg X.pages i).f0 = 0) : i ∈ X.idle := by
  obtain ⟨a, b, c, d⟩ := h.page ht
  refine (h.mem i).2 ⟨a, b, idp_iff.2 ⟨h0, ?_⟩⟩
  cases hf : (pg X.pages i).f1
  · exact absurd h0 (d hf).2
  · rfl
theorem inv_hold {X : PX} (h : Inv X) (i : Int) : Inv (pHold X i).1 := by
  unfold pHold
  by_cases ht : there X.pages i = true
  · rw [if_pos ht]
    obtain ⟨a, b, c, d⟩ := h.page ht
    by_cases hb : (pg X.pages i).f0 ≥ 1000
    · rw [if_pos hb]; exact h
    rw [if_neg hb]
    have hp : idp ⟨(pg X.pages i).f0 + 1, (pg X.pages i).f1, (pg X.pages i).f2⟩ = false := by
      cases e : idp ⟨(pg X.pages i).f0 + 1, (pg X.pages i).f1, (pg X.pages i).f2⟩
      · rfl
      · have := (idp_iff.1 e).1
        have h2 : (pg X.pages i).f0 + 1 = 0 := this
        omega
    by_cases hz : (pg X.pages i).f0 = 0
    · rw [if_pos hz]
      have hm := h.hold_in i ht hz
      rw [erase_idle i X.idle hm]
      have hid := ((h.mem i).1 hm).2.2
      refine inv_set h i a b ⟨(pg X.pages i).f0 + 1, (pg X.pages i).f1, (pg X.pages i).f2⟩ ⟨by show 0 ≤ (pg X.pages i).f0 + 1; omega, by show (pg X.pages i).f0 + 1 ≤ 1000; omega⟩ (fun hf => (d hf).1) _ (fun j hj => ?_) ?_ (h.nodup.erase i) ?_
      · exact List.mem_erase_of_ne hj
      · rw [hp]
        exact ⟨fun hh => absurd rfl ((List.Nodup.mem_erase_iff h.nodup).1 hh).1, fun hh => by cases hh⟩
      · rw [hp, hid, List.length_erase_of_mem hm, if_pos rfl, if_neg (by decide)]
        have := List.length_pos_of_mem hm
        omega
    · rw [if_neg hz]
      have hid : idp (pg X.pages i) = false := by
        cases e : idp (pg X.pages i)
        · rfl
        · exact absurd (idp_iff.1 e).1 hz
      refine inv_set h i a b ⟨(pg X.pages i).f0 + 1, (pg X.pages i).f1, (pg X.pages i).f2⟩ ⟨by show 0 ≤ (pg X.pages i).f0 + 1; omega, by show (pg X.pages i).f0 + 1 ≤ 1000; omega⟩ (fun hf => (d hf).1) _ (fun j hj => Iff.rfl) ?_ h.nodup (by rw [hp, hid])
      rw [hp, h.mem i, hid]
      simp
  · rw [if_neg ht]; exact h
theorem inv_seal {X : PX} (h : Inv X) (i key : Int) : Inv (pSeal X i key).1 := by
  unfold pSeal
  by_cases ht : there X.pages i = true
  · rw [if_pos ht]
    obtain ⟨a, b, c, d⟩ := h.page ht
    by_cases hb : findB key X.pages = true ∨ (pg X.pages i).f1 = true
    · rw [if_pos hb]; exact h
    · rw [if_neg hb]
      have hf : (pg X.pages i).f1 = false := by
        cases e : (pg X.pages i).f1
        · rfl
        · exact absurd (.inr e) hb
      have h0 := (d hf).2
      have hp : idp ⟨(pg X.pages i).f0, true, key⟩ = false := by
        cases e : idp ⟨(pg X.pages i).f0, true, key⟩
        · rfl
        · exact absurd (idp_iff.1 e).1 h0
      have hid : idp (pg X.pages i) = false := by
        cases e : idp (pg X.pages i)
        · rfl
        · exact absurd (idp_iff.1 e).1 h0
      refine inv_set h i a b ⟨(pg X.pages i).f0, true, key⟩ c (fun hf => by cases hf) _ (fun j hj => Iff.rfl) ?_ h.nodup (by rw [hp, hid])
      rw [hp, h.mem i, hid]
      simp
  · rw [if_neg ht]; exact h
theorem inv_drop {X : PX} (h : Inv X) (i : Int) : Inv (pDrop X i).1 := by
  unfold pDrop
  by_cases ht : there X.pages i = true ∧ ¬ (pg X.pages i).f0 = 0
  · rw [if_pos ht]
    obtain ⟨ht, hz⟩ := ht
    obtain ⟨a, b, c, d⟩ := h.page ht
    have hid : idp (pg X.pages i) = false := by
      cases e : idp (pg X.pages i)
      · rfl
      · exact absurd (idp_iff.1 e).1 hz
    have hni : i ∉ X.idle := fun hm => by
      have := ((h.mem i).1 hm).2.2
      rw [hid] at this; cases this
    have hl : 0 ≤ (pg X.pages i).f0 - 1 ∧ (pg X.pages i).f0 - 1 ≤ 1000 := by omega
    by_cases hp : (pg X.pages i).f0 - 1 > 0
    · rw [if_pos hp]
      have hp2 : idp ⟨(pg X.pages i).f0 - 1, (pg X.pages i).f1, (pg X.pages i).f2⟩ = false := by
        cases e : idp ⟨(pg X.pages i).f0 - 1, (pg X.pages i).f1, (pg X.pages i).f2⟩
        · rfl
        · have := (idp_iff.1 e).1
          have h2 : (pg X.pages i).f0 - 1 = 0 := this
          omega
      refine inv_set h i a b ⟨(pg X.pages i).f0 - 1, (pg X.pages i).f1, (pg X.pages i).f2⟩ hl (fun hf => (d hf).1) _ (fun j hj => Iff.rfl) ?_ h.nodup (by rw [hp2, hid])
      rw [hp2]
      exact ⟨fun hh => absurd hh hni, fun hh => by cases hh⟩
    · rw [if_neg hp]
      have hone : (pg X.pages i).f0 - 1 = 0 := by omega
      by_cases hs : (pg X.pages i).f1 = true
      · rw [if_pos hs]
        have hp2 : idp ⟨(pg X.pages i).f0 - 1, (pg X.pages i).f1, (pg X.pages i).f2⟩ = true := idp_iff.2 ⟨hone, hs⟩
        refine inv_set h i a b ⟨(pg X.pages i).f0 - 1, (pg X.pages i).f1, (pg X.pages i).f2⟩ hl (fun hf => (d hf).1) _ (fun j hj => ?_) ?_ ?_ ?_
        · rw [List.mem_append, List.mem_singleton]
          exact ⟨fun hh => hh.elim id (fun e => absurd e hj), .inl⟩
        · rw [hp2]
          exact ⟨fun _ => rfl, fun _ => by simp⟩
        · rw [List.nodup_append]
          refine ⟨h.nodup, by simp, fun x hx y hy => ?_⟩
          rw [List.mem_singleton] at hy
          subst hy
          exact fun e => hni (e ▸ hx)
        · rw [hp2, hid, List.length_append, List.length_singleton, if_pos rfl, if_neg (by decide)]
      · rw [if_neg hs]
        have hp2 : idp ⟨(pg X.pages i).f0 - 1, (pg X.pages i).f1, (pg X.pages i).f2⟩ = false := by
          cases e : idp ⟨(pg X.pages i).f0 - 1, (pg X.pages i).f1, (pg X.pages i).f2⟩
          · rfl
          · exact absurd (idp_iff.1 e).2 hs
        refine inv_set h i a b ⟨(pg X.pages i).f0 - 1, (pg X.pages i).f1, (pg X.pages i).f2⟩ hl (fun hf => (d hf).1) _ (fun j hj => Iff.rfl) ?_ h.nodup (by rw [hp2, hid])
        rw [hp2]
        exact ⟨fun hh => absurd hh hni, fun hh => by cases hh⟩
  · rw [if_neg ht]; exact h
theorem inv_forget {X : PX} (h : Inv X) (i : Int) : Inv (pForget X i).1 := by
  unfold pForget
  by_cases hc : iidx i X.idle 0 < 0
  · rw [if_pos hc]; exact h
  · rw [if_neg hc]
    have hm := mem_iidx i X.idle 0 (by omega)
    obtain ⟨a, b, c⟩ := (h.mem i).1 hm
    rw [erase_idle i X.idle hm]
    have hp : idp z55 = false := by decide
    refine inv_set h i a b z55 ⟨by decide, by decide⟩ (fun _ => rfl) _ (fun j hj => List.mem_erase_of_ne hj) ?_ (h.nodup.erase i) ?_
    · rw [hp]
      exact ⟨fun hh => absurd rfl ((List.Nodup.mem_erase_iff h.nodup).1 hh).1, fun hh => by cases hh⟩
    · rw [hp, c, List.length_erase_of_mem hm, if_pos rfl, if_neg (by decide)]
      have := List.length_pos_of_mem hm
      omega
theorem fidx_fre : ∀ (l : List PG) (k : Nat), 0 ≤ fidx l k → (k : Int) ≤ fidx l k ∧ fidx l k < k + l.length ∧ fre (l.getD (fidx l k - k).toNat z55) = true := by
  intro l
  induction l with
  | nil => intro k h; simp [fidx] at h
  | cons p l ih =>
    intro k h
    simp only [fidx] at h ⊢
    split
    · rename_i e
      refine ⟨by omega, by simp; omega, ?_⟩
      rw [show ((k : Int) - (k : Int)).toNat = 0 by omega]
      exact e
    · rename_i e
      rw [if_neg e] at h
      obtain ⟨a, b, c⟩ := ih (k + 1) h
      refine ⟨by omega, by simp; omega, ?_⟩
      rw [show (fidx l (k + 1) - (k : Int)).toNat = (fidx l (k + 1) - ((k + 1 : Nat) : Int)).toNat + 1 by omega, List.getD_cons_succ]
      exact c
theorem fidx_page {ps : List PG} (h : 0 ≤ fidx ps 0) : fidx ps 0 < ps.length ∧ fre (pg ps (fidx ps 0)) = true := by
  obtain ⟨a, b, c⟩ := fidx_fre ps 0 h
  rw [show fidx ps 0 - ((0 : Nat) : Int) = fidx ps 0 by omega] at c
  exact ⟨by omega, c⟩
theorem fidx_none : ∀ (l : List PG) (k : Nat), fidx l k < 0 → cfre l = 0 := by
  intro l
  induction l with
  | nil => intro k _; rfl
  | cons p l ih =>
    intro k h
    simp only [fidx] at h
    split at h
    · omega
    · rename_i e
      unfold cfre at ih ⊢
      rw [List.countP_cons, ih (k + 1) h, if_neg e]
theorem fre_idp {p : PG} (h : fre p = true) : idp p = false := by
  cases e : idp p
  · rfl
  · rw [fre_1 (idp_iff.1 e).2] at h; cases h
theorem inv_take {X : PX} (h : Inv X) : Inv (pTake X).1 := by
  unfold pTake
  have hp : idp ⟨1, false, 0⟩ = false := by decide
  by_cases hc : 0 ≤ fidx X.pages 0
  · rw [if_pos hc]
    obtain ⟨b, c⟩ := fidx_page hc
    have hid := fre_idp c
    refine inv_set h _ hc b ⟨1, false, 0⟩ ⟨by decide, by decide⟩ (fun _ => rfl) _ (fun j hj => Iff.rfl) ?_ h.nodup (by rw [hp, hid])
    rw [hp, h.mem, hid]
    simp
  · rw [if_neg hc]
    cases e : X.idle with
    | nil => exact h
    | cons i r =>
      have hm : i ∈ X.idle := by rw [e]; exact List.mem_cons_self
      obtain ⟨a, b, c⟩ := (h.mem i).1 hm
      have hn := h.nodup
      rw [e, List.nodup_cons] at hn
      refine inv_set h i a b ⟨1, false, 0⟩ ⟨by decide, by decide⟩ (fun _ => rfl) _ (fun j hj => ?_) ?_ hn.2 ?_
      · rw [e, List.mem_cons]
        exact ⟨.inr, fun hh => hh.elim (fun e' => absurd e' hj) id⟩
      · rw [hp]
        exact ⟨fun hh => absurd hh hn.1, fun hh => by cases hh⟩
      · rw [hp, c, e, List.length_cons, if_pos rfl, if_neg (by decide)]
theorem inv_fresh (n : Nat) (h : n ≤ 64) : Inv (fresh n) := by
  have hall : ∀ p ∈ (fresh n).pages, p = z55 := fun p hp => List.eq_of_mem_replicate hp
  refine ⟨fun p hp => by rw [hall p hp]; decide, fun p hp _ => by rw [hall p hp]; rfl, fun i => ?_, List.nodup_nil, ?_, by show (List.replicate n z55).length ≤ 64; rw [List.length_replicate]; exact h⟩
  · constructor
    · intro hh; cases hh
    · rintro ⟨a, b, c⟩
      rw [hall _ (pg_mem a b)] at c
      cases c
  · show 0 = (List.replicate n z55).countP idp
    rw [List.countP_replicate, if_neg (by decide)]
theorem two_counts : ∀ ps : List PG, cfre ps + ps.countP idp ≤ ps.length := by
  intro ps
  unfold cfre
  induction ps with
  | nil => exact Nat.le_refl _
  | cons p ps ih =>
    rw [List.countP_cons, List.countP_cons, List.length_cons]
    cases e : fre p
    · rw [if_neg (by decide)]
      split <;> omega
    · rw [fre_idp e, if_pos rfl, if_neg (by decide)]
      omega
theorem Inv.counts {X : PX} (h : Inv X) : cfre X.pages + X.idle.length ≤ X.pages.length := by rw [h.count]; exact two_counts _
/-- What the calls ask for. -/
theorem Inv.ask_hold {X : PX} (h : Inv X) (i : Int) : (there X.pages i = true → (pg X.pages i).f0 = 0 → 0 ≤ iidx i X.idle 0) ∧ (there X.pages i = true → 0 ≤ (pg X.pages i).f0) :=
  ⟨fun ht h0 => by have := iidx_mem i X.idle 0 (h.hold_in i ht h0); omega, fun ht => (h.page ht).2.2.1.1⟩
theorem Inv.ask_drop {X : PX} (h : Inv X) (i : Int) : (there X.pages i = true → 0 ≤ (pg X.pages i).f0 ∧ (pg X.pages i).f0 ≤ 1000) ∧ (there X.pages i = true → X.idle.length ≤ 63 ∨ ¬ (pg X.pages i).f0 = 1) := by
  refine ⟨fun ht => (h.page ht).2.2.1, fun ht => ?_⟩
  obtain ⟨a, b, _⟩ := h.page ht
  by_cases h1 : (pg X.pages i).f0 = 1
  · left
    have := cp_room idp X.pages i a b ⟨0, true, 0⟩ (by decide) (by
      cases e : idp (pg X.pages i)
      · rfl
      · have := (idp_iff.1 e).1; omega)
    have := h.count
    have := h.len
    omega
  · exact .inr h1
theorem Inv.ask_forget {X : PX} (h : Inv X) (i : Int) : 0 ≤ iidx i X.idle 0 → 0 ≤ i ∧ i < X.pages.length := fun hh => by
  obtain ⟨a, b, _⟩ := (h.mem i).1 (mem_iidx i X.idle 0 hh)
  exact ⟨a, b⟩
theorem Inv.ask_take {X : PX} (h : Inv X) : ∀ i ∈ X.idle, 0 ≤ i ∧ i < X.pages.length := fun i hi => by
  obtain ⟨a, b, _⟩ := (h.mem i).1 hi
  exact ⟨a, b⟩
end Go.Proofs.Ytmbbaalpeomnlaa.OInv
