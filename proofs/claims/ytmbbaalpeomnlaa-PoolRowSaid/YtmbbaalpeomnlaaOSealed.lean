/- A pool all of whose pages are sealed. -/
import Derived.Test.YtmbbaalpeomnlaaOTaken
set_option linter.unusedVariables false
set_option linter.unusedSimpArgs false
namespace Go.Proofs.Ytmbbaalpeomnlaa.OInv
open Go.RowKit Go.Proofs.YtmbbaalpeomnlaaW.PrintWords Go.Proofs.YtmbbaalpeomnlaaW.PrintLast Go.Proofs.YtmbbaalpeomnlaaW.PrintMore Go.Proofs.Ytmbbaalpeomnlaa.GQ Go.Proofs.Ytmbbaalpeomnlaa.OPool
theorem fidx_first : ∀ (l : List PG) (k m : Nat), m < l.length → (∀ j, j < m → fre (l.getD j z55) = false) → fre (l.getD m z55) = true → fidx l k = (k + m : Nat) := by
  intro l
  induction l with
  | nil => intro k m h; simp at h
  | cons p l ih =>
    intro k m h h1 h2
    simp only [fidx]
    cases m with
    | zero =>
      rw [if_pos (by simpa using h2)]
      simp
    | succ m =>
      have h0 : fre p = false := by simpa using h1 0 (by omega)
      rw [if_neg (by rw [h0]; decide), ih (k + 1) m (by simpa using h) (fun j hj => by simpa using h1 (j + 1) (by omega)) (by simpa using h2), show k + 1 + m = k + (m + 1) by omega]
theorem kidx_none (key : Int) : ∀ (l : List PG) (k : Nat), (∀ p ∈ l, p.f1 = true → p.f2 ≠ key) → kidx key l k = -1 := by
  intro l
  induction l with
  | nil => intro k _; rfl
  | cons p l ih =>
    intro k h
    simp only [kidx]
    rw [if_neg (fun e => h p List.mem_cons_self e.1 e.2), ih (k + 1) (fun q hq => h q (List.mem_cons_of_mem _ hq))]
theorem mem_pg {ps : List PG} {p : PG} (h : p ∈ ps) : ∃ j : Nat, j < ps.length ∧ pg ps (j : Int) = p := by
  obtain ⟨j, hj, e⟩ := List.getElem_of_mem h
  exact ⟨j, hj, by rw [pg_at ps j hj, e]⟩
theorem pg_getD (ps : List PG) (j : Nat) : ps.getD j z55 = pg ps (j : Int) := by unfold pg; rw [Int.toNat_natCast]
/-- The pages ahead of i are needed once and sealed, the others free. -/
structure Half (n i : Nat) (X : PX) : Prop where
  inv : Inv X
  len : X.pages.length = n
  idle : X.idle = []
  fst : ∀ j : Nat, j < i → pg X.pages (j : Int) = ⟨1, true, 100 + (j : Int)⟩
  snd : ∀ j : Nat, i ≤ j → j < n → pg X.pages (j : Int) = z55
theorem half_fresh (n : Nat) (h : n ≤ 64) : Half n 0 (fresh n) :=
  ⟨inv_fresh n h, by show (List.replicate n z55).length = n; rw [List.length_replicate], rfl, fun j hj => absurd hj (by omega), fun j _ hj => by
    have hl : (fresh n).pages.length = n := by show (List.replicate n z55).length = n; rw [List.length_replicate]
    exact List.eq_of_mem_replicate (pg_mem (ps := (fresh n).pages) (i := (j : Int)) (by omega) (by rw [hl]; omega))⟩
theorem half_take {n i : Nat} {X : PX} (h : Half n i X) (hi : i < n) : pTake X = (⟨pset X.pages (i : Int) ⟨1, false, 0⟩, []⟩, ((i : Int), 0, false, 0)) := by
  have hf : fidx X.pages 0 = (i : Int) := by
    have := fidx_first X.pages 0 i (by rw [h.len]; exact hi) (fun j hj => by rw [pg_getD, h.fst j hj]; exact fre_1 rfl) (by rw [pg_getD, h.snd i (Nat.le_refl _) hi]; decide)
    rw [this, Nat.zero_add]
  unfold pTake
  rw [hf, if_pos (by omega), h.idle]
theorem half_seal {n i : Nat} {X : PX} (h : Half n i X) (hi : i < n) : ∃ Z, pSeal ⟨pset X.pages (i : Int) ⟨1, false, 0⟩, []⟩ (i : Int) (100 + (i : Int)) = (Z, 0) ∧ Half n (i + 1) Z := by
  have hlt : (i : Int) < X.pages.length := by rw [h.len]; omega
  have hp : pg (pset X.pages (i : Int) ⟨1, false, 0⟩) (i : Int) = ⟨1, false, 0⟩ := pg_pset _ _ _ (by omega) hlt
  have ht : there (pset X.pages (i : Int) ⟨1, false, 0⟩) (i : Int) = true := by
    unfold there
    rw [hp, pset_len, decide_eq_true (by omega), decide_eq_true hlt]
    rfl
  have hk : findB (100 + (i : Int)) (pset X.pages (i : Int) ⟨1, false, 0⟩) = false := by
    refine (find_no (kidx_none _ _ _ fun p hpm hf => ?_)).2
    obtain ⟨j, hj, rfl⟩ := mem_pg hpm
    rw [pset_len, h.len] at hj
    by_cases e : j = i
    · subst e; rw [hp] at hf; cases hf
    · rw [pg_other _ _ _ _ (by omega) (by omega) (by omega)] at hf ⊢
      by_cases hji : j < i
      · rw [h.fst j hji]; show 100 + (j : Int) ≠ 100 + (i : Int); omega
      · rw [h.snd j (by omega) hj] at hf; cases hf
  have e0 : pSeal ⟨pset X.pages (i : Int) ⟨1, false, 0⟩, []⟩ (i : Int) (100 + (i : Int)) = (⟨pset X.pages (i : Int) ⟨1, true, 100 + (i : Int)⟩, []⟩, 0) := by
    unfold pSeal
    rw [if_pos ht]
    have hp' : pg (⟨pset X.pages (i : Int) ⟨1, false, 0⟩, []⟩ : PX).pages (i : Int) = ⟨1, false, 0⟩ := hp
    have hk' : findB (100 + (i : Int)) (⟨pset X.pages (i : Int) ⟨1, false, 0⟩, []⟩ : PX).pages = false := hk
    rw [hp', hk', if_neg (by simp)]
    show ((⟨pset (pset X.pages (i : Int) ⟨1, false, 0⟩) (i : Int) ⟨1, true, 100 + (i : Int)⟩, []⟩ : PX), (0 : Int)) = _
    unfold pset
    rw [List.set_set]
  refine ⟨_, e0, ?_⟩
  have hI := inv_seal (inv_take h.inv) (i : Int) (100 + (i : Int))
  rw [half_take h hi] at hI
  have hI2 : Inv (pSeal ⟨pset X.pages (i : Int) ⟨1, false, 0⟩, []⟩ (i : Int) (100 + (i : Int))).1 := hI
  rw [e0] at hI2
  refine ⟨hI2, by show (pset X.pages (i : Int) _).length = n; rw [pset_len, h.len], rfl, fun j hj => ?_, fun j hj hj2 => ?_⟩
  · show pg (pset X.pages (i : Int) ⟨1, true, 100 + (i : Int)⟩) (j : Int) = _
    by_cases e : j = i
    · subst e; rw [pg_pset _ _ _ (by omega) hlt]
    · rw [pg_other _ _ _ _ (by omega) (by omega) (by omega), h.fst j (by omega)]
  · show pg (pset X.pages (i : Int) ⟨1, true, 100 + (i : Int)⟩) (j : Int) = _
    rw [pg_other _ _ _ _ (by omega) (by omega) (by omega), h.snd j (by omega) hj2]
/-- All pages are sealed, with their own keys, and needed once or not at all. -/
structure Sealed (n : Nat) (X : PX) : Prop where
  inv : Inv X
  len : X.pages.length = n
  all : ∀ i : Int, 0 ≤ i → i < n → (pg X.pages i).f0 ≤ 1 ∧ (pg X.pages i).f1 = true ∧ (pg X.pages i).f2 = 100 + i
theorem half_all {n : Nat} {X : PX} (h : Half n n X) : Sealed n X :=
  ⟨h.inv, h.len, fun i h0 h1 => by
    have := h.fst i.toNat (by omega)
    rw [show (i.toNat : Int) = i by omega] at this
    rw [this]
    exact ⟨by show (1 : Int) ≤ 1; omega, rfl, rfl⟩⟩
theorem Sealed.there {n : Nat} {X : PX} (h : Sealed n X) (i : Int) : OPool.there X.pages i = true ↔ (0 ≤ i ∧ i < n) := by
  constructor
  · intro ht
    obtain ⟨a, b, _⟩ := there_iff ht
    rw [h.len] at b
    exact ⟨a, b⟩
  · rintro ⟨a, b⟩
    unfold OPool.there
    rw [fre_1 (h.all i a b).2.1, h.len, decide_eq_true a, decide_eq_true b]
    rfl
theorem Sealed.cfre {n : Nat} {X : PX} (h : Sealed n X) : OPool.cfre X.pages = 0 := by
  unfold OPool.cfre
  rw [List.countP_eq_zero]
  intro p hp
  obtain ⟨j, hj, rfl⟩ := mem_pg hp
  rw [h.len] at hj
  rw [fre_1 (h.all j (by omega) (by omega)).2.1]
  decide
/-- A page is dropped: it stands last in the row, or nothing happens. -/
theorem Sealed.drop {n : Nat} {X : PX} (h : Sealed n X) (i : Int) : Sealed n (pDrop X i).1 ∧ (((pDrop X i).2 = 0 ∧ (pDrop X i).1.idle = X.idle ++ [i]) ∨ ((pDrop X i).2 = 8 ∧ (pDrop X i).1.idle = X.idle)) := by
  have hI := inv_drop h.inv i
  have hL := (len_drop X i).trans h.len
  by_cases ht : OPool.there X.pages i = true ∧ ¬ (pg X.pages i).f0 = 0
  · have hr := (h.there i).1 ht.1
    have ha := h.all i hr.1 hr.2
    have hlow := (h.inv.page ht.1).2.2.1
    have h1 : (pg X.pages i).f0 = 1 := by omega
    have e : pDrop X i = (⟨pset X.pages i ⟨0, true, 100 + i⟩, X.idle ++ [i]⟩, 0) := by
      unfold pDrop
      rw [if_pos ht, h1, if_neg (by omega), if_pos ha.2.1, ha.2.1, ha.2.2]
      rfl
    rw [e] at hI hL ⊢
    refine ⟨⟨hI, hL, fun j j0 j1 => ?_⟩, .inl ⟨rfl, rfl⟩⟩
    show (pg (pset X.pages i ⟨0, true, 100 + i⟩) j).f0 ≤ 1 ∧ (pg (pset X.pages i ⟨0, true, 100 + i⟩) j).f1 = true ∧ (pg (pset X.pages i ⟨0, true, 100 + i⟩) j).f2 = 100 + j
    by_cases ej : j = i
    · subst ej
      rw [pg_pset _ _ _ j0 (by rw [h.len]; exact j1)]
      exact ⟨by show (0 : Int) ≤ 1; omega, rfl, rfl⟩
    · rw [pg_other _ _ _ _ hr.1 j0 ej]
      exact h.all j j0 j1
  · have e : pDrop X i = (X, 8) := by unfold pDrop; rw [if_neg ht]
    rw [e]
    exact ⟨h, .inr ⟨rfl, rfl⟩⟩
/-- A page that nobody needs is held and dropped again: it stands last. -/
theorem Sealed.again {n : Nat} {X : PX} (h : Sealed n X) (i : Int) (hm : i ∈ X.idle) : (pHold X i).2 = 0 ∧ (pDrop (pHold X i).1 i).2 = 0 ∧ Sealed n (pDrop (pHold X i).1 i).1 ∧ (pDrop (pHold X i).1 i).1.idle = X.idle.erase i ++ [i] ∧ Inv (pHold X i).1 := by
  obtain ⟨a, b, c⟩ := (h.inv.mem i).1 hm
  rw [h.len] at b
  have ht := (h.there i).2 ⟨a, b⟩
  have h0 := (idp_iff.1 c).1
  have ha := h.all i a b
  have e : pHold X i = (⟨pset X.pages i ⟨1, true, 100 + i⟩, X.idle.erase i⟩, 0) := by
    unfold pHold
    rw [if_pos ht, h0, if_neg (by omega), if_pos rfl, erase_idle i X.idle hm, ha.2.1, ha.2.2]
    rfl
  have hI := inv_hold h.inv i
  have hS : Sealed n (pHold X i).1 := by
    refine ⟨hI, (len_hold X i).trans h.len, fun j j0 j1 => ?_⟩
    rw [e]
    show (pg (pset X.pages i ⟨1, true, 100 + i⟩) j).f0 ≤ 1 ∧ (pg (pset X.pages i ⟨1, true, 100 + i⟩) j).f1 = true ∧ (pg (pset X.pages i ⟨1, true, 100 + i⟩) j).f2 = 100 + j
    by_cases ej : j = i
    · subst ej
      rw [pg_pset _ _ _ j0 (by rw [h.len]; exact j1)]
      exact ⟨by show (1 : Int) ≤ 1; omega, rfl, rfl⟩
    · rw [pg_other _ _ _ _ a j0 ej]
      exact h.all j j0 j1
  obtain ⟨d1, d2⟩ := hS.drop i
  have hni : (pDrop (pHold X i).1 i).2 = 0 := by
    unfold pDrop
    rw [if_pos ⟨(hS.there i).2 ⟨a, b⟩, by rw [e]; show ¬ (pg (pset X.pages i ⟨1, true, 100 + i⟩) i).f0 = 0; rw [pg_pset _ _ _ a (by rw [h.len]; exact b)]; show ¬ (1 : Int) = 0; omega⟩]
  have hid : (pHold X i).1.idle = X.idle.erase i := by rw [e]
  refine ⟨by rw [e], hni, d1, ?_, hI⟩
  rcases d2 with ⟨_, d2⟩ | ⟨d2, _⟩
  · rw [d2, hid]
  · rw [hni] at d2; cases d2
/-- The pages that nobody needs, in their order. -/
structure Waits (n : Nat) (X : PX) : Prop where
  inv : Inv X
  len : X.pages.length = n
  none : cfre X.pages = 0
  key : ∀ i ∈ X.idle, (pg X.pages i).f2 = 100 + i
theorem Sealed.waits {n : Nat} {X : PX} (h : Sealed n X) : Waits n X :=
  ⟨h.inv, h.len, h.cfre, fun i hi => by
    obtain ⟨a, b, _⟩ := (h.inv.mem i).1 hi
    rw [h.len] at b
    exact (h.all i a b).2.2⟩
theorem Waits.take {n : Nat} {X : PX} (h : Waits n X) {i : Int} {r : List Int} (hr : X.idle = i :: r) : (pTake X).2 = (i, 100 + i, true, 0) ∧ Waits n (pTake X).1 ∧ (pTake X).1.idle = r := by
  obtain ⟨t1, t2, t3, t4⟩ := take_idle h.inv h.none hr
  have hm : i ∈ X.idle := by rw [hr]; exact List.mem_cons_self
  obtain ⟨a, b, c⟩ := (h.inv.mem i).1 hm
  refine ⟨by rw [t1, h.key i hm], ⟨inv_take h.inv, t4.trans h.len, t2, fun j hj => ?_⟩, t3⟩
  have hn := h.inv.nodup
  rw [hr, List.nodup_cons] at hn
  rw [t3] at hj
  have hne : j ≠ i := fun e => hn.1 (e ▸ hj)
  have hjm : j ∈ X.idle := by rw [hr]; exact List.mem_cons_of_mem _ hj
  obtain ⟨ja, _, _⟩ := (h.inv.mem j).1 hjm
  have hp : (pTake X).1.pages = pset X.pages i ⟨1, false, 0⟩ := by
    unfold pTake
    rw [if_neg (fun hh => by
      obtain ⟨b', c'⟩ := fidx_page hh
      have := List.countP_pos_iff.2 ⟨_, pg_mem hh b', c'⟩
      have hz := h.none
      unfold OPool.cfre at hz
      omega), hr]
  rw [hp, pg_other _ _ _ _ a ja hne, h.key j hjm]
theorem Waits.last {n : Nat} {X : PX} (h : Waits n X) (hr : X.idle = []) : pTake X = (X, (0, 0, false, 10)) := take_none h.none hr
/-- Is a page shown as not needed, and held? Then it is one of the row. -/
theorem Sealed.refs {n : Nat} {X : PX} (h : Sealed n X) (i : Int) : (refsV X.pages i = 0 ∧ i ∉ X.idle ∧ pHold X i = (X, 8)) ∨ (refsV X.pages i = 0 ∧ i ∈ X.idle) ∨ refsV X.pages i = 1 := by
  by_cases ht : OPool.there X.pages i = true
  · have hr := (h.there i).1 ht
    have ha := h.all i hr.1 hr.2
    have hlow := (h.inv.page ht).2.2.1
    by_cases h0 : (pg X.pages i).f0 = 0
    · exact .inr (.inl ⟨by rw [refs_yes ht, h0], h.inv.hold_in i ht h0⟩)
    · exact .inr (.inr (by rw [refs_yes ht]; omega))
  · have ht' : OPool.there X.pages i = false := by simpa using ht
    refine .inl ⟨refs_no ht', fun hm => ?_, by unfold pHold; rw [if_neg ht]⟩
    obtain ⟨a, b, _⟩ := (h.inv.mem i).1 hm
    rw [h.len] at b
    exact ht ((h.there i).2 ⟨a, b⟩)
end Go.Proofs.Ytmbbaalpeomnlaa.OInv
