/- What a take does to the counts. -/
import Derived.Test.YtmbbaalpeomnlaaOInv
set_option linter.unusedVariables false
set_option linter.unusedSimpArgs false
namespace Go.Proofs.Ytmbbaalpeomnlaa.OInv
open Go.RowKit Go.Proofs.YtmbbaalpeomnlaaW.PrintWords Go.Proofs.YtmbbaalpeomnlaaW.PrintLast Go.Proofs.YtmbbaalpeomnlaaW.PrintMore Go.Proofs.Ytmbbaalpeomnlaa.GQ Go.Proofs.Ytmbbaalpeomnlaa.OPool
theorem fidx_some : ∀ (l : List PG) (k : Nat), 0 < cfre l → 0 ≤ fidx l k := by
  intro l
  induction l with
  | nil => intro k h; cases h
  | cons p l ih =>
    intro k h
    simp only [fidx]
    split
    · omega
    · rename_i e
      refine ih (k + 1) ?_
      unfold cfre at h ⊢
      rw [List.countP_cons, if_neg e] at h
      exact h
theorem take_free {X : PX} (h : 0 < cfre X.pages) : (pTake X).2 = (fidx X.pages 0, 0, false, 0) ∧ cfre (pTake X).1.pages + 1 = cfre X.pages ∧ (pTake X).1.idle = X.idle ∧ (pTake X).1.pages.length = X.pages.length := by
  have hf := fidx_some X.pages 0 h
  obtain ⟨b, c⟩ := fidx_page hf
  have hp : fre (⟨1, false, 0⟩ : PG) = false := by decide
  have hc := cp_pset fre X.pages _ ⟨1, false, 0⟩ hf b
  rw [c, hp, if_pos rfl, if_neg (by decide)] at hc
  unfold pTake
  rw [if_pos hf]
  exact ⟨rfl, hc, rfl, pset_len _ _ _⟩
theorem take_idle {X : PX} (hI : Inv X) (h : cfre X.pages = 0) {i : Int} {r : List Int} (hr : X.idle = i :: r) : (pTake X).2 = (i, (pg X.pages i).f2, true, 0) ∧ cfre (pTake X).1.pages = 0 ∧ (pTake X).1.idle = r ∧ (pTake X).1.pages.length = X.pages.length := by
  have hf : ¬ 0 ≤ fidx X.pages 0 := fun hh => by
    obtain ⟨b, c⟩ := fidx_page hh
    have := List.countP_pos_iff.2 ⟨_, pg_mem hh b, c⟩
    unfold cfre at h
    omega
  obtain ⟨a, b, c⟩ := (hI.mem i).1 (by rw [hr]; exact List.mem_cons_self)
  have hn : fre (pg X.pages i) = false := fre_1 (idp_iff.1 c).2
  have hp : fre (⟨1, false, 0⟩ : PG) = false := by decide
  have hc := cp_pset fre X.pages i ⟨1, false, 0⟩ a b
  rw [hn, hp, if_neg (by decide)] at hc
  unfold pTake
  rw [if_neg hf, hr]
  refine ⟨rfl, ?_, rfl, pset_len _ _ _⟩
  unfold cfre at h ⊢
  show (pset X.pages i ⟨1, false, 0⟩).countP fre = 0
  omega
theorem take_none {X : PX} (h : cfre X.pages = 0) (hr : X.idle = []) : pTake X = (X, (0, 0, false, 10)) := by
  have hf : ¬ 0 ≤ fidx X.pages 0 := fun hh => by
    obtain ⟨b, c⟩ := fidx_page hh
    have := List.countP_pos_iff.2 ⟨_, pg_mem hh b, c⟩
    unfold cfre at h
    omega
  unfold pTake
  rw [if_neg hf, hr]
theorem kidx_page (key : Int) : ∀ (l : List PG) (k : Nat), 0 ≤ kidx key l k → (k : Int) ≤ kidx key l k ∧ kidx key l k < k + l.length ∧ (l.getD (kidx key l k - k).toNat z55).f1 = true := by
  intro l
  induction l with
  | nil => intro k h; simp [kidx] at h
  | cons p l ih =>
    intro k h
    simp only [kidx] at h ⊢
    split
    · rename_i e
      refine ⟨by omega, by simp; omega, ?_⟩
      rw [show ((k : Int) - (k : Int)).toNat = 0 by omega]
      exact e.1
    · rename_i e
      rw [if_neg e] at h
      obtain ⟨a, b, c⟩ := ih (k + 1) h
      refine ⟨by omega, by simp; omega, ?_⟩
      rw [show (kidx key l (k + 1) - (k : Int)).toNat = (kidx key l (k + 1) - ((k + 1 : Nat) : Int)).toNat + 1 by omega, List.getD_cons_succ]
      exact c
/-- What is found lies in the pool, and isn't open. -/
theorem find_closed {ps : List PG} {key : Int} (h : findB key ps = true) : 0 ≤ findI key ps ∧ findI key ps < ps.length ∧ openV ps (findI key ps) = false := by
  unfold findB at h
  have h0 : ¬ kidx key ps 0 < 0 := by
    intro hh
    rw [decide_eq_true hh] at h
    cases h
  have hI : findI key ps = kidx key ps 0 := if_neg h0
  obtain ⟨a, b, c⟩ := kidx_page key ps 0 (by omega)
  rw [show kidx key ps 0 - ((0 : Nat) : Int) = kidx key ps 0 by omega] at c
  rw [hI]
  refine ⟨by omega, by omega, ?_⟩
  have hp : (pg ps (kidx key ps 0)).f1 = true := c
  unfold openV
  rw [hp]
  simp
theorem find_zero {ps : List PG} {key : Int} (h : findB key ps = false) : findI key ps = 0 := by
  unfold findB at h
  have h0 : kidx key ps 0 < 0 := by
    apply Int.not_le.mp
    intro hh
    rw [decide_eq_false (by omega)] at h
    cases h
  exact if_pos h0
theorem len_hold (X : PX) (i : Int) : (pHold X i).1.pages.length = X.pages.length := by
  unfold pHold
  split
  · split
    · rfl
    · exact pset_len _ _ _
  · rfl
theorem len_seal (X : PX) (i key : Int) : (pSeal X i key).1.pages.length = X.pages.length := by
  unfold pSeal
  split
  · split
    · rfl
    · exact pset_len _ _ _
  · rfl
theorem len_drop (X : PX) (i : Int) : (pDrop X i).1.pages.length = X.pages.length := by
  unfold pDrop
  split
  · exact pset_len _ _ _
  · rfl
theorem len_forget (X : PX) (i : Int) : (pForget X i).1.pages.length = X.pages.length := by
  unfold pForget
  split
  · rfl
  · exact pset_len _ _ _
theorem len_take (X : PX) : (pTake X).1.pages.length = X.pages.length := by
  unfold pTake
  split
  · exact pset_len _ _ _
  · split
    · rfl
    · exact pset_len _ _ _
end Go.Proofs.Ytmbbaalpeomnlaa.OInv
