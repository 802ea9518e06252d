/- The document's pool, on plain lists, does what the program's does. -/
import Derived.Test.YtmbbaalpeomnlaaGQx2
import Derived.Test.YtmbbaalpeomnlaaGQx3
import Derived.Test.YtmbbaalpeomnlaaGQx4
import Derived.Test.YtmbbaalpeomnlaaGQx5
import Derived.Test.YtmbbaalpeomnlaaGQx6
import Derived.Test.YtmbbaalpeomnlaaGQx7
import Derived.Test.YtmbbaalpeomnlaaGQx9
import Derived.Test.YtmbbaalpeomnlaaOTaken
set_option linter.unusedVariables false
set_option linter.unusedSimpArgs false
namespace Go.Proofs.Ytmbbaalpeomnlaa.UPoolR
open Go.RowKit Go.Proofs.YtmbbaalpeomnlaaW.PrintWords Go.Proofs.YtmbbaalpeomnlaaW.PrintLast Go.Proofs.YtmbbaalpeomnlaaW.PrintMore Go.Proofs.Ytmbbaalpeomnlaa.GQ Go.Proofs.Ytmbbaalpeomnlaa.OPool Go.Proofs.Ytmbbaalpeomnlaa.OInv
abbrev RG := S70
def toR (p : PG) : RG := ⟨p.f0, p.f1, p.f2⟩
def rows (ps : List PG) : List RG := ps.map toR
theorem rows_len (ps : List PG) : (rows ps).length = ps.length := List.length_map ..
theorem rdR (ps : List PG) (i : Int) : rd_T70 (rows ps) i = toR (pg ps i) := by
  unfold rd_T70 pg rows
  rw [List.getD_eq_getElem?_getD, List.getD_eq_getElem?_getD, List.getElem?_map]
  cases ps[i.toNat]? <;> rfl
theorem set_rows (ps : List PG) (i : Int) (p : PG) : (rows ps).set i.toNat (toR p) = rows (pset ps i p) := by
  unfold rows pset
  rw [List.map_set]
theorem pg_in {ps : List PG} {i : Int} (h0 : 0 ≤ i) (h1 : i < ps.length) : pg ps i ∈ ps := pg_mem h0 h1
def zeroes (ps : List PG) : Prop := ∀ p ∈ ps, p.f1 = false → p.f2 = 0
theorem fre_of {p : PG} (hz : p.f1 = false → p.f2 = 0) : fre p = (p.f0 == 0 && !p.f1) := by
  unfold fre
  cases h : p.f1
  · rw [hz h]; simp
  · simp
theorem free_eq {ps : List PG} (hz : zeroes ps) (l : List Int) (i : Int) : tillerref12_Free.f (rows ps) l i = some (decide (0 ≤ i) && (decide (i < (ps.length : Int)) && fre (pg ps i))) := by
  unfold tillerref12_Free.f
  rw [rows_len, rdR]
  by_cases h0 : i ≥ 0
  · rw [if_pos h0]
    by_cases h1 : i < (ps.length : Int)
    · rw [if_pos h1, if_pos h0, fre_of (hz _ (pg_in h0 h1)), decide_eq_true (show 0 ≤ i from h0), decide_eq_true h1]
      show (if (pg ps i).f0 = 0 then some (!(pg ps i).f1) else some false) = _
      by_cases h2 : (pg ps i).f0 = 0
      · rw [if_pos h2, h2]; simp
      · rw [if_neg h2]; simp [h2]
    · rw [if_neg h1, decide_eq_false h1]; simp
  · rw [if_neg h0, decide_eq_false h0]; simp
theorem there_eq {ps : List PG} (hz : zeroes ps) (l : List Int) (i : Int) : tillerref12_There.f (rows ps) l i = some (there ps i) := by
  unfold tillerref12_There.f there
  rw [rows_len]
  by_cases h0 : i ≥ 0
  · rw [if_pos h0]
    by_cases h1 : i < (ps.length : Int)
    · rw [if_pos h1, free_eq hz, Option.bind_some, decide_eq_true (show 0 ≤ i from h0), decide_eq_true h1]; simp
    · rw [if_neg h1, decide_eq_false h1]; simp
  · rw [if_neg h0, decide_eq_false (show ¬ 0 ≤ i from h0)]; simp
theorem with_eq {ps : List PG} (l : List Int) {i : Int} (h0 : 0 ≤ i) (h1 : i < (ps.length : Int)) (hl : ps.length ≤ 64) (a : Int) (b : Bool) (c : Int) : tillerref12_with.f (rows ps) l i a b c = some (rows (pset ps i ⟨a, b, c⟩), l) := by
  unfold tillerref12_with.f
  rw [Option.bind_some, rows_len, if_pos (by simp; omega), Option.bind_some, if_pos h0, List.nil_append, rows_len, if_pos h1, ← set_rows]
  rfl
theorem less_loop (i : Int) (xs : List Int) (pp : List RG) (p0 : List Int) (hx : xs.length ≤ 1000) : ∀ (d j k : Nat) (acc : List Int), xs.length - j = d → j ≤ xs.length → d < k → acc.length ≤ j →
    tillerref12_less.l0 k i acc xs (xs.length : Int) (j : Int) pp p0 = some (pp, acc ++ (xs.drop j).filter (fun x => !decide (x = i))) := by
  intro d
  induction d with
  | zero =>
    intro j k acc hd hj hk ha
    obtain ⟨k, rfl⟩ : ∃ m, k = m + 1 := ⟨k - 1, by omega⟩
    simp only [tillerref12_less.l0]
    rw [if_neg (by omega), List.drop_eq_nil_of_le (by omega)]
    simp
  | succ d ih =>
    intro j k acc hd hj hk ha
    obtain ⟨k, rfl⟩ : ∃ m, k = m + 1 := ⟨k - 1, by omega⟩
    have hr : rd xs (j : Int) = xs[j]'(by omega) := by
      unfold rd
      rw [Int.toNat_natCast, List.getD_eq_getElem?_getD, List.getElem?_eq_getElem (by omega)]; rfl
    simp only [tillerref12_less.l0]
    rw [if_pos (by omega), if_pos (by omega), if_pos (by omega), wr64 (by omega) (by omega), ← Int.natCast_one, ← Int.natCast_add, hr, List.drop_eq_getElem_cons (show j < xs.length by omega), List.filter_cons]
    by_cases e : xs[j]'(by omega) = i
    · rw [if_pos e, if_neg (by simp [e]), ih (j + 1) k acc (by omega) (by omega) (by omega) (by omega)]
    · rw [if_neg e, if_pos (by omega), if_pos (by simp [e]), ih (j + 1) k (acc ++ [xs[j]'(by omega)]) (by omega) (by omega) (by omega) (by simp; omega)]
      simp
theorem less_eq (pp : List RG) (xs : List Int) (i : Int) (hx : xs.length ≤ 1000) (k : Nat) (hk : xs.length < k) : tillerref12_less.f k pp xs i = some (pp, xs.filter (fun x => !decide (x = i))) := by
  unfold tillerref12_less.f
  have := less_loop i xs pp xs hx xs.length 0 k [] (by omega) (by omega) (by omega) (by simp)
  rw [List.nil_append, List.drop_zero] at this
  exact this
theorem filter_erase {l : List Int} (hn : l.Nodup) (i : Int) : l.filter (fun x => !decide (x = i)) = l.erase i := by
  rw [List.Nodup.erase_eq_filter hn]
  apply List.filter_congr
  intro x _
  by_cases h : x = i <;> simp [h]
theorem find_loop (key : Int) (ps : List PG) (hl : ps.length ≤ 64) : ∀ (d i k : Nat), ps.length - i = d → i ≤ ps.length → d < k → tillerref12_Find.l0 k key (rows ps) ((rows ps).length : Int) (i : Int) = some (kidx key (ps.drop i) i) := by
  intro d
  induction d with
  | zero =>
    intro i k hd hi hk
    obtain ⟨k, rfl⟩ : ∃ m, k = m + 1 := ⟨k - 1, by omega⟩
    simp only [tillerref12_Find.l0]
    rw [rows_len, if_neg (by omega), List.drop_eq_nil_of_le (by omega)]
    rfl
  | succ d ih =>
    intro i k hd hi hk
    obtain ⟨k, rfl⟩ : ∃ m, k = m + 1 := ⟨k - 1, by omega⟩
    have next := ih (i + 1) k (by omega) (by omega) (by omega)
    rw [rows_len] at next
    simp only [tillerref12_Find.l0]
    rw [rows_len, if_pos (by omega), if_pos (by omega), if_pos (by omega), rdR, wr64 (by omega) (by omega), ← Int.natCast_one, ← Int.natCast_add, next, kidx_step key ps i (by omega)]
    show (if (pg ps (i : Int)).f1 = true then if (pg ps (i : Int)).f2 = key then some (i : Int) else _ else _) = _
    by_cases h1 : (pg ps (i : Int)).f1 = true
    · rw [if_pos h1]
      by_cases h2 : (pg ps (i : Int)).f2 = key
      · rw [if_pos h2, if_pos ⟨h1, h2⟩]
      · rw [if_neg h2, if_neg (fun h => h2 h.2)]
    · rw [if_neg h1, if_neg (fun h => h1 h.1)]
theorem find_eq (key : Int) (ps : List PG) (l : List Int) (hl : ps.length ≤ 64) (k : Nat) (hk : ps.length < k) : tillerref12_Find.f k (rows ps) l key = some (kidx key ps 0) := by
  unfold tillerref12_Find.f
  exact find_loop key ps hl ps.length 0 k (by omega) (by omega) (by omega)
theorem zeroes_of {X : PX} (h : Inv X) : zeroes X.pages := h.zero
theorem fidx_step (ps : List PG) (i : Nat) (h : i < ps.length) : fidx (ps.drop i) i = if fre (pg ps i) = true then (i : Int) else fidx (ps.drop (i + 1)) (i + 1) := by
  rw [List.drop_eq_getElem_cons h, pg_at ps i h]
  rfl
/-- What a pool answers, as the document's tuple. -/
def five (r : PX × (Int × Int × Bool × Int)) : List RG × List Int × Int × Int × Bool × Int := (rows r.1.pages, r.1.idle, r.2.1, r.2.2.1, r.2.2.2.1, r.2.2.2.2)
def three (r : PX × Int) : List RG × List Int × Int := (rows r.1.pages, r.1.idle, r.2)
theorem idle_room {X : PX} (h : Inv X) : X.idle.length ≤ 64 := by have := h.counts; have := h.len; omega
theorem take_eq {X : PX} (h : Inv X) (k : Nat) (hk : 200 ≤ k) : tillerref12_Take.f k (rows X.pages) X.idle = some (five (pTake X)) := by
  have hl := h.len
  have hz := zeroes_of h
  have hidle := idle_room h
  have run : ∀ (d i k : Nat), X.pages.length - i = d → i ≤ X.pages.length → d + 100 ≤ k → fidx (X.pages.drop i) i = fidx X.pages 0 → tillerref12_Take.l0 k (X.pages.length : Int) (i : Int) (rows X.pages) X.idle = some (five (pTake X)) := by
    intro d
    induction d with
    | zero =>
      intro i k hd hi hk he
      obtain ⟨k, rfl⟩ : ∃ m, k = m + 1 := ⟨k - 1, by omega⟩
      rw [List.drop_eq_nil_of_le (by omega)] at he
      have hf : fidx X.pages 0 = -1 := he.symm
      simp only [tillerref12_Take.l0]
      rw [if_neg (show ¬ (i : Int) < (X.pages.length : Int) by omega)]
      cases hI : X.idle with
      | nil =>
        have hp : pTake X = (X, (0, 0, false, 10)) := by unfold pTake; rw [if_neg (by omega), hI]
        rw [hp, if_pos (by simp)]; unfold five; rw [hI]
      | cons x r =>
        have hx := (h.mem x).1 (by rw [hI]; exact List.mem_cons_self)
        have hn := h.nodup
        rw [hI] at hn hidle
        have hr : rd (x :: r) 0 = x := rfl
        have hp : pTake X = (⟨pset X.pages x ⟨1, false, 0⟩, r⟩, (x, (pg X.pages x).f2, true, 0)) := by unfold pTake; rw [if_neg (by omega), hI]
        rw [hp, if_neg (by simp only [List.length_cons]; omega), if_pos (by simp only [List.length_cons]; omega), hr, if_pos hx.1, rows_len, if_pos hx.2.1, less_eq _ _ _ (by omega) k (by omega), Option.bind_some, filter_erase hn, List.erase_cons_head]
        simp only []
        rw [with_eq _ hx.1 hx.2.1 hl, Option.bind_some, rdR]
        rfl
    | succ d ih =>
      intro i k hd hi hk he
      obtain ⟨k, rfl⟩ : ∃ m, k = m + 1 := ⟨k - 1, by omega⟩
      rw [fidx_step X.pages i (by omega)] at he
      simp only [tillerref12_Take.l0]
      rw [if_pos (by omega), free_eq hz, Option.bind_some, decide_eq_true (by omega), decide_eq_true (show (i : Int) < (X.pages.length : Int) by omega), Bool.true_and, Bool.true_and]
      by_cases e : fre (pg X.pages (i : Int)) = true
      · rw [if_pos e] at he ⊢
        rw [with_eq _ (by omega) (by omega) hl, Option.bind_some]
        unfold pTake
        rw [if_pos (by omega), ← he]
        rfl
      · rw [if_neg e] at he ⊢
        rw [wr64 (by omega) (by omega), ← Int.natCast_one, ← Int.natCast_add]
        exact ih (i + 1) k (by omega) (by omega) (by omega) he
  unfold tillerref12_Take.f
  rw [rows_len]
  exact run X.pages.length 0 k (by omega) (by omega) (by omega) rfl
theorem hold_eq {X : PX} (h : Inv X) (i : Int) (k : Nat) (hk : 200 ≤ k) : tillerref12_Hold.f k (rows X.pages) X.idle i = some (three (pHold X i)) := by
  have hl := h.len
  unfold tillerref12_Hold.f pHold
  rw [there_eq (zeroes_of h), Option.bind_some]
  by_cases ht : there X.pages i = true
  · obtain ⟨h0, h1, h2, h3⟩ := h.page ht
    have hidle := idle_room h
    rw [if_pos ht, if_pos ht, if_pos h0, rows_len, if_pos h1, rdR]
    show (if (pg X.pages i).f0 ≥ 1000 then _ else _) = _
    by_cases hb : (pg X.pages i).f0 ≥ 1000
    · rw [if_pos hb, if_pos hb]; rfl
    · rw [if_neg hb, if_neg hb, less_eq _ _ _ (by omega) k (by omega), Option.bind_some, filter_erase h.nodup]
      simp only []
      rw [show (toR (pg X.pages i)).f0 = (pg X.pages i).f0 from rfl, wr64 (by omega) (by omega), with_eq _ h0 h1 hl, Option.bind_some]
      unfold three
      simp only []
      by_cases hc : (pg X.pages i).f0 = 0
      · rw [if_pos hc, erase_idle i X.idle (h.hold_in i ht hc)]; rfl
      · rw [if_neg hc, List.erase_of_not_mem (fun hm => hc ((idp_iff.1 ((h.mem i).1 hm).2.2).1))]; rfl
  · rw [if_neg ht, if_neg ht]; rfl
theorem seal_eq {X : PX} (h : Inv X) (i key : Int) (k : Nat) (hk : 200 ≤ k) : tillerref12_Seal.f k (rows X.pages) X.idle i key = some (three (pSeal X i key)) := by
  have hl := h.len
  unfold tillerref12_Seal.f pSeal
  rw [there_eq (zeroes_of h), Option.bind_some]
  by_cases ht : there X.pages i = true
  · obtain ⟨h0, h1, h2, h3⟩ := h.page ht
    rw [if_pos ht, if_pos ht, if_pos h0, rows_len, if_pos h1, rdR]
    show (if (pg X.pages i).f1 = true then _ else _) = _
    by_cases hs : (pg X.pages i).f1 = true
    · rw [if_pos hs, if_pos (.inr hs)]; rfl
    · rw [if_neg hs, find_eq key X.pages X.idle hl k (by omega), Option.bind_some]
      have hfb : findB key X.pages = true ↔ kidx key X.pages 0 ≥ 0 := by
        unfold findB
        simp
      by_cases hf : kidx key X.pages 0 ≥ 0
      · rw [if_pos hf, if_pos (.inl (hfb.2 hf))]; rfl
      · rw [if_neg hf, if_neg (fun hh => hh.elim (fun q => hf (hfb.1 q)) hs), with_eq _ h0 h1 hl, Option.bind_some]; rfl
  · rw [if_neg ht, if_neg ht]; rfl
theorem forget_eq {X : PX} (h : Inv X) (i : Int) (k : Nat) (hk : 400 ≤ k) : tillerref12_Forget.f k (rows X.pages) X.idle i = some (three (pForget X i)) := by
  have hl := h.len
  have hidle := idle_room h
  have run : ∀ (d j k : Nat), X.idle.length - j = d → j ≤ X.idle.length → d + 100 ≤ k → iidx i (X.idle.drop j) j = iidx i X.idle 0 → tillerref12_Forget.l0 k i X.idle (X.idle.length : Int) (j : Int) (rows X.pages) X.idle = some (three (pForget X i)) := by
    intro d
    induction d with
    | zero =>
      intro j k hd hj hk he
      obtain ⟨k, rfl⟩ : ∃ m, k = m + 1 := ⟨k - 1, by omega⟩
      rw [List.drop_eq_nil_of_le (by omega)] at he
      have hf : iidx i X.idle 0 = -1 := he.symm
      simp only [tillerref12_Forget.l0]
      rw [if_neg (by omega)]
      unfold pForget
      rw [if_pos (by omega)]; rfl
    | succ d ih =>
      intro j k hd hj hk he
      obtain ⟨k, rfl⟩ : ∃ m, k = m + 1 := ⟨k - 1, by omega⟩
      have hr : rd X.idle (j : Int) = X.idle[j]'(by omega) := by
        unfold rd
        rw [Int.toNat_natCast, List.getD_eq_getElem?_getD, List.getElem?_eq_getElem (by omega)]; rfl
      rw [List.drop_eq_getElem_cons (show j < X.idle.length by omega)] at he
      simp only [iidx] at he
      simp only [tillerref12_Forget.l0]
      rw [if_pos (by omega), if_pos (by omega), if_pos (by omega), hr]
      by_cases e : X.idle[j]'(by omega) = i
      · rw [if_pos e.symm] at he
        have hin : i ∈ X.idle := by rw [← e]; exact List.getElem_mem _
        have hx := (h.mem i).1 hin
        rw [if_pos e, less_eq _ _ _ (by omega) k (by omega), Option.bind_some, filter_erase h.nodup]
        simp only []
        rw [with_eq _ hx.1 hx.2.1 hl, Option.bind_some]
        unfold pForget
        rw [if_neg (by omega), erase_idle i X.idle hin]; rfl
      · rw [if_neg (fun q => e q.symm)] at he
        rw [if_neg e, wr64 (by omega) (by omega), ← Int.natCast_one, ← Int.natCast_add]
        exact ih (j + 1) k (by omega) (by omega) (by omega) he
  unfold tillerref12_Forget.f
  exact run X.idle.length 0 k (by omega) (by omega) (by omega) rfl
/-- Pages that somebody needs. -/
def need (p : PG) : Bool := decide (p.f0 > 0)
def cneed (ps : List PG) : Nat := ps.countP need
theorem cneed_step (ps : List PG) (i : Nat) (h : i < ps.length) : cneed (ps.take (i + 1)) = cneed (ps.take i) + if need (pg ps i) then 1 else 0 := by
  unfold cneed
  rw [List.take_succ_eq_append_getElem h, pg_at ps i h, List.countP_append, List.countP_singleton]
theorem cneed_le (ps : List PG) : cneed ps ≤ ps.length := List.countP_le_length
theorem counts_eq {X : PX} (h : Inv X) (k : Nat) (hk : 200 ≤ k) : tillerref12_Counts.f k (rows X.pages) X.idle = some ((cfre X.pages : Int), (cneed X.pages : Int), (X.idle.length : Int)) := by
  have hl := h.len
  have hz := zeroes_of h
  have run : ∀ (d i k : Nat), X.pages.length - i = d → i ≤ X.pages.length → d < k → tillerref12_Counts.l0 k (cfre (X.pages.take i) : Int) (cneed (X.pages.take i) : Int) (rows X.pages) (X.pages.length : Int) (i : Int) (rows X.pages) X.idle = some ((cfre X.pages : Int), (cneed X.pages : Int), (X.idle.length : Int)) := by
    intro d
    induction d with
    | zero =>
      intro i k hd hi hk
      obtain ⟨k, rfl⟩ : ∃ m, k = m + 1 := ⟨k - 1, by omega⟩
      simp only [tillerref12_Counts.l0]
      rw [if_neg (by omega), List.take_of_length_le (by omega)]
    | succ d ih =>
      intro i k hd hi hk
      obtain ⟨k, rfl⟩ : ∃ m, k = m + 1 := ⟨k - 1, by omega⟩
      have next := ih (i + 1) k (by omega) (by omega) (by omega)
      have s1 := cfre_step X.pages i (by omega)
      have s2 := cneed_step X.pages i (by omega)
      have b1 := cfre_le (X.pages.take i)
      have b2 := cneed_le (X.pages.take i)
      rw [List.length_take] at b1 b2
      rw [s1, s2] at next
      simp only [tillerref12_Counts.l0]
      rw [if_pos (by omega), if_pos (by omega), rows_len, if_pos (by omega), free_eq hz, Option.bind_some, decide_eq_true (by omega), decide_eq_true (show (i : Int) < (X.pages.length : Int) by omega), Bool.true_and, Bool.true_and, rdR, wr64 (x := (cfre (X.pages.take i) : Int) + 1) (by omega) (by omega), wr64 (x := (cneed (X.pages.take i) : Int) + 1) (by omega) (by omega), wr64 (x := (i : Int) + 1) (by omega) (by omega)]
      show (if fre (pg X.pages (i : Int)) = true then (if (pg X.pages (i : Int)).f0 > 0 then _ else _) else (if (pg X.pages (i : Int)).f0 > 0 then _ else _)) = _
      have hn : need (pg X.pages (i : Int)) = true ↔ (pg X.pages (i : Int)).f0 > 0 := by unfold need; simp
      by_cases e : fre (pg X.pages (i : Int)) = true
      · by_cases e2 : (pg X.pages (i : Int)).f0 > 0
        · rw [if_pos e, if_pos e2]
          rw [if_pos e, if_pos (hn.2 e2)] at next
          exact next
        · rw [if_pos e, if_neg e2]
          rw [if_pos e, if_neg (fun q => e2 (hn.1 q))] at next
          exact next
      · by_cases e2 : (pg X.pages (i : Int)).f0 > 0
        · rw [if_neg e, if_pos e2]
          rw [if_neg e, if_pos (hn.2 e2)] at next
          exact next
        · rw [if_neg e, if_neg e2]
          rw [if_neg e, if_neg (fun q => e2 (hn.1 q))] at next
          exact next
  unfold tillerref12_Counts.f
  rw [rows_len]
  exact run X.pages.length 0 k (by omega) (by omega) (by omega)
theorem three_counts : ∀ ps : List PG, (∀ p ∈ ps, 0 ≤ p.f0 ∧ p.f0 ≤ 1000) → zeroes ps → cfre ps + cneed ps + ps.countP idp = ps.length := by
  intro ps
  induction ps with
  | nil => intro _ _; rfl
  | cons p ps ih =>
    intro h1 h2
    have ih' := ih (fun q hq => h1 q (List.mem_cons_of_mem _ hq)) (fun q hq => h2 q (List.mem_cons_of_mem _ hq))
    have hp := h1 p List.mem_cons_self
    have hf := fre_of (h2 p List.mem_cons_self)
    unfold cfre cneed at ih' ⊢
    rw [List.countP_cons, List.countP_cons, List.countP_cons, List.length_cons, hf]
    rw [show need p = decide (p.f0 > 0) from rfl, show idp p = (p.f0 == 0 && p.f1) from rfl]
    by_cases e : p.f0 = 0
    · cases p.f1 <;> simp [e] <;> omega
    · have : p.f0 > 0 := by omega
      cases p.f1 <;> simp [e, this] <;> omega
theorem needed_eq {X : PX} (h : Inv X) : (X.pages.length : Int) - (cfre X.pages : Int) - (X.idle.length : Int) = (cneed X.pages : Int) := by
  have := three_counts X.pages h.low (zeroes_of h)
  rw [h.count]
  omega
/-- What is shown of a page. -/
theorem refs_eq {X : PX} (h : Inv X) (i : Int) : refsV X.pages i = if 0 ≤ i ∧ i < (X.pages.length : Int) then (pg X.pages i).f0 else 0 := by
  unfold refsV there
  by_cases h0 : 0 ≤ i ∧ i < (X.pages.length : Int)
  · rw [if_pos h0, decide_eq_true h0.1, decide_eq_true h0.2]
    by_cases hf : fre (pg X.pages i) = true
    · rw [hf]
      have : (pg X.pages i).f0 = 0 := by
        unfold fre at hf
        simp at hf
        exact hf.1
      simp [this]
    · rw [Bool.eq_false_iff.2 hf]; rfl
  · rw [if_neg h0]
    by_cases h1 : 0 ≤ i
    · rw [decide_eq_true h1, decide_eq_false (fun q => h0 ⟨h1, q⟩)]; rfl
    · rw [decide_eq_false h1]; rfl
theorem open_eq {X : PX} (h : Inv X) (i : Int) : openV X.pages i = if 0 ≤ i ∧ i < (X.pages.length : Int) then (decide ((pg X.pages i).f0 > 0) && !(pg X.pages i).f1) else false := by
  unfold openV there
  by_cases h0 : 0 ≤ i ∧ i < (X.pages.length : Int)
  · have hm := pg_in h0.1 h0.2
    rw [if_pos h0, decide_eq_true h0.1, decide_eq_true h0.2, fre_of (h.zero _ hm)]
    have hp := h.low _ hm
    by_cases e : (pg X.pages i).f0 = 0
    · rw [e]
      cases (pg X.pages i).f1 <;> rfl
    · rw [decide_eq_true (by omega)]
      have : ((pg X.pages i).f0 == 0) = false := by simpa using e
      rw [this]
      cases (pg X.pages i).f1 <;> rfl
  · rw [if_neg h0]
    by_cases h1 : 0 ≤ i
    · rw [decide_eq_true h1, decide_eq_false (fun q => h0 ⟨h1, q⟩)]; rfl
    · rw [decide_eq_false h1]; rfl
end Go.Proofs.Ytmbbaalpeomnlaa.UPoolR
