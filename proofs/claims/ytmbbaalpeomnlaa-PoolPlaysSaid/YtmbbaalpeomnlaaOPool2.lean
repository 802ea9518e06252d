/- The pool's methods that read, walked by hand. -/
import Derived.Test.YtmbbaalpeomnlaaOPool
import Derived.Test.YtmbbaalpeomnlaaODel
import Derived.OwnWalk
import Derived.BigQuiet
import Derived.Deep.QuietTactic
set_option linter.unusedVariables false
set_option linter.unusedSimpArgs false
namespace Go.Proofs.Ytmbbaalpeomnlaa.OPool
open Go.RowKit Go.Proofs.YtmbbaalpeomnlaaW.PrintWords Go.Proofs.YtmbbaalpeomnlaaW.PrintLast Go.Proofs.YtmbbaalpeomnlaaW.PrintMore Go.Proofs.Ytmbbaalpeomnlaa.GQ
theorem there_iff {ps : List PG} {i : Int} (h : there ps i = true) : 0 ≤ i ∧ i < ps.length ∧ fre (pg ps i) = false := by
  unfold there at h
  simpa only [Bool.and_eq_true, decide_eq_true_eq, Bool.not_eq_true'] using h
def refsV (ps : List PG) (i : Int) : Int := if there ps i then (pg ps i).f0 else 0
def openV (ps : List PG) (i : Int) : Bool := there ps i && !(pg ps i).f1
theorem refs_yes {ps : List PG} {i : Int} (h : there ps i = true) : refsV ps i = (pg ps i).f0 := if_pos h
theorem refs_no {ps : List PG} {i : Int} (h : there ps i = false) : refsV ps i = 0 := by unfold refsV; rw [h]; rfl
set_option maxHeartbeats 1000000 in
theorem refs_calls (g b : Nat) (vi : Value) (ps : List PG) (i : Int) (w : World) (h : Raw w g b vi ps) :
    Calls Try.prog 12 #[.pointer (some ⟨g, 0, none⟩), .int .i64 i] w fun e w' => e = .returned (.int .i64 (refsV ps i)) ∧ w = w' := by
  have H := Aside0.mk h
  cases ht : there ps i
  · rw [refs_no ht]
    have T := Aside0.mk ht
    clear h ht
    go_enter Try.func12, Try.ntmps12
    go_wp2_with (first | (go_at_call 22; refine (at_free g b vi ps i _ H.out T.out).mono ?_; rintro e w' ⟨rfl, rfl⟩))
    go_ret
    exact ⟨rfl, rfl⟩
  · rw [refs_yes ht]
    have hi := there_iff ht
    have T := Aside0.mk ht
    obtain ⟨k0, k1, k2⟩ := h.cell i hi.1 hi.2.1
    clear h ht hi
    go_enter Try.func12, Try.ntmps12
    go_wp2_with (first | (go_at_call 22; refine (at_there g b vi ps i _ H.out T.out).mono ?_; rintro e w' ⟨rfl, rfl⟩))
    go_ret
    exact ⟨rfl, rfl⟩
set_option maxHeartbeats 1000000 in
theorem open_calls (g b : Nat) (vi : Value) (ps : List PG) (i : Int) (w : World) (h : Raw w g b vi ps) :
    Calls Try.prog 18 #[.pointer (some ⟨g, 0, none⟩), .int .i64 i] w fun e w' => e = .returned (.bool (openV ps i)) ∧ w = w' := by
  have H := Aside0.mk h
  cases ht : there ps i
  · have e0 : openV ps i = false := by unfold openV; rw [ht]; rfl
    rw [e0]
    have T := Aside0.mk ht
    clear h ht e0
    go_enter Try.func18, Try.ntmps18
    go_wp2_with (first | (go_at_call 22; refine (at_free g b vi ps i _ H.out T.out).mono ?_; rintro e w' ⟨rfl, rfl⟩))
    go_ret
    exact ⟨rfl, rfl⟩
  · have e0 : openV ps i = !(pg ps i).f1 := by unfold openV; rw [ht]; rfl
    rw [e0]
    have hi := there_iff ht
    have T := Aside0.mk ht
    obtain ⟨k0, k1, k2⟩ := h.cell i hi.1 hi.2.1
    clear h ht hi e0
    generalize pg ps i = p at k0 k1 k2 ⊢
    go_enter Try.func18, Try.ntmps18
    go_wp2_with (first | (go_at_call 22; refine (at_there g b vi ps i _ H.out T.out).mono ?_; rintro e w' ⟨rfl, rfl⟩))
    go_ret
    exact ⟨rfl, rfl⟩
/-- The first place from i on of a sealed page with this key. -/
def kidx (key : Int) : List PG → Nat → Int
  | [], _ => -1
  | p :: ps, i => if p.f1 = true ∧ p.f2 = key then (i : Int) else kidx key ps (i + 1)
theorem pg_at (ps : List PG) (i : Nat) (h : i < ps.length) : pg ps (i : Int) = ps[i] := by
  unfold pg
  rw [Int.toNat_natCast, List.getD_eq_getElem?_getD, List.getElem?_eq_getElem h]
  rfl
theorem kidx_step (key : Int) (ps : List PG) (i : Nat) (h : i < ps.length) : kidx key (ps.drop i) i = if (pg ps i).f1 = true ∧ (pg ps i).f2 = key then (i : Int) else kidx key (ps.drop (i + 1)) (i + 1) := by
  rw [List.drop_eq_getElem_cons h, pg_at ps i h]
  rfl
theorem kidx_nonneg (key : Int) : ∀ (ps : List PG) (i : Nat), kidx key ps i = -1 ∨ 0 ≤ kidx key ps i := by
  intro ps
  induction ps with
  | nil => intro i; exact .inl rfl
  | cons p ps ih =>
    intro i
    simp only [kidx]
    split
    · right; omega
    · exact ih (i + 1)
def findI (key : Int) (ps : List PG) : Int := if kidx key ps 0 < 0 then 0 else kidx key ps 0
def findB (key : Int) (ps : List PG) : Bool := !decide (kidx key ps 0 < 0)
theorem find_yes {key : Int} {ps : List PG} {i : Nat} (h : kidx key ps 0 = (i : Int)) : findI key ps = i ∧ findB key ps = true := by
  unfold findI findB
  rw [h, if_neg (by omega), decide_eq_false (by omega)]
  exact ⟨rfl, rfl⟩
theorem find_no {key : Int} {ps : List PG} (h : kidx key ps 0 = -1) : findI key ps = 0 ∧ findB key ps = false := by
  unfold findI findB
  rw [h]
  exact ⟨rfl, rfl⟩
set_option maxHeartbeats 2000000 in
theorem find_calls (g b : Nat) (vi : Value) (ps : List PG) (key : Int) (w : World) (h : Raw w g b vi ps) (hl : ps.length ≤ 64) :
    Calls Try.prog 17 #[.pointer (some ⟨g, 0, none⟩), .int .i64 key] w fun e w' => e = .returned (.tuple #[.int .i64 (findI key ps), .bool (findB key ps)]) ∧ Below w.heap.size w w' := by
  have c0 := blk_cell h.1 0
  simp at c0
  have H := Aside0.mk h
  obtain ⟨A, hA⟩ : ∃ A, findI key ps = A := ⟨_, rfl⟩
  obtain ⟨B, hB⟩ : ∃ B, findB key ps = B := ⟨_, rfl⟩
  rw [hA, hB]
  have EA := Aside0.mk hA
  have EB := Aside0.mk hB
  have zeroP : (zeroValue 55 : Sem Value) = zeroValue 55 := rfl
  clear h hA hB zeroP
  go_enter Try.func17, Try.ntmps17
  go_wp2
  go_loopg [13] ps.length (fun kq v13 w' => ∃ (i : Nat), v13 = .int .i64 (i : Int) ∧ Aside0 (i + kq = ps.length) ∧ Aside0 (kidx key (ps.drop i) i = kidx key ps 0) ∧ Aside0 (Below w.heap.size w w'))
  case atStart => exact ⟨0, rfl, ⟨Nat.zero_add _⟩, ⟨rfl⟩, ⟨Below.refl _ _⟩⟩
  case round =>
    obtain ⟨i, rfl, HI, HK, HB⟩ := hrel
    have hi := HI.out
    cases gk with
    | zero =>
      have b1 : decide (i < ps.length) = false := decide_eq_false (by omega)
      have e0 := HK.out
      rw [List.drop_eq_nil_of_le (by omega)] at e0
      obtain ⟨f1, f2⟩ := find_no (e0.symm.trans rfl)
      rw [EA.out] at f1
      rw [EB.out] at f2
      subst f1 f2
      clear e0 hi
      go_wp2
      go_ret2
      exact ⟨rfl, HB.out⟩
    | succ k =>
      have b1 : decide (i < ps.length) = true := decide_eq_true (by omega)
      have hs := kidx_step key ps i (by omega)
      rw [HK.out] at hs
      obtain ⟨k0, k1, k2⟩ := H.out.cell (i : Int) (by omega) (by omega)
      rw [← HB.out.cell (World.block_lt_of_cell? w _ k0)] at k0
      rw [← HB.out.cell (World.block_lt_of_cell? w _ k1)] at k1
      rw [← HB.out.cell (World.block_lt_of_cell? w _ k2)] at k2
      rw [← HB.out.cell (World.block_lt_of_cell? w _ c0)] at c0
      have d0 : decide (0 ≤ (i : Int)) = true := decide_eq_true (by omega)
      have hw : (i : Int) + 1 ≤ 64 := by omega
      simp only [Int.toNat_natCast] at k0 k1 k2
      generalize pg ps (i : Int) = p at k0 k1 k2 hs
      have hlt : i < ps.length := by omega
      have HB2 := Aside0.mk (fun o => HB.out.alloc HB.out.size o)
      by_cases c1 : p.f1 = true
      · by_cases c2 : p.f2 = key
        · rw [if_pos ⟨c1, c2⟩] at hs
          obtain ⟨f1, f2⟩ := find_yes hs
          rw [EA.out] at f1
          rw [EB.out] at f2
          subst f1 f2
          have c3 : (p.f2 == key) = true := by rw [c2]; exact beq_self_eq_true _
          clear hs hi c2
          go_wp2
          go_ret2
          exact ⟨rfl, HB2.out _⟩
        · rw [if_neg (fun h => c2 h.2)] at hs
          have HS := Aside0.mk hs
          have c3 : (p.f2 == key) = false := beq_eq_false_iff_ne.mpr c2
          clear hs hi c2
          go_wp2
          go_roundg k
          case measure => omega
          case rel => exact ⟨i + 1, by go_num, ⟨by have := HI.out; omega⟩, ⟨HS.out.symm⟩, ⟨HB2.out _⟩⟩
      · rw [if_neg (fun h => c1 h.1)] at hs
        have HS := Aside0.mk hs
        have c3 : p.f1 = false := by simpa using c1
        clear hs hi c1
        go_wp2
        go_roundg k
        case measure => omega
        case rel => exact ⟨i + 1, by go_num, ⟨by have := HI.out; omega⟩, ⟨HS.out.symm⟩, ⟨HB2.out _⟩⟩
/-- How many pages are free. -/
def cfre (ps : List PG) : Nat := ps.countP fre
theorem cfre_step (ps : List PG) (i : Nat) (h : i < ps.length) : cfre (ps.take (i + 1)) = cfre (ps.take i) + if fre (pg ps i) then 1 else 0 := by
  unfold cfre
  rw [List.take_succ_eq_append_getElem h, pg_at ps i h, List.countP_append, List.countP_singleton]
theorem cfre_le (ps : List PG) : cfre ps ≤ ps.length := List.countP_le_length
set_option maxHeartbeats 2000000 in
theorem counts_calls (g b : Nat) (A : Option Addr) (n c : Nat) (ps : List PG) (w : World) (h : Raw w g b (.slice A n c) ps) (hl : ps.length ≤ 64) (hn : n ≤ 64) :
    Calls Try.prog 14 #[.pointer (some ⟨g, 0, none⟩)] w fun e w' => e = .returned (.tuple #[.int .i64 (cfre ps), .int .i64 ((ps.length : Int) - (cfre ps : Int) - (n : Int)), .int .i64 (n : Int)]) ∧ Below w.heap.size w w' := by
  have c0 := blk_cell h.1 0
  have c1 := blk_cell h.1 1
  simp at c0 c1
  have H := Aside0.mk h
  have hu55 := Try.underlying55
  obtain ⟨F, hF⟩ : ∃ F, cfre ps = F := ⟨_, rfl⟩
  have hle := cfre_le ps
  rw [hF] at hle ⊢
  have EF := Aside0.mk hF
  clear h hF
  go_enter Try.func14, Try.ntmps14
  go_wp2
  go_loopg [5, 13] ps.length (fun kq v5 v13 w' => ∃ (i : Nat), v5 = .int .i64 (cfre (ps.take i) : Int) ∧ v13 = .int .i64 (i : Int) ∧ Aside0 (i + kq = ps.length) ∧ Aside0 (Below w.heap.size w w'))
  case atStart => exact ⟨0, rfl, rfl, ⟨Nat.zero_add _⟩, ⟨Below.refl _ _⟩⟩
  case round =>
    obtain ⟨i, rfl, rfl, HI, HB⟩ := hrel
    have hi := HI.out
    have cl := cfre_le (ps.take i)
    rw [List.length_take] at cl
    rw [← HB.out.cell (World.block_lt_of_cell? w _ c0)] at c0
    rw [← HB.out.cell (World.block_lt_of_cell? w _ c1)] at c1
    cases gk with
    | zero =>
      have b1 : decide (i < ps.length) = false := decide_eq_false (by omega)
      rw [List.take_of_length_le (by omega), EF.out]
      have w1 : IntKind.i64.wrap ((ps.length : Int) - (F : Int)) = (ps.length : Int) - (F : Int) := by rw [IntKind.wrap_i64]; omega
      have w2 : IntKind.i64.wrap ((ps.length : Int) - (F : Int) - (n : Int)) = (ps.length : Int) - (F : Int) - (n : Int) := by rw [IntKind.wrap_i64]; omega
      clear hi cl
      go_wp2
      go_quiet (fail)
      try go_wp2
      go_ret3
      exact ⟨rfl, pw_below_drewN HB.out _⟩
    | succ k =>
      have b1 : decide (i < ps.length) = true := decide_eq_true (by omega)
      have hs := cfre_step ps i (by omega)
      obtain ⟨k0, k1, k2⟩ := H.out.cell (i : Int) (by omega) (by omega)
      rw [← HB.out.cell (World.block_lt_of_cell? w _ k0)] at k0
      rw [← HB.out.cell (World.block_lt_of_cell? w _ k1)] at k1
      rw [← HB.out.cell (World.block_lt_of_cell? w _ k2)] at k2
      have hlt : i < ps.length := by omega
      have HB2 := Aside0.mk (fun o => HB.out.alloc HB.out.size o)
      simp only [Int.toNat_natCast] at k0 k1 k2
      generalize pg ps (i : Int) = p at k0 k1 k2 hs
      generalize cfre (ps.take i) = f at cl hs ⊢
      have hf : (f : Int) + 1 ≤ 65 := by omega
      have hw : (i : Int) + 1 ≤ 64 := by omega
      cases he : fre p
      · rw [he, if_neg (by decide), Nat.add_zero] at hs
        have HS := Aside0.mk hs
        have hp : ¬ (p.f0 = 0 ∧ ¬ p.f1 = true ∧ p.f2 = 0) := fun h => by rw [fre_yes h.1 h.2.1 h.2.2] at he; cases he
        have HE := Aside0.mk hp
        clear hs hi cl hp he
        go_wp2
        all_goals first
          | (exfalso; exact HE.out ⟨by assumption, by assumption, by assumption⟩)
          | (go_roundg k
             case measure => omega
             case rel => exact ⟨i + 1, by rw [HS.out, Nat.add_zero], by go_num, ⟨by have := HI.out; omega⟩, ⟨HB2.out _⟩⟩)
      · rw [he, if_pos rfl] at hs
        have HS := Aside0.mk hs
        have HE := Aside0.mk he
        clear hs hi cl he
        go_wp2
        all_goals first
          | (exfalso; have h_ := HE.out; first | (rw [fre_0 (by assumption)] at h_; cases h_) | (rw [fre_1 (by assumption)] at h_; cases h_) | (rw [fre_2 (by assumption)] at h_; cases h_))
          | (go_roundg k
             case measure => omega
             case rel => exact ⟨i + 1, by rw [HS.out, Int.natCast_add]; rfl, by go_num, ⟨by have := HI.out; omega⟩, ⟨HB2.out _⟩⟩)
end Go.Proofs.Ytmbbaalpeomnlaa.OPool
