/- The plain list's own functions: Begins, Find, Longest, Without. -/
import Derived.Test.YtfnogcppbhggpaaOTLess
import Derived.Test.YtfnogcppbhggpaaGQx10
import Derived.Test.YtfnogcppbhggpaaGQx13
import Derived.Test.YtfnogcppbhggpaaGQx14
import Derived.Test.YtfnogcppbhggpaaGQx15
set_option linter.unusedVariables false
set_option linter.unusedSimpArgs false
namespace Go.Proofs.Ytfnogcppbhggpaa.OTrie
open Go.RowKit Go.Proofs.YtfnogcppbhggpaaW.PrintWords Go.Proofs.YtfnogcppbhggpaaW.PrintLast Go.Proofs.YtfnogcppbhggpaaW.PrintMore Go.Proofs.Ytfnogcppbhggpaa.GQ Go.Proofs.Ytfnogcppbhggpaa.OMap Go.Proofs.Ytfnogcppbhggpaa.UTrie Go.Proofs.Ytfnogcppbhggpaa.UTold Go.Maps
theorem beg_loop (s t : List Int) (hst : s.length ≤ t.length) (ht : t.length ≤ 1000000) : ∀ (d i k : Nat), s.length - i = d → i ≤ s.length → d < k → tillerref13_Begins.l0 k s t (s.length : Int) (i : Int) = some (decide (s.drop i = (t.drop i).take (s.length - i))) := by
  intro d
  induction d with
  | zero =>
    intro i k hd hi hk
    obtain ⟨k, rfl⟩ : ∃ m, k = m + 1 := ⟨k - 1, by omega⟩
    simp only [tillerref13_Begins.l0]
    rw [if_neg (by omega), show s.drop i = [] from List.drop_eq_nil_of_le (by omega), show s.length - i = 0 by omega, List.take_zero, decide_eq_true rfl]
  | succ d ih =>
    intro i k hd hi hk
    obtain ⟨k, rfl⟩ : ∃ m, k = m + 1 := ⟨k - 1, by omega⟩
    have next := ih (i + 1) k (by omega) (by omega) (by omega)
    simp only [tillerref13_Begins.l0]
    rw [if_pos (by omega), if_pos (by omega), if_pos (by omega), if_pos (by omega), wr64 (by omega) (by omega), ← Int.natCast_one, ← Int.natCast_add, next, drop_rd s i (by omega), drop_rd t i (by omega), show s.length - i = (s.length - (i + 1)) + 1 by omega, List.take_succ_cons]
    by_cases e : rd s (i : Int) = rd t (i : Int)
    · rw [if_pos e, e]
      congr 1
      by_cases e2 : s.drop (i + 1) = (t.drop (i + 1)).take (s.length - (i + 1))
      · rw [decide_eq_true e2, decide_eq_true (by rw [← e2])]
      · rw [decide_eq_false e2, decide_eq_false (fun h => e2 (List.cons.inj h).2)]
    · rw [if_neg e, decide_eq_false (fun h => e (List.cons.inj h).1)]
theorem beg_eq (s t : List Int) (hs : s.length ≤ 1000000) (ht : t.length ≤ 1000000) (k : Nat) (hk : s.length < k) : tillerref13_Begins.f k s t = some (decide (s = t.take s.length)) := by
  unfold tillerref13_Begins.f
  by_cases h : (s.length : Int) > (t.length : Int)
  · rw [if_pos h, decide_eq_false]
    intro e
    have := congrArg List.length e
    rw [List.length_take] at this
    omega
  · rw [if_neg h]
    have := beg_loop s t (by omega) ht s.length 0 k (by omega) (by omega) (by omega)
    rw [List.drop_zero, List.drop_zero, Nat.sub_zero] at this
    exact this
theorem rd_len (l : List Ent) (i : Nat) (h : i < l.length) : (rd_T49 (l.map toT) (i : Int)).f0 = (eAt l i).1 ∧ (rd_T49 (l.map toT) (i : Int)).f1 = (eAt l i).2 := by
  rw [rdT l i h, eAt_0]; exact ⟨rfl, rfl⟩
/-- Where a row stands. -/
theorem find_loop (l : List Ent) (t : List Int) (hl : l.length ≤ 1000000) (ht : t.length ≤ 1000000) : ∀ (d i k : Nat), l.length - i = d → i ≤ l.length → d + t.length < k → (∀ j, j < i → (eAt l j).1 ≠ t) →
    (tillerref13_Find.l0 k t (l.map toT) ((l.map toT).length : Int) (i : Int) = some (-1) ∧ ∀ j, j < l.length → (eAt l j).1 ≠ t) ∨ ∃ j, j < l.length ∧ (eAt l j).1 = t ∧ tillerref13_Find.l0 k t (l.map toT) ((l.map toT).length : Int) (i : Int) = some (j : Int) := by
  intro d
  induction d with
  | zero =>
    intro i k hd hi hk hn
    obtain ⟨k, rfl⟩ : ∃ m, k = m + 1 := ⟨k - 1, by omega⟩
    left
    refine ⟨?_, fun j hj => hn j (by omega)⟩
    simp only [tillerref13_Find.l0]
    rw [List.length_map, if_neg (by omega)]
  | succ d ih =>
    intro i k hd hi hk hn
    obtain ⟨k, rfl⟩ : ∃ m, k = m + 1 := ⟨k - 1, by omega⟩
    have hlt : i < l.length := by omega
    obtain ⟨r1, r2⟩ := rd_len l i hlt
    have step : tillerref13_Find.l0 (k + 1) t (l.map toT) ((l.map toT).length : Int) (i : Int) = if (eAt l i).1 = t then some (i : Int) else tillerref13_Find.l0 k t (l.map toT) ((l.map toT).length : Int) ((i + 1 : Nat) : Int) := by
      simp only [tillerref13_Find.l0]
      rw [if_pos (by rw [List.length_map]; omega), if_pos (by omega), if_pos (by rw [List.length_map]; omega), r1, wr64 (by omega) (by omega)]
      by_cases e : (eAt l i).1 = t
      · rw [if_pos e, e, if_pos rfl, begins_refl t ht k (by omega), Option.bind_some, if_pos rfl]
      · rw [if_neg e]
        by_cases e2 : (((eAt l i).1.length : Nat) : Int) = (t.length : Int)
        · rw [if_pos e2, beg_eq _ _ (by omega) ht k (by omega), Option.bind_some, decide_eq_false (by rw [show (eAt l i).1.length = t.length by omega, List.take_length]; exact e), if_neg (by simp)]
          rfl
        · rw [if_neg e2]; rfl
    rw [step]
    by_cases e : (eAt l i).1 = t
    · rw [if_pos e]; exact .inr ⟨i, hlt, e, rfl⟩
    · rw [if_neg e]
      exact ih (i + 1) k (by omega) (by omega) (by omega) (fun j hj => by
        rcases Nat.lt_or_ge j i with h | h
        · exact hn j h
        · have : j = i := by omega
          subst this; exact e)
theorem find_eq {l : List Ent} {val : Row → Option Int} (hr : Rep l val) (t : List Int) (hl : l.length ≤ 1000000) (ht : t.length ≤ 1000000) (k : Nat) (hk : l.length + t.length < k) :
    (val t = none ∧ tillerref13_Find.f k (l.map toT) t = some (-1) ∧ ∀ j, j < l.length → (eAt l j).1 ≠ t) ∨ ∃ j, j < l.length ∧ (eAt l j).1 = t ∧ val t = some (eAt l j).2 ∧ tillerref13_Find.f k (l.map toT) t = some (j : Int) := by
  unfold tillerref13_Find.f
  rcases find_loop l t hl ht l.length 0 k (by omega) (by omega) (by omega) (fun j hj => by omega) with ⟨h1, h2⟩ | ⟨j, h1, h2, h3⟩
  · refine .inl ⟨?_, h1, h2⟩
    cases hv : val t with
    | none => rfl
    | some v =>
      obtain ⟨i, hi, e⟩ := List.getElem_of_mem ((hr.2 t v).2 hv)
      refine absurd ?_ (h2 i hi)
      unfold eAt
      rw [List.getD_eq_getElem?_getD, List.getElem?_eq_getElem hi]
      show (l[i]).1 = t
      rw [e]
  · refine .inr ⟨j, h1, h2, ?_, h3⟩
    rw [← h2]
    exact (hr.2 _ _).1 (eAt_mem h1)
end Go.Proofs.Ytfnogcppbhggpaa.OTrie
