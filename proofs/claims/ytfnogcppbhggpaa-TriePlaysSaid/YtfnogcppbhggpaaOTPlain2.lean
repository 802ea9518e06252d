/- The plain list's Longest and Without. -/
import Derived.Test.YtfnogcppbhggpaaOTPlain
set_option linter.unusedVariables false
set_option linter.unusedSimpArgs false
namespace Go.Proofs.Ytfnogcppbhggpaa.OTrie
open Go.RowKit Go.Proofs.YtfnogcppbhggpaaW.PrintWords Go.Proofs.YtfnogcppbhggpaaW.PrintLast Go.Proofs.YtfnogcppbhggpaaW.PrintMore Go.Proofs.Ytfnogcppbhggpaa.GQ Go.Proofs.Ytfnogcppbhggpaa.OMap Go.Proofs.Ytfnogcppbhggpaa.UTrie Go.Proofs.Ytfnogcppbhggpaa.UTold Go.Maps
/-- The longest of the first rows that begins t. -/
structure Best (l : List Ent) (t : Row) (i n : Nat) (v : Int) : Prop where
  le : n ≤ t.length
  z : n = 0 → v = 0
  s : 0 < n → ∃ j, j < i ∧ j < l.length ∧ eAt l j = (t.take n, v)
  a : ∀ j, j < i → (eAt l j).1 = t.take (eAt l j).1.length → (eAt l j).1.length ≤ n
theorem long_loop (l : List Ent) (t : List Int) (B : Nat) (hl : l.length ≤ 1000000) (ht : t.length ≤ 1000000) (hB : ∀ e ∈ l, e.1.length ≤ B) (hB2 : B ≤ 1000000) : ∀ (d i k n : Nat) (v : Int), l.length - i = d → i ≤ l.length → d + B < k → Best l t i n v →
    ∃ (n' : Nat) (v' : Int), tillerref13_Longest.l0 k t (n : Int) v (l.map toT) ((l.map toT).length : Int) (i : Int) = some ((n' : Int), v') ∧ Best l t l.length n' v' := by
  intro d
  induction d with
  | zero =>
    intro i k n v hd hi hk hb
    obtain ⟨k, rfl⟩ : ∃ m, k = m + 1 := ⟨k - 1, by omega⟩
    refine ⟨n, v, ?_, by rwa [show i = l.length by omega] at hb⟩
    simp only [tillerref13_Longest.l0]
    rw [List.length_map, if_neg (by omega)]
  | succ d ih =>
    intro i k n v hd hi hk hb
    obtain ⟨k, rfl⟩ : ∃ m, k = m + 1 := ⟨k - 1, by omega⟩
    have hlt : i < l.length := by omega
    obtain ⟨r1, r2⟩ := rd_len l i hlt
    have hlen := hB _ (eAt_mem hlt)
    have step : tillerref13_Longest.l0 (k + 1) t (n : Int) v (l.map toT) ((l.map toT).length : Int) (i : Int) =
        if (eAt l i).1 = t.take (eAt l i).1.length ∧ (eAt l i).1.length > n then tillerref13_Longest.l0 k t ((eAt l i).1.length : Int) (eAt l i).2 (l.map toT) ((l.map toT).length : Int) ((i + 1 : Nat) : Int)
        else tillerref13_Longest.l0 k t (n : Int) v (l.map toT) ((l.map toT).length : Int) ((i + 1 : Nat) : Int) := by
      simp only [tillerref13_Longest.l0]
      rw [if_pos (by rw [List.length_map]; omega), if_pos (by omega), if_pos (by rw [List.length_map]; omega), r1, r2, wr64 (by omega) (by omega), beg_eq _ _ (by omega) ht k (by omega), Option.bind_some]
      by_cases e : (eAt l i).1 = t.take (eAt l i).1.length
      · rw [decide_eq_true e, if_pos rfl]
        by_cases e2 : (eAt l i).1.length > n
        · rw [if_pos (show ((eAt l i).1.length : Int) > (n : Int) by omega), if_pos ⟨e, e2⟩]; rfl
        · rw [if_neg (show ¬ ((eAt l i).1.length : Int) > (n : Int) by omega), if_neg (fun h => e2 h.2)]; rfl
      · rw [decide_eq_false e, if_neg (by simp), if_neg (fun h => e h.1)]; rfl
    rw [step]
    by_cases e : (eAt l i).1 = t.take (eAt l i).1.length ∧ (eAt l i).1.length > n
    · rw [if_pos e]
      have h2 : (eAt l i).1.length ≤ t.length := by
        have := congrArg List.length e.1
        rw [List.length_take] at this
        omega
      refine ih (i + 1) k _ _ (by omega) (by omega) (by omega) ⟨h2, fun h => by omega, fun _ => ⟨i, by omega, hlt, ?_⟩, fun j hj he => ?_⟩
      · rw [← e.1]
      · rcases Nat.lt_or_ge j i with h | h
        · have := hb.a j h he; omega
        · have : j = i := by omega
          subst this; exact Nat.le_refl _
    · rw [if_neg e]
      refine ih (i + 1) k n v (by omega) (by omega) (by omega) ⟨hb.le, hb.z, fun h => ?_, fun j hj he => ?_⟩
      · obtain ⟨j, h1, h2, h3⟩ := hb.s h
        exact ⟨j, by omega, h2, h3⟩
      · rcases Nat.lt_or_ge j i with h | h
        · exact hb.a j h he
        · have : j = i := by omega
          subst this
          have : ¬ (eAt l j).1.length > n := fun h => e ⟨he, h⟩
          omega
theorem best_long {l : List Ent} {val : Row → Option Int} (hr : Rep l val) {t : Row} {n : Nat} {v : Int} (h : Best l t l.length n v) : long val t t.length = (n, v) := by
  have h1 : long val t t.length = long val t n := by
    have := long_none_all (val := val) (t := t) (n := n) (t.length - n) (fun j h1 h2 => by
      have hle := h.le
      cases hv : val (t.take j) with
      | none => rfl
      | some u =>
        obtain ⟨i, hi, e⟩ := List.getElem_of_mem ((hr.2 _ u).2 hv)
        have e2 : eAt l i = (t.take j, u) := by
          unfold eAt
          rw [List.getD_eq_getElem?_getD, List.getElem?_eq_getElem hi]
          exact e
        have hl : (eAt l i).1.length = j := by rw [e2]; show (t.take j).length = j; rw [List.length_take]; omega
        have := h.a i hi (by rw [hl, e2])
        omega)
    rwa [show n + (t.length - n) = t.length by have := h.le; omega] at this
  rw [h1]
  cases n with
  | zero => rw [h.z rfl]; rfl
  | succ m =>
    obtain ⟨j, _, hj, e⟩ := h.s (by omega)
    refine long_some ?_
    have := (hr.2 (eAt l j).1 (eAt l j).2).1 (eAt_mem hj)
    rw [e] at this
    exact this
theorem longest_eq {l : List Ent} {val : Row → Option Int} (hr : Rep l val) (t : List Int) (B : Nat) (hl : l.length ≤ 1000000) (ht : t.length ≤ 1000000) (hB : ∀ e ∈ l, e.1.length ≤ B) (hB2 : B ≤ 1000000) (k : Nat) (hk : l.length + B < k) :
    tillerref13_Longest.f k (l.map toT) t = some (((long val t t.length).1 : Int), (long val t t.length).2) := by
  unfold tillerref13_Longest.f
  obtain ⟨n', v', h1, h2⟩ := long_loop l t B hl ht hB hB2 l.length 0 k 0 0 (by omega) (by omega) (by omega) ⟨Nat.zero_le _, fun _ => rfl, fun h => by omega, fun j hj => by omega⟩
  rw [best_long hr h2]
  exact h1
theorem take_keep (l : List Ent) (keep : Ent → Bool) (i : Nat) (hi : i < l.length) : ((l.take (i + 1)).filter keep).map toT = if keep (eAt l i) = true then ((l.take i).filter keep).map toT ++ [toT (eAt l i)] else ((l.take i).filter keep).map toT := by
  rw [takeE0 l i hi, List.filter_append, List.map_append, eAt_0]
  by_cases h : keep (eAt l i) = true
  · rw [if_pos h, List.filter_cons_of_pos h]; rfl
  · rw [if_neg h, List.filter_cons_of_neg h]; simp
theorem wo_loop (l : List Ent) (keep : Ent → Bool) (x1 : List Int) (x2 : Bool) (x3 : Int) (K : Nat) (hl : l.length ≤ 1000000)
    (step : ∀ i k (acc : List S49), i < l.length → K ≤ k → acc.length < 4398046511104 → tillerref13_Without.l0 (k + 1) (l.map toT) x1 x2 x3 acc (l.map toT) ((l.map toT).length : Int) (i : Int) = tillerref13_Without.l0 k (l.map toT) x1 x2 x3 (if keep (eAt l i) = true then acc ++ [toT (eAt l i)] else acc) (l.map toT) ((l.map toT).length : Int) ((i + 1 : Nat) : Int)) :
    ∀ (d i k : Nat), l.length - i = d → i ≤ l.length → d + K < k → tillerref13_Without.l0 k (l.map toT) x1 x2 x3 (((l.take i).filter keep).map toT) (l.map toT) ((l.map toT).length : Int) (i : Int) = some ((l.filter keep).map toT) := by
  intro d
  induction d with
  | zero =>
    intro i k hd hi hk
    obtain ⟨k, rfl⟩ : ∃ m, k = m + 1 := ⟨k - 1, by omega⟩
    simp only [tillerref13_Without.l0]
    rw [List.length_map, if_neg (by omega), List.take_of_length_le (by omega)]
  | succ d ih =>
    intro i k hd hi hk
    obtain ⟨k, rfl⟩ : ∃ m, k = m + 1 := ⟨k - 1, by omega⟩
    have hlen : (((l.take i).filter keep).map toT).length ≤ l.length := by
      rw [List.length_map]
      exact Nat.le_trans (List.length_filter_le _ _) (by rw [List.length_take]; omega)
    rw [step i k _ (by omega) (by omega) (by omega), ← take_keep l keep i (by omega)]
    exact ih (i + 1) k (by omega) (by omega) (by omega)
theorem wo_val (l : List Ent) (x1 : List Int) (v : Int) (hl : l.length ≤ 1000000) (k : Nat) (hk : l.length < k) : tillerref13_Without.f k (l.map toT) x1 true v = some ((delV v l).map toT) := by
  unfold tillerref13_Without.f delV
  refine wo_loop l _ x1 true v 0 hl (fun i k acc hi _ hacc => ?_) l.length 0 k (by omega) (by omega) (by omega)
  obtain ⟨r1, r2⟩ := rd_len l i hi
  simp only [tillerref13_Without.l0]
  rw [if_pos (by rw [List.length_map]; omega), if_pos (by omega), if_pos (by rw [List.length_map]; omega), if_pos trivial, r1, r2, wr64 (by omega) (by omega)]
  by_cases e : (eAt l i).2 = v
  · rw [if_pos e, if_neg (by simp [e])]; rfl
  · rw [if_neg e, if_pos hacc, if_pos (by simp [e])]; rfl
theorem sorted_one {l : List Ent} (h : Sorted l) {i j : Nat} (hi : i < l.length) (hj : j < l.length) (e : (eAt l i).1 = (eAt l j).1) : i = j := by
  have key : ∀ a b, a < b → (hb : b < l.length) → (eAt l a).1 ≠ (eAt l b).1 := fun a b hab hb he => by
    have h2 := (List.pairwise_iff_getElem.1 h) a b (by omega) hb hab
    unfold eAt at he
    rw [List.getD_eq_getElem?_getD, List.getD_eq_getElem?_getD, List.getElem?_eq_getElem (by omega), List.getElem?_eq_getElem hb] at he
    have he : (l[a]).1 = (l[b]).1 := he
    rw [he, lt_irrefl] at h2
    cases h2
  rcases Nat.lt_trichotomy i j with q | q | q
  · exact absurd e (key i j q hj)
  · exact q
  · exact absurd e.symm (key j i q hi)
theorem wo_row {l : List Ent} {val : Row → Option Int} (hr : Rep l val) (t : List Int) (v : Int) (hl : l.length ≤ 1000000) (ht : t.length ≤ 1000000) (k : Nat) (hk : 2 * l.length + t.length + 1 < k) : tillerref13_Without.f k (l.map toT) t false v = some ((del t l).map toT) := by
  have hfind : ∃ r : Int, (∀ k, l.length + t.length < k → tillerref13_Find.f k (l.map toT) t = some r) ∧ ∀ i, i < l.length → ((i : Int) = r ↔ (eAt l i).1 = t) := by
    rcases find_eq hr t hl ht (l.length + t.length + 1) (by omega) with ⟨hv, _, hn⟩ | ⟨j, hj, e, hv, _⟩
    · refine ⟨-1, fun k hk => ?_, fun i hi => ⟨fun h => by omega, fun h => absurd h (hn i hi)⟩⟩
      rcases find_eq hr t hl ht k hk with ⟨_, h, _⟩ | ⟨_, _, _, h, _⟩
      · exact h
      · rw [hv] at h; cases h
    · refine ⟨(j : Int), fun k hk => ?_, fun i hi => ⟨fun h => ?_, fun h => ?_⟩⟩
      · rcases find_eq hr t hl ht k hk with ⟨h, _, _⟩ | ⟨j2, hj2, e2, _, h⟩
        · rw [hv] at h; cases h
        · rw [h, sorted_one hr.1 hj2 hj (e2.trans e.symm)]
      · rw [show i = j by omega]; exact e
      · rw [sorted_one hr.1 hi hj (h.trans e.symm)]
  obtain ⟨r, h1, h2⟩ := hfind
  unfold tillerref13_Without.f del
  refine wo_loop l _ t false v (l.length + t.length + 1) hl (fun i k acc hi hK hacc => ?_) l.length 0 k (by omega) (by omega) (by omega)
  obtain ⟨r1, r2⟩ := rd_len l i hi
  simp only [tillerref13_Without.l0]
  rw [if_pos (by rw [List.length_map]; omega), if_pos (by omega), if_pos (by rw [List.length_map]; omega), if_neg (by simp), h1 k (by omega), Option.bind_some, r1, r2, wr64 (by omega) (by omega)]
  by_cases e : (eAt l i).1 = t
  · rw [if_pos ((h2 i hi).2 e), if_neg (by simp [e])]; rfl
  · rw [if_neg (fun h => e ((h2 i hi).1 h)), if_pos hacc, if_pos (by simp [e])]; rfl
end Go.Proofs.Ytfnogcppbhggpaa.OTrie
