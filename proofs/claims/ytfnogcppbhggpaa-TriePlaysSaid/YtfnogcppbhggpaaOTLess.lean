/- Less of the trie's plain list; what a list that is told holds. -/
import Derived.Test.YtfnogcppbhggpaaOTT2
import Derived.Test.YtfnogcppbhggpaaGQx12
set_option linter.unusedVariables false
set_option linter.unusedSimpArgs false
namespace Go.Proofs.Ytfnogcppbhggpaa.OTrie
open Go.RowKit Go.Proofs.YtfnogcppbhggpaaW.PrintWords Go.Proofs.YtfnogcppbhggpaaW.PrintLast Go.Proofs.YtfnogcppbhggpaaW.PrintMore Go.Proofs.Ytfnogcppbhggpaa.GQ Go.Proofs.Ytfnogcppbhggpaa.OMap Go.Proofs.Ytfnogcppbhggpaa.UTrie Go.Proofs.Ytfnogcppbhggpaa.UTold Go.Maps
theorem drop_rd (a : List Int) (i : Nat) (h : i < a.length) : a.drop i = rd a (i : Int) :: a.drop (i + 1) := by
  rw [List.drop_eq_getElem_cons h]
  unfold rd
  rw [Int.toNat_natCast, List.getD_eq_getElem?_getD, List.getElem?_eq_getElem h]
  rfl
theorem less_loop (a b : List Int) (ha : a.length ≤ 1000000) (hb : b.length ≤ 1000000) : ∀ (d i k : Nat), a.length - i = d → i ≤ a.length → i ≤ b.length → 2 * d < k → tillerref13_Less.l0 k a b (a.length : Int) (i : Int) = some (lt (a.drop i) (b.drop i)) := by
  intro d
  induction d with
  | zero =>
    intro i k hd hi hi2 hk
    obtain ⟨k, rfl⟩ : ∃ m, k = m + 1 := ⟨k - 1, by omega⟩
    simp only [tillerref13_Less.l0]
    rw [if_neg (by omega), show a.drop i = [] from List.drop_eq_nil_of_le (by omega)]
    by_cases h : i < b.length
    · rw [drop_rd b i h, decide_eq_true (by omega)]; rfl
    · rw [show b.drop i = [] from List.drop_eq_nil_of_le (by omega), decide_eq_false (by omega)]; rfl
  | succ d ih =>
    intro i k hd hi hi2 hk
    obtain ⟨k, rfl⟩ : ∃ m, k = m + 1 := ⟨k - 1, by omega⟩
    obtain ⟨k, rfl⟩ : ∃ m, k = m + 1 := ⟨k - 1, by omega⟩
    have hlt : i < a.length := by omega
    simp only [tillerref13_Less.l0, tillerref13_Less.j1]
    rw [if_pos (by omega), drop_rd a i hlt]
    by_cases h : i < b.length
    · rw [if_neg (by omega), if_pos (by omega), if_pos (by omega), if_pos (by omega), drop_rd b i h]
      rcases Int.lt_trichotomy (rd a (i : Int)) (rd b (i : Int)) with c | c | c
      · rw [decide_eq_false (show ¬ rd a (i : Int) > rd b (i : Int) by omega), if_neg (by simp), if_pos (by omega), if_pos (by omega), if_pos (by omega), if_pos c]
        exact congrArg some (lt_cons.2 (.inl c)).symm
      · rw [decide_eq_false (show ¬ rd a (i : Int) > rd b (i : Int) by omega), if_neg (by simp), if_pos (by omega), if_pos (by omega), if_pos (by omega), if_neg (by omega), wr64 (by omega) (by omega), ← Int.natCast_one, ← Int.natCast_add]
        have next := ih (i + 1) k (by omega) (by omega) (by omega) (by omega)
        rw [next, c]
        show _ = some (decide _ || (decide _ && _))
        rw [decide_eq_false (Int.lt_irrefl _), decide_eq_true rfl]
        simp
      · rw [decide_eq_true (show rd a (i : Int) > rd b (i : Int) from c), if_pos rfl]
        show some false = some (decide _ || (decide _ && _))
        rw [decide_eq_false (by omega), decide_eq_false (by omega)]
        rfl
    · rw [if_pos (by omega), if_pos trivial, show b.drop i = [] from List.drop_eq_nil_of_le (by omega)]
      rfl
theorem less_eq (a b : List Int) (ha : a.length ≤ 1000000) (hb : b.length ≤ 1000000) : tillerref13_Less.f (2 * a.length + 1) a b = some (lt a b) := by
  unfold tillerref13_Less.f
  exact less_loop a b ha hb a.length 0 _ (by omega) (by omega) (by omega) (by omega)
theorem less_calls (A : Option Addr) (c : Nat) (a : List Int) (A' : Option Addr) (c' : Nat) (b : List Int) (w : World) (h : Kd.C kI w A a.length a) (hc : a.length ≤ c) (h' : Kd.C kI w A' b.length b) (hc' : b.length ≤ c') (ha : a.length ≤ 1000000) (hb : b.length ≤ 1000000) :
    Calls Try.prog 18 #[.slice A a.length c, .slice A' b.length c'] w fun e w' => e = .returned (.bool (lt a b)) ∧ Drawn0 w w' :=
  tillerref13_Less.calls (2 * a.length + 1) A c a A' c' b _ w h hc h' hc' (less_eq a b ha hb)
theorem eAt_0 (l : List Ent) (i : Nat) : eAt0 l i = eAt l i := rfl
/-- An entry of a told list, in memory. -/
theorem at_told {w : World} {A : Option Addr} {l : List Ent} (h : Kd.C k49 w A (l.map toT).length (l.map toT)) (i : Nat) (hi : i < l.length) : ∃ ad A0 c0, A = some ad ∧ w.cell? (ad.add (i * 2)) = some (.slice A0 (eAt l i).1.length c0) ∧ w.cell? ⟨(ad.add (i * 2)).block, (ad.add (i * 2)).off + 1, none⟩ = some (.int .i64 (eAt l i).2) ∧ (eAt l i).1.length ≤ c0 ∧ kI.C w A0 (eAt l i).1.length (eAt l i).1 := by
  obtain ⟨ad, A0, c0, h1, h2, h3, h4, h5⟩ := at_T49 h (i : Int) (by omega) (by rw [List.length_map]; omega)
  rw [rdT l i hi, eAt_0] at h2 h3 h4 h5
  rw [Int.toNat_natCast] at h2 h3
  exact ⟨ad, A0, c0, h1, h2, h3, h4, h5⟩
theorem sorted_next {l : List Ent} (h : Sorted l) (i : Nat) (hi : i + 1 < l.length) : lt (eAt l i).1 (eAt l (i + 1)).1 = true := by
  have h2 := (List.pairwise_iff_getElem.1 h) i (i + 1) (by omega) hi (by omega)
  unfold eAt
  rw [List.getD_eq_getElem?_getD, List.getD_eq_getElem?_getD, List.getElem?_eq_getElem (by omega), List.getElem?_eq_getElem hi]
  exact h2
end Go.Proofs.Ytfnogcppbhggpaa.OTrie
