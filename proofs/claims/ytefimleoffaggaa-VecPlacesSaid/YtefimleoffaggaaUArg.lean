/- The first greatest number's place. -/
import Derived.Test.YtefimleoffaggaaGQx2
import Derived.Test.YtefimleoffaggaaGQx5
import Derived.Test.YtefimleoffaggaaUMath
set_option linter.unusedVariables false
namespace Go.Proofs.Ytefimleoffaggaa.U
open Go.RowKit Go.Proofs.YtefimleoffaggaaW.PrintWords Go.Proofs.YtefimleoffaggaaW.PrintMore Go.Proofs.Ytefimleoffaggaa.GQ
/-- The place of the first greatest number. -/
def IsArg (l : List Int) (r : Int) : Prop := (l = [] ∧ r = -1) ∨ ∃ i : Nat, r = i ∧ i < l.length ∧ (∀ j : Nat, j < l.length → rd l j ≤ rd l i) ∧ ∀ j : Nat, j < i → rd l j < rd l i
theorem IsArg.uniq {l : List Int} {r s : Int} (h : IsArg l r) (h' : IsArg l s) : r = s := by
  rcases h with ⟨rfl, rfl⟩ | ⟨i, rfl, hi, h1, h2⟩
  · rcases h' with ⟨_, rfl⟩ | ⟨j, _, hj, _⟩
    · rfl
    · simp at hj
  · rcases h' with ⟨rfl, _⟩ | ⟨j, rfl, hj, h3, h4⟩
    · simp at hi
    · rcases Nat.lt_trichotomy i j with h | h | h
      · have := h4 i h; have := h1 j hj; omega
      · rw [h]
      · have := h2 j h; have := h3 i hi; omega
theorem le_zero_ {l : List Int} (j : Nat) (hj : j < 1) : rd l (j : Int) ≤ rd l ((0 : Nat) : Int) := by
  have : j = 0 := by omega
  rw [this]; exact Int.le_refl _
theorem Max_loop (l : List Int) (hn : l.length ≤ 1000000) : ∀ (d i k : Nat) (m : Int), l.length - i = d → i ≤ l.length → d + 1 ≤ k → (∃ j : Nat, j < l.length ∧ rd l j = m) → (∀ j : Nat, j < i → rd l j ≤ m) →
    ∃ r, api_Num_48.l0 k l m (i : Int) = some r ∧ (∃ j : Nat, j < l.length ∧ rd l j = r) ∧ ∀ j : Nat, j < l.length → rd l j ≤ r := by
  intro d
  induction d with
  | zero =>
    intro i k m hd hi hk hm hb
    obtain ⟨k, rfl⟩ := succ_of_lt (show 0 < k by omega)
    refine ⟨m, ?_, hm, fun j hj => hb j (by omega)⟩
    simp only [api_Num_48.l0]
    rw [if_neg (by omega)]
  | succ d ih =>
    intro i k m hd hi hk hm hb
    obtain ⟨k, rfl⟩ := succ_of_lt (show 0 < k by omega)
    have hil : i < l.length := by omega
    simp only [api_Num_48.l0]
    rw [if_pos (by omega), if_pos (by omega), w64 (x := (i : Int) + 1) (by omega) (by omega)]
    have := ih (i + 1) k (mx m (rd l i)) (by omega) (by omega) (by omega) (by
      unfold mx; split
      · exact ⟨i, hil, rfl⟩
      · exact hm) (fun j hj => by
      have h1 : m ≤ mx m (rd l i) := by unfold mx; split <;> omega
      have h2 : rd l i ≤ mx m (rd l i) := by unfold mx; split <;> omega
      by_cases e : j = i
      · rw [e]; exact h2
      · have := hb j (by omega); omega)
    rw [Int.natCast_add, Int.natCast_one] at this
    exact this
theorem Index_loop (l : List Int) (v : Int) (hn : l.length ≤ 1000000) (hv : ∃ j : Nat, j < l.length ∧ rd l j = v) : ∀ (d i k : Nat), l.length - i = d → i ≤ l.length → d + 1 ≤ k → (∀ j : Nat, j < i → rd l j ≠ v) →
    ∃ r : Nat, api_Num_47.l0 k l v (l.length : Int) (i : Int) = some (r : Int) ∧ r < l.length ∧ rd l r = v ∧ ∀ j : Nat, j < r → rd l j ≠ v := by
  intro d
  induction d with
  | zero =>
    intro i k hd hi hk hb
    obtain ⟨j, hj, he⟩ := hv
    exact absurd he (hb j (by omega))
  | succ d ih =>
    intro i k hd hi hk hb
    obtain ⟨k, rfl⟩ := succ_of_lt (show 0 < k by omega)
    have hil : i < l.length := by omega
    simp only [api_Num_47.l0]
    rw [if_pos (by omega), if_pos (by omega), if_pos (by omega), w64 (x := (i : Int) + 1) (by omega) (by omega)]
    by_cases e : v = rd l i
    · rw [if_pos e]; exact ⟨i, rfl, hil, e.symm, hb⟩
    · rw [if_neg e]
      have := ih (i + 1) k (by omega) (by omega) (by omega) (fun j hj => by
        by_cases e2 : j = i
        · rw [e2]; exact fun h => e h.symm
        · exact hb j (by omega))
      rw [Int.natCast_add, Int.natCast_one] at this
      exact this
theorem Argmax_eq {k : Nat} (l : List Int) (hn : l.length ≤ 6000) (hk : 7000 ≤ k) : ∃ r, vec_Argmax.f k l = some r ∧ IsArg l r := by
  unfold vec_Argmax.f
  by_cases h : l = []
  · subst h; exact ⟨-1, by simp, .inl ⟨rfl, rfl⟩⟩
  · have hl : 0 < l.length := List.length_pos_iff.2 h
    rw [if_neg (by omega)]
    obtain ⟨m, hm, hm1, hm2⟩ := Max_loop l (by omega) (l.length - 1) 1 k (rd l 0) (by omega) (by omega) (by omega) ⟨0, hl, rfl⟩ (fun j hj => le_zero_ j hj)
    obtain ⟨r, hr, hr1, hr2, hr3⟩ := Index_loop l m (by omega) hm1 l.length 0 k (by omega) (by omega) (by omega) (fun j hj => by omega)
    rw [Int.natCast_one] at hm
    rw [Int.natCast_zero] at hr
    refine ⟨r, ?_, .inr ⟨r, rfl, hr1, fun j hj => by rw [hr2]; exact hm2 j hj, fun j hj => ?_⟩⟩
    · simp only [api_Num_48.f, api_Num_47.f]
      rw [if_neg (by omega), if_pos (by omega), hm, Option.bind_some, hr, Option.bind_some]
    · have h1 := hm2 j (by omega)
      have h2 := hr3 j hj
      rw [hr2]; omega
theorem rArg_loop (l : List Int) (hn : l.length ≤ 1000000) : ∀ (d i k : Nat) (at_ : Int), l.length - i = d → i ≤ l.length → d + 1 ≤ k →
    ((i = 0 ∧ at_ = -1) ∨ ∃ a : Nat, at_ = a ∧ a < i ∧ (∀ j : Nat, j < i → rd l j ≤ rd l a) ∧ ∀ j : Nat, j < a → rd l j < rd l a) →
    ∃ r, tillerref03_Argmax.l0 k l at_ (l.length : Int) (i : Int) = some r ∧ IsArg l r := by
  intro d
  induction d with
  | zero =>
    intro i k at_ hd hi hk hinv
    obtain ⟨k, rfl⟩ := succ_of_lt (show 0 < k by omega)
    have : i = l.length := by omega
    subst this
    refine ⟨at_, ?_, ?_⟩
    · simp only [tillerref03_Argmax.l0]; rw [if_neg (by omega)]
    · rcases hinv with ⟨h0, rfl⟩ | ⟨a, rfl, ha, h1, h2⟩
      · exact .inl ⟨List.length_eq_zero_iff.1 h0, rfl⟩
      · exact .inr ⟨a, rfl, ha, h1, h2⟩
  | succ d ih =>
    intro i k at_ hd hi hk hinv
    obtain ⟨k, rfl⟩ := succ_of_lt (show 0 < k by omega)
    have hil : i < l.length := by omega
    simp only [tillerref03_Argmax.l0]
    rw [if_pos (by omega), w64 (x := (i : Int) + 1) (by omega) (by omega), ← Int.natCast_one, ← Int.natCast_add]
    rcases hinv with ⟨h0, rfl⟩ | ⟨a, rfl, ha, h1, h2⟩
    · rw [if_pos (by omega)]
      subst h0
      exact ih 1 k _ (by omega) (by omega) (by omega) (.inr ⟨0, rfl, by omega, fun j hj => le_zero_ j hj, fun j hj => by omega⟩)
    · rw [if_neg (by omega), if_pos (by omega), if_pos (by omega), if_pos (by omega), if_pos (by omega)]
      by_cases e : rd l i > rd l a
      · rw [if_pos e]
        refine ih (i + 1) k _ (by omega) (by omega) (by omega) (.inr ⟨i, rfl, by omega, fun j hj => ?_, fun j hj => ?_⟩)
        · by_cases e2 : j = i
          · rw [e2]; exact Int.le_refl _
          · have := h1 j (by omega); omega
        · have := h1 j hj; omega
      · rw [if_neg e]
        refine ih (i + 1) k _ (by omega) (by omega) (by omega) (.inr ⟨a, rfl, by omega, fun j hj => ?_, h2⟩)
        by_cases e2 : j = i
        · rw [e2]; omega
        · exact h1 j (by omega)
theorem rArgmax_eq {k : Nat} (l : List Int) (hn : l.length ≤ 6000) (hk : 7000 ≤ k) : ∃ r, tillerref03_Argmax.f k l = some r ∧ IsArg l r := by
  have := rArg_loop l (by omega) l.length 0 k (-1) (by omega) (by omega) (by omega) (.inl ⟨rfl, rfl⟩)
  rw [Int.natCast_zero] at this
  exact this
end Go.Proofs.Ytefimleoffaggaa.U
