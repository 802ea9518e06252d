/- What may be asked of a model: the program and the document say the same. -/
import Derived.Test.YthihgiaflbaigaaGQx2
import Derived.Test.YthihgiaflbaigaaGQx13
import Derived.Test.YthihgiaflbaigaaUMath
set_option linter.unusedVariables false
namespace Go.Proofs.Ythihgiaflbaigaa.U
open Go.RowKit Go.Proofs.YthihgiaflbaigaaW.PrintWords Go.Proofs.YthihgiaflbaigaaW.PrintMore Go.Proofs.Ythihgiaflbaigaa.GQ
/-- Is a token out of the vocabulary? -/
def bad (V : Int) (x : Int) : Bool := decide (x < 0) || decide (x ≥ V)
def promptE (V : Int) (l : List Int) : Int := if l.length = 0 then 8 else if l.length > 128 then 2 else if l.any (bad V) = true then 7 else 0
def askedE (V : Int) (l : List Int) (most : Int) : Int := if promptE V l = 0 then (if most < 1 then 1 else if most > 128 - (l.length : Int) then 2 else 0) else promptE V l
theorem mprompt_loop (V d h hd ly : Int) (l : List Int) (hl : l.length ≤ 1000) : ∀ (n i k : Nat), l.length - i = n → i ≤ l.length → n + 1 ≤ k → model_Prompt.l0 k l (l.length : Int) (i : Int) V d h hd ly = some (if (l.drop i).any (bad V) = true then 7 else 0) := by
  intro n
  induction n with
  | zero =>
    intro i k hn hi hk
    obtain ⟨k, rfl⟩ := succ_of_lt (show 0 < k by omega)
    simp only [model_Prompt.l0]
    rw [if_neg (by omega), List.drop_of_length_le (by omega)]
    rfl
  | succ n ih =>
    intro i k hn hi hk
    obtain ⟨k, rfl⟩ := succ_of_lt (show 0 < k by omega)
    have next := ih (i + 1) k (by omega) (by omega) (by omega)
    simp only [model_Prompt.l0]
    rw [if_pos (by omega), if_pos (by omega), if_pos (by omega), rd_nat (show i < l.length by omega), List.drop_eq_getElem_cons (show i < l.length by omega), List.any_cons]
    by_cases h1 : l[i] < 0
    · rw [if_pos h1, if_pos (by simp [bad, h1])]
    · by_cases h2 : l[i] ≥ V
      · rw [if_neg h1, if_pos h2, if_pos (by simp [bad, h2])]
      · have hb : bad V l[i] = false := by unfold bad; rw [decide_eq_false h1, decide_eq_false h2]; rfl
        rw [if_neg h1, if_neg h2, w64 (x := (i : Int) + 1) (by omega) (by omega), ← Int.natCast_one, ← Int.natCast_add, next, hb, Bool.false_or]
theorem rprompt_loop (V d h hd ly : Int) (l : List Int) (hl : l.length ≤ 1000) : ∀ (n i k : Nat), l.length - i = n → i ≤ l.length → n + 1 ≤ k → tillerref06_Prompt.l0 k l (l.length : Int) (i : Int) V d h hd ly = some (if (l.drop i).any (bad V) = true then 7 else 0) := by
  intro n
  induction n with
  | zero =>
    intro i k hn hi hk
    obtain ⟨k, rfl⟩ := succ_of_lt (show 0 < k by omega)
    simp only [tillerref06_Prompt.l0]
    rw [if_neg (by omega), List.drop_of_length_le (by omega)]
    rfl
  | succ n ih =>
    intro i k hn hi hk
    obtain ⟨k, rfl⟩ := succ_of_lt (show 0 < k by omega)
    have next := ih (i + 1) k (by omega) (by omega) (by omega)
    simp only [tillerref06_Prompt.l0]
    rw [if_pos (by omega), if_pos (by omega), if_pos (by omega), rd_nat (show i < l.length by omega), List.drop_eq_getElem_cons (show i < l.length by omega), List.any_cons]
    by_cases h1 : l[i] < 0
    · rw [if_pos h1, if_pos (by simp [bad, h1])]
    · by_cases h2 : l[i] ≥ V
      · rw [if_neg h1, if_pos h2, if_pos (by simp [bad, h2])]
      · have hb : bad V l[i] = false := by unfold bad; rw [decide_eq_false h1, decide_eq_false h2]; rfl
        rw [if_neg h1, if_neg h2, w64 (x := (i : Int) + 1) (by omega) (by omega), ← Int.natCast_one, ← Int.natCast_add, next, hb, Bool.false_or]
theorem mprompt_eq (V d h hd ly : Int) (l : List Int) (hl : l.length ≤ 1000) : model_Prompt.f 2000 V d h hd ly l = some (promptE V l) := by
  unfold model_Prompt.f promptE
  by_cases h1 : l.length = 0
  · rw [if_pos (by omega), if_pos h1]
  · rw [if_neg (by omega), if_neg h1]
    by_cases h2 : l.length > 128
    · rw [if_pos (by omega), if_pos h2]
    · rw [if_neg (by omega), if_neg h2]
      exact mprompt_loop V d h hd ly l hl l.length 0 2000 (by omega) (by omega) (by omega)
theorem rprompt_eq (V d h hd ly : Int) (l : List Int) (hl : l.length ≤ 1000) : tillerref06_Prompt.f 2000 V d h hd ly l = some (promptE V l) := by
  unfold tillerref06_Prompt.f promptE
  by_cases h1 : l.length = 0
  · rw [if_pos (by omega), if_pos h1]
  · rw [if_neg (by omega), if_neg h1]
    by_cases h2 : l.length > 128
    · rw [if_pos (by omega), if_pos h2]
    · rw [if_neg (by omega), if_neg h2]
      exact rprompt_loop V d h hd ly l hl l.length 0 2000 (by omega) (by omega) (by omega)
theorem promptE_small {V : Int} {l : List Int} (h : promptE V l = 0) : 1 ≤ l.length ∧ l.length ≤ 128 := by
  unfold promptE at h
  by_cases h1 : l.length = 0
  · rw [if_pos h1] at h; omega
  · rw [if_neg h1] at h
    by_cases h2 : l.length > 128
    · rw [if_pos h2] at h; omega
    · omega
theorem asked_eq (V d h hd ly : Int) (l : List Int) (most : Int) (hl : l.length ≤ 1000) : greedy_Asked.f 2000 V d h hd ly l most = some (askedE V l most) := by
  unfold greedy_Asked.f askedE
  rw [mprompt_eq V d h hd ly l hl, Option.bind_some]
  by_cases h0 : promptE V l = 0
  · have hs := promptE_small h0
    rw [if_pos h0, if_pos h0, w64 (x := 128 - (l.length : Int)) (by omega) (by omega)]
    by_cases h1 : most < 1
    · rw [if_pos h1, if_pos h1]
    · rw [if_neg h1, if_neg h1]
      by_cases h2 : most > 128 - (l.length : Int)
      · rw [if_pos h2, if_pos h2]
      · rw [if_neg h2, if_neg h2]
  · rw [if_neg h0, if_neg h0]
theorem rasked_eq (V d h hd ly : Int) (l : List Int) (most : Int) (hl : l.length ≤ 1000) : tillerref10_Asked.f 2000 V d h hd ly l most = some (askedE V l most) := by
  unfold tillerref10_Asked.f askedE
  rw [rprompt_eq V d h hd ly l hl, Option.bind_some]
  by_cases h0 : promptE V l = 0
  · have hs := promptE_small h0
    rw [if_pos h0, if_pos h0]
    by_cases h1 : most < 1
    · rw [if_pos h1, if_pos h1]
    · rw [if_neg h1, if_neg h1]
      by_cases h3 : most > 128
      · rw [if_pos h3, if_pos (by omega)]
      · rw [if_neg h3, w64 (x := (l.length : Int) + most) (by omega) (by omega)]
        by_cases h2 : most > 128 - (l.length : Int)
        · rw [if_pos h2, if_pos (by omega)]
        · rw [if_neg h2, if_neg (by omega)]
  · rw [if_neg h0, if_neg h0]
theorem few_eq (l : List Int) (m : Nat) (hm : m ≤ 1000) : tillerlaw08_Few.f l (m : Int) = some (l.take m) := by
  unfold tillerlaw08_Few.f
  by_cases h : (l.length : Int) > (m : Int)
  · rw [if_pos h, if_pos (by omega), if_pos (by omega)]
    simp
    omega
  · rw [if_neg h, List.take_of_length_le (by omega)]
    simp
    omega
end Go.Proofs.Ythihgiaflbaigaa.U
