/- Rows of rows that are handed in; Few. -/
import Derived.Test.YtfnogcppbhggpaaOTrieAwake
set_option linter.unusedVariables false
set_option linter.unusedSimpArgs false
namespace Go.Proofs.Ytfnogcppbhggpaa.OTrie
open Go.RowKit Go.Proofs.YtfnogcppbhggpaaW.PrintWords Go.Proofs.YtfnogcppbhggpaaW.PrintLast Go.Proofs.YtfnogcppbhggpaaW.PrintMore Go.Proofs.Ytfnogcppbhggpaa.GQ Go.Proofs.Ytfnogcppbhggpaa.OMap Go.Proofs.Ytfnogcppbhggpaa.UTrie Go.Maps
abbrev kL : Kd (List Int) := Kd.slice 3 kI
def row (l : List (List Int)) (i : Nat) : List Int := l.getD i []
theorem row_mem (l : List (List Int)) (i : Nat) (h : i < l.length) : row l i ∈ l := by
  unfold row
  rw [List.getD_eq_getElem?_getD, List.getElem?_eq_getElem h]
  exact List.getElem_mem h
theorem at_row {w : World} {A : Option Addr} {n : Nat} {l : List (List Int)} (h : Kd.C kL w A n l) (i : Nat) (hi : i < n) : ∃ ad A' c', A = some ad ∧ w.cell? (ad.add i) = some (.slice A' (row l i).length c') ∧ (row l i).length ≤ c' ∧ kI.C w A' (row l i).length (row l i) := by
  obtain ⟨ad, c, e, _, hK, hc⟩ := Kd.C_get h [] (i : Int) (by omega) (by omega)
  obtain ⟨A', c', rfl, h1, h2⟩ := hK
  rw [Int.toNat_natCast] at h1 h2
  refine ⟨ad, A', c', e, ?_, h1, h2⟩
  have h3 := hc 0 _ rfl
  rw [Int.toNat_natCast] at h3
  have h4 : w.cell? (ad.add (i * 1 + 0)) = some (.slice A' (row l i).length c') := h3
  rw [Nat.mul_one, Nat.add_zero] at h4
  exact h4
theorem few_eq (l : List Int) (m : Nat) (hm : m ≤ 1000) : tillerlaw08_Few.f l (m : Int) = some (l.take m) := by
  unfold tillerlaw08_Few.f
  by_cases h : (l.length : Int) > (m : Int)
  · rw [if_pos h, if_pos (by omega), if_pos (by omega), Option.bind_some, if_pos (by rw [Int.toNat_natCast, List.length_take]; simp; omega)]
    rw [Int.toNat_natCast]
    rfl
  · rw [if_neg h, Option.bind_some, if_pos (by simp; omega), List.take_of_length_le (by omega)]
    rfl
/-- What Few answers: a row of its own. -/
theorem few_calls (A : Option Addr) (c : Nat) (l : List Int) (m : Nat) (hm : m ≤ 1000) (w : World) (h : kI.C w A l.length l) (hc : l.length ≤ c) :
    Calls Try.prog 13 #[.slice A l.length c, .int .i64 (m : Int)] w fun e w' => ∃ (A' : Option Addr) (c' : Nat), e = .returned (.slice A' (l.take m).length c') ∧ kI.R 3 w' w.heap.size (fun _ => True) (.slice A' (l.take m).length c') (l.take m) ∧ Below w.heap.size w w' := by
  refine (tillerlaw08_Few.calls A c l (m : Int) _ w h hc (few_eq l m hm)).mono ?_
  rintro e w' ⟨v0, rfl, hR, hb⟩
  obtain ⟨A', c', rfl⟩ := Kd.R_slice hR
  exact ⟨A', c', rfl, hR, hb⟩
def okL (l : List Int) : Prop := ∀ x ∈ l, i64 x
theorem okL_take {l : List Int} (h : okL l) (m : Nat) : okL (l.take m) := fun x hx => h x (List.mem_of_mem_take hx)
theorem okL_wf {l : List Int} (h : ∀ x ∈ l, (Lit.int .i64 x).wf = true) : okL l := fun x hx => wf_ik (h x hx)
/-- A row of its own lies apart from a trie that was there. -/
theorem fresh_F {w w' : World} {g o N : Nat} {X : TX} {A : Option Addr} {c : Nat} {l : List Int} (h : TrieAt w g o N X) (hR : kI.R 3 w' w.heap.size (fun _ => True) (.slice A l.length c) l) : Kd.F kI w' (away X) A l.length l :=
  Kd.F_mono (Kd.R_F (Kd.R_bound hR)) (fun k hk hf => by have := foot_lt h hf; have := hk.2.1; omega)
theorem tPut_cnt (val : Row → Option Int) (cnt : Int) (l : Row) (v : Int) (h : 0 ≤ cnt) : cnt ≤ (tPut val cnt l v).2.1 ∧ (tPut val cnt l v).2.1 ≤ cnt + 1 := by
  unfold tPut
  split
  · exact ⟨Int.le_refl _, by show cnt ≤ cnt + 1; omega⟩
  · split
    · exact ⟨Int.le_refl _, by show cnt ≤ cnt + 1; omega⟩
    · split
      · exact ⟨Int.le_refl _, by show cnt ≤ cnt + 1; omega⟩
      · split
        · exact ⟨Int.le_refl _, by show cnt ≤ cnt + 1; omega⟩
        · exact ⟨by show cnt ≤ cnt + 1; omega, Int.le_refl _⟩
end Go.Proofs.Ytfnogcppbhggpaa.OTrie
