/- ins, row by row. -/
import Derived.Test.YtfnogcppbhggpaaUTrie
set_option linter.unusedVariables false
set_option linter.unusedSimpArgs false
namespace Go.Proofs.Ytfnogcppbhggpaa.UTrie
theorem ins_done (t : Row) (v : Int) (b : List Ent) : ∀ (a : List Ent), (∃ e ∈ a, lt t e.1 = true) → ins t v (a ++ b) = ins t v a ++ b
  | [], h => by obtain ⟨e, he, _⟩ := h; cases he
  | f :: r, h => by
    show ins t v (f :: (r ++ b)) = ins t v (f :: r) ++ b
    unfold ins
    by_cases c : lt t f.1 = true
    · rw [if_pos c, if_pos c]; rfl
    · rw [if_neg c, if_neg c, ins_done t v b r (by
        obtain ⟨e, he, h2⟩ := h
        rcases List.mem_cons.1 he with rfl | he
        · exact absurd h2 c
        · exact ⟨e, he, h2⟩)]
      rfl
theorem ins_here (t : Row) (v : Int) (e : Ent) (b : List Ent) (he : lt t e.1 = true) : ∀ (a : List Ent), (∀ f ∈ a, ¬ lt t f.1 = true) → ins t v (a ++ e :: b) = a ++ (t, v) :: e :: b
  | [], _ => by
    show ins t v (e :: b) = _
    unfold ins
    rw [if_pos he]; rfl
  | f :: r, h => by
    show ins t v (f :: (r ++ e :: b)) = f :: (r ++ (t, v) :: e :: b)
    rw [ins, if_neg (h f (by simp)), ins_here t v e b he r (fun g hg => h g (by simp [hg]))]
theorem ins_end (t : Row) (v : Int) : ∀ (a : List Ent), (∀ f ∈ a, ¬ lt t f.1 = true) → ins t v a = a ++ [(t, v)]
  | [], _ => rfl
  | f :: r, h => by
    rw [ins, if_neg (h f (by simp)), ins_end t v r (fun g hg => h g (by simp [hg]))]
    rfl
end Go.Proofs.Ytfnogcppbhggpaa.UTrie
