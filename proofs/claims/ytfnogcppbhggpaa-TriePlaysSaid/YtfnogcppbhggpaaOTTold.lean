/- told and Same over a trie's rows; what Put does to the rows. -/
import Derived.Test.YtfnogcppbhggpaaOTRows
import Derived.Test.YtfnogcppbhggpaaUTold
set_option linter.unusedVariables false
set_option linter.unusedSimpArgs false
namespace Go.Proofs.Ytfnogcppbhggpaa.OTrie
open Go.RowKit Go.Proofs.YtfnogcppbhggpaaW.PrintWords Go.Proofs.YtfnogcppbhggpaaW.PrintLast Go.Proofs.YtfnogcppbhggpaaW.PrintMore Go.Proofs.Ytfnogcppbhggpaa.GQ Go.Proofs.Ytfnogcppbhggpaa.OMap Go.Proofs.Ytfnogcppbhggpaa.UTrie Go.Proofs.Ytfnogcppbhggpaa.UTold Go.Maps
theorem reps_map {α β : Type} {R : α → List Value → Prop} {R' : β → List Value → Prop} {size : Nat} {ps : List α} {cs : List Value} (f : α → β) (hf : ∀ p c, R p c → R' (f p) c) (h : Reps R size ps cs) : Reps R' size (ps.map f) cs := by
  refine ⟨by rw [List.length_map]; exact h.1, fun j p hj => ?_⟩
  rw [List.getElem?_map] at hj
  obtain ⟨q, hq, rfl⟩ := Option.map_eq_some_iff.1 hj
  exact hf q _ (h.2 j q hq)
theorem R_toS {w : World} {base : Nat} {ok : Nat → Prop} {v : Value} {l : List Ent} (h : kE.R 44 w base ok v l) : k44.R 44 w base ok v (l.map toS) := by
  obtain ⟨h0, inner, ho, hr⟩ := h
  refine ⟨h0, inner, by rw [List.length_map]; exact ho, reps_map toS (fun p c hp => ?_) hr⟩
  obtain ⟨v0, rfl, hT⟩ := kE_openM hp
  exact k44_mkM _ _ _ (toS p) hT
/-- told, of all rows. -/
theorem told_calls (A : Option Addr) (c : Nat) (l : List Ent) (base : Nat) (ok : Nat → Prop) (w : World) (h : kE.R 44 w base ok (.slice A l.length c) l) (hl : l.length ≤ 1000000) :
    Calls Try.prog 17 #[.slice A l.length c] w fun e w' => ∃ (A' : Option Addr) (c' : Nat), e = .returned (.slice A' l.length c') ∧ l.length ≤ c' ∧ Kd.C k49 w' A' (l.map toT).length (l.map toT) ∧ Below w.heap.size w w' := by
  have hS := R_toS h
  have hV : Kd.V k44 44 w w.heap.size ok (.slice A (l.map toS).length c) (l.map toS) := by rw [List.length_map]; exact Kd.R_V hS
  have hc := tillerlaw13_told.calls (l.length + 1) ok A c (l.map toS) _ w hV (told_eq l hl)
  rw [List.length_map] at hc
  refine hc.mono ?_
  rintro e w' ⟨v0, rfl, hN, hb⟩
  obtain ⟨A', c', rfl, h1, h2⟩ := Kd.N_reads hN
  rw [List.length_map] at h1
  exact ⟨A', c', by rw [List.length_map], h1, h2, hb⟩
theorem same_calls (A A' : Option Addr) (c c' : Nat) (l : List Ent) (w : World) (h : Kd.C k49 w A (l.map toT).length (l.map toT)) (hc : l.length ≤ c) (h' : Kd.C k49 w A' (l.map toT).length (l.map toT)) (hc' : l.length ≤ c') (hl : l.length ≤ 1000000) (hB : ∀ e ∈ l, e.1.length ≤ 128) :
    Calls Try.prog 16 #[.slice A l.length c, .slice A' l.length c'] w fun e w' => e = .returned (.bool true) ∧ Below w.heap.size w w' := by
  have hs := tillerref13_Same.calls (l.length + 129 + 1) A c (l.map toT) A' c' (l.map toT) true w h (by rw [List.length_map]; exact hc) h' (by rw [List.length_map]; exact hc') (same_eq l 129 hl (fun e he => by have := hB e he; omega) (by omega))
  rw [List.length_map] at hs
  exact hs
/-- Rows in order behind a Put. -/
theorem put_rep {l : List Ent} {val : Row → Option Int} (h : Rep l val) (t : Row) (v : Int) : ∃ l', Rep l' (tPut val l.length t v).1 ∧ (tPut val l.length t v).2.1 = (l'.length : Int) ∧ l'.length ≤ l.length + 1 := by
  unfold tPut
  by_cases h1 : t.length = 0
  · rw [if_pos h1]; exact ⟨l, h, rfl, by omega⟩
  rw [if_neg h1]
  by_cases h2 : t.length > 128
  · rw [if_pos h2]; exact ⟨l, h, rfl, by omega⟩
  rw [if_neg h2]
  by_cases h3 : (val t).isSome = true
  · rw [if_pos h3]
    obtain ⟨u, hu⟩ := Option.isSome_iff_exists.1 h3
    exact ⟨wr t v l, rep_wr h hu v, by unfold wr; rw [List.length_map], by unfold wr; rw [List.length_map]; omega⟩
  rw [if_neg h3]
  by_cases h4 : (l.length : Int) ≥ 1000
  · rw [if_pos h4]; exact ⟨l, h, rfl, by omega⟩
  rw [if_neg h4]
  exact ⟨ins t v l, rep_ins h (by simpa using h3) v, by rw [ins_length]; rfl, Nat.le_of_eq (ins_length t v l)⟩
theorem rep_empty : Rep [] (fun _ => none) := ⟨List.Pairwise.nil, fun p v => by simp⟩
theorem rep_short {W : World} {g o N : Nat} {X : TX} (h : TrieAt W g o N X) {l : List Ent} (hr : Rep l X.val) : ∀ e ∈ l, e.1.length ≤ 128 := fun e he => h.len e.1 (h.there e.1 (by rw [(hr.2 e.1 e.2).1 he]; simp))
end Go.Proofs.Ytfnogcppbhggpaa.OTrie
