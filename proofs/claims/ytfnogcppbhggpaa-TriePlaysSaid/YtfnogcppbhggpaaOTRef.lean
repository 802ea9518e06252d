/- The plain list's functions, as contracts over a list in memory. -/
import Derived.Test.YtfnogcppbhggpaaOTPlain2
set_option linter.unusedVariables false
set_option linter.unusedSimpArgs false
namespace Go.Proofs.Ytfnogcppbhggpaa.OTrie
open Go.RowKit Go.Proofs.YtfnogcppbhggpaaW.PrintWords Go.Proofs.YtfnogcppbhggpaaW.PrintLast Go.Proofs.YtfnogcppbhggpaaW.PrintMore Go.Proofs.Ytfnogcppbhggpaa.GQ Go.Proofs.Ytfnogcppbhggpaa.OMap Go.Proofs.Ytfnogcppbhggpaa.UTrie Go.Proofs.Ytfnogcppbhggpaa.UTold Go.Maps
/-- The plain list in memory: its blocks are ok. -/
abbrev RefAt (W : World) (ok : Nat → Prop) (A : Option Addr) (c : Nat) (l : List Ent) : Prop := Kd.V k49 49 W 0 ok (.slice A l.length c) (l.map toT)
theorem RefAt.read {W : World} {ok : Nat → Prop} {A : Option Addr} {c : Nat} {l : List Ent} (h : RefAt W ok A c l) : Kd.C k49 W A (l.map toT).length (l.map toT) ∧ l.length ≤ c := by
  obtain ⟨h1, h2, h3⟩ := Kd.V_reads' h
  exact ⟨h3, h2⟩
theorem ref_find {W : World} {ok : Nat → Prop} {A : Option Addr} {c : Nat} {l : List Ent} {val : Row → Option Int} (h : RefAt W ok A c l) (hr : Rep l val) {A1 : Option Addr} {c1 : Nat} {t : List Int} (ht : Kd.C kI W A1 t.length t) (hc1 : t.length ≤ c1) (hl : l.length ≤ 1000000) (htl : t.length ≤ 1000000) :
    ∃ r : Int, (∀ i, i < l.length → ((i : Int) = r ↔ (eAt l i).1 = t)) ∧ (r ≥ 0 ↔ (val t).isSome = true) ∧ r < l.length ∧ -1 ≤ r ∧ (∀ v, val t = some v → ∃ j, r = (j : Nat) ∧ j < l.length ∧ eAt l j = (t, v)) ∧
      Calls Try.prog 21 #[.slice A l.length c, .slice A1 t.length c1] W fun e w' => e = .returned (.int .i64 r) ∧ Below W.heap.size W w' := by
  obtain ⟨hC, hc⟩ := h.read
  have call : ∀ r : Int, tillerref13_Find.f (l.length + t.length + 1) (l.map toT) t = some r → Calls Try.prog 21 #[.slice A l.length c, .slice A1 t.length c1] W fun e w' => e = .returned (.int .i64 r) ∧ Below W.heap.size W w' := fun r hf => by
    have := tillerref13_Find.calls (l.length + t.length + 1) A c (l.map toT) A1 c1 t r W hC (by rw [List.length_map]; exact hc) ht hc1 hf
    rwa [List.length_map] at this
  rcases find_eq hr t hl htl (l.length + t.length + 1) (by omega) with ⟨hv, hf, hn⟩ | ⟨j, hj, e, hv, hf⟩
  · exact ⟨-1, fun i hi => ⟨fun h => by omega, fun h => absurd h (hn i hi)⟩, ⟨fun h => by omega, fun h => by rw [hv] at h; cases h⟩, by omega, by omega, fun v h => (by rw [hv] at h; cases h), call _ hf⟩
  · refine ⟨(j : Int), fun i hi => ⟨fun h => ?_, fun h => ?_⟩, ⟨fun _ => by rw [hv]; rfl, fun _ => by omega⟩, by omega, by omega, fun v h => ⟨j, rfl, hj, ?_⟩, call _ hf⟩
    · rw [show i = j by omega]; exact e
    · rw [sorted_one hr.1 hi hj (h.trans e.symm)]
    · rw [hv] at h
      rw [← e, ← Option.some.inj h]
theorem ref_longest {W : World} {ok : Nat → Prop} {A : Option Addr} {c : Nat} {l : List Ent} {val : Row → Option Int} (h : RefAt W ok A c l) (hr : Rep l val) {A1 : Option Addr} {c1 : Nat} {t : List Int} (ht : Kd.C kI W A1 t.length t) (hc1 : t.length ≤ c1) (hl : l.length ≤ 1000000) (htl : t.length ≤ 1000000) (hB : ∀ e ∈ l, e.1.length ≤ 128) :
    Calls Try.prog 24 #[.slice A l.length c, .slice A1 t.length c1] W fun e w' => e = .returned (.tuple #[.int .i64 ((long val t t.length).1 : Int), .int .i64 (long val t t.length).2]) ∧ Below W.heap.size W w' := by
  obtain ⟨hC, hc⟩ := h.read
  have := tillerref13_Longest.calls (l.length + 128 + 1) A c (l.map toT) A1 c1 t _ _ W hC (by rw [List.length_map]; exact hc) ht hc1 (longest_eq hr t 128 hl htl hB (by omega) _ (by omega))
  rwa [List.length_map] at this
theorem ref_without {W : World} {ok : Nat → Prop} {A : Option Addr} {c : Nat} {l l' : List Ent} (h : RefAt W ok A c l) {A1 : Option Addr} {c1 : Nat} {t : List Int} {b : Bool} {v : Int} (ht : Kd.C kI W A1 t.length t) (hc1 : t.length ≤ c1) (k : Nat) (hk : tillerref13_Without.f k (l.map toT) t b v = some (l'.map toT)) :
    Calls Try.prog 22 #[.slice A l.length c, .slice A1 t.length c1, .bool b, .int .i64 v] W fun e w' => ∃ A' c', e = .returned (.slice A' l'.length c') ∧ RefAt w' (fun k => ok k ∨ W.heap.size ≤ k) A' c' l' ∧ Below W.heap.size W w' := by
  have hV : Kd.V k49 49 W W.heap.size ok (.slice A (l.map toT).length c) (l.map toT) := by rw [List.length_map]; exact h
  have := tillerref13_Without.calls k ok A c (l.map toT) A1 c1 t b v (l'.map toT) W hV ht hc1 hk
  rw [List.length_map] at this
  refine this.mono ?_
  rintro e w' ⟨v0, rfl, hN, hb⟩
  obtain ⟨A', c', rfl, h1, h2⟩ := Kd.N_reads hN
  rw [List.length_map] at hN h1 ⊢
  exact ⟨A', c', rfl, Kd.N_V hN, hb⟩
end Go.Proofs.Ytfnogcppbhggpaa.OTrie
