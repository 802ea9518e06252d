/- slices.Delete of one place, over a row of one's own: from the shelf's contract. -/
import Derived.Test.YtmbbaalpeomnlaaLDel
import Derived.Test.YtmbbaalpeomnlaaWMore
import Derived.Test.YtmbbaalpeomnlaaWKept
import Derived.Test.YtmbbaalpeomnlaaWQPut
import Derived.Lib.OwnBridge
set_option linter.unusedVariables false
set_option linter.unusedSimpArgs false
namespace Go.Proofs.Ytmbbaalpeomnlaa.ODel
open Go.RowKit Go.Proofs.YtmbbaalpeomnlaaW.PrintWords Go.Proofs.YtmbbaalpeomnlaaW.PrintLast Go.Proofs.YtmbbaalpeomnlaaW.PrintMore
theorem reps_map {α : Type} {enc : α → Value} : ∀ {xs : List α} {inner : List Value}, Reps (fun x cs => cs = [enc x]) 1 xs inner → inner = xs.map enc := by
  intro xs inner h
  apply List.ext_getElem?
  intro j
  rw [List.getElem?_map]
  by_cases hj : j < xs.length
  · rw [List.getElem?_eq_getElem hj]
    have := h.2 j _ (List.getElem?_eq_getElem hj)
    rw [Nat.mul_one] at this
    have e : ((inner.drop j).take 1)[0]? = some (enc xs[j]) := by rw [this]; rfl
    rw [List.getElem?_take, if_pos (by omega), List.getElem?_drop, Nat.add_zero] at e
    exact e
  · rw [List.getElem?_eq_none (l := inner) (by have h1 : inner.length = xs.length * 1 := h.1; omega), List.getElem?_eq_none (by omega)]
    rfl
theorem reps_of_map {α : Type} {enc : α → Value} (xs : List α) : Reps (fun x cs => cs = [enc x]) 1 xs (xs.map enc) := by
  refine ⟨by simp, fun j p hp => ?_⟩
  obtain ⟨hj, rfl⟩ := List.getElem?_eq_some_iff.1 hp
  apply List.ext_getElem?
  intro i
  rw [List.getElem?_take, Nat.mul_one, List.getElem?_drop, List.getElem?_map]
  by_cases hi : i = 0
  · subst hi; simp [List.getElem?_eq_getElem hj]
  · rw [if_neg (by omega), List.getElem?_eq_none (by simp; omega)]
theorem R_map {w : World} {base : Nat} {ok : Nat → Prop} {v : Value} {xs : List Int} (h : (Kd.int .i64).R 3 w base ok v xs) : w.ownsRow base 3 1 v xs.length (xs.map (Value.int .i64)) := by
  obtain ⟨_, inner, ho, hr⟩ := h
  rw [← reps_map hr]
  exact ho
theorem R_of_map {w : World} {base : Nat} {ok : Nat → Prop} {v : Value} {xs : List Int} (h0 : ∀ k, v.ownBlock = some k → ok k) (h : w.ownsRow base 3 1 v xs.length (xs.map (Value.int .i64))) : (Kd.int .i64).R 3 w base ok v xs :=
  ⟨h0, _, h, reps_of_map xs⟩
theorem ahead_heap (w : World) (q : Nat) : (Sort.ahead w q).heap = w.heap := rfl
/-- One place less. -/
theorem delete_one (xs : List Int) (i : Nat) (hi : i < xs.length) (v : Value) (base : Nat) (ok : Nat → Prop) (w : World) (h : (Kd.int .i64).R 3 w base ok v xs) :
    Calls Try.prog 24 #[v, .int .i64 (i : Int), .int .i64 ((i : Int) + 1)] w fun e w' => ∃ v', e = .returned v' ∧ (Kd.int .i64).R 3 w' base ok v' (xs.eraseIdx i) ∧ v'.ownBlock = v.ownBlock ∧ Below base w w' ∧ Kept w w' (fun k => some k = v.ownBlock) := by
  have hm := R_map h
  have hne : v ≠ .slice none 0 0 := by
    rintro rfl
    rcases hm.2 with ⟨_, h0⟩ | ⟨g, cap, cur, e0, _⟩
    · omega
    · cases e0
  obtain ⟨g, cap, rfl, hb, hg, hn, hmx, hl, hH⟩ := Go.Lib.holds_of_ownsRow hm hne
  have hd := GLib.slices_Delete_int_arr g 0 cap i (i + 1) xs.toArray w hH (by simpa using hn) (by unfold maxLen at hmx; omega) (by omega) (by simp; omega)
  rw [List.size_toArray, Int.natCast_add, Int.natCast_one] at hd
  refine hd.mono ?_
  rintro e w' ⟨rfl, q, rfl⟩
  have e1 : i + 1 - i = 1 := by omega
  have hlen : (xs.eraseIdx i).length = xs.length - 1 := by rw [List.length_eraseIdx, if_pos hi]
  rw [e1]
  have hup := Go.Lib.ownsRow_putRow (q := q) (k := xs.length - 1) (ys := xs.take i ++ xs.drop (i + 1) ++ List.replicate 1 0) hm (by simp; omega) (by omega)
  have ht : (xs.take i ++ xs.drop (i + 1) ++ List.replicate 1 0).take (xs.length - 1) = xs.eraseIdx i := by
    rw [List.eraseIdx_eq_take_drop_succ, List.take_append_of_le_length (by simp; omega), List.take_of_length_le (by simp; omega)]
  rw [ht] at hup
  refine ⟨_, rfl, R_of_map (fun k hk => h.1 k (by simpa [Value.ownBlock] using hk)) (by rw [hlen]; exact hup), by simp [Value.ownBlock], Go.Lib.below_putRow (Below.refl _ _) hb, ?_⟩
  refine ⟨by rw [Go.Sort.size_putRow]; exact Nat.le_refl _, fun k hk hne => ?_⟩
  have hkg : g ≠ k := fun e => hne (by rw [e]; simp [Value.ownBlock])
  simp [Go.Sort.putRow, Go.Sort.mapBlock, Go.Sort.ahead, Array.getElem?_modify, hkg]
end Go.Proofs.Ytmbbaalpeomnlaa.ODel
