/- TrieOrder's plain part, and its rows in memory. -/
import Derived.Test.YtfnogcppbhggpaaOTT2
set_option linter.unusedVariables false
set_option linter.unusedSimpArgs false
namespace Go.Proofs.Ytfnogcppbhggpaa.OTOrder
open Go.RowKit Go.Proofs.YtfnogcppbhggpaaW.PrintWords Go.Proofs.YtfnogcppbhggpaaW.PrintLast Go.Proofs.YtfnogcppbhggpaaW.PrintMore Go.Proofs.Ytfnogcppbhggpaa.GQ Go.Proofs.Ytfnogcppbhggpaa.OMap Go.Proofs.Ytfnogcppbhggpaa.UTrie Go.Proofs.Ytfnogcppbhggpaa.UTold Go.Proofs.Ytfnogcppbhggpaa.OTrie Go.Maps
/-- What is there behind some rows. -/
def gv (S : List Row) : Row → Option Int := fun q => if q ∈ S ∧ 1 ≤ q.length ∧ q.length ≤ 128 then some (q.length : Int) else none
theorem gv_nil : gv [] = fun _ => none := by
  funext q
  unfold gv
  rw [if_neg (by simp)]
theorem gv_congr {S S' : List Row} (h : ∀ q, q ∈ S ↔ q ∈ S') : gv S = gv S' := by
  funext q
  unfold gv
  simp only [h]
theorem gv_put (S : List Row) (t : Row) (cnt : Int) (hc : cnt < 1000) : (tPut (gv S) cnt t (t.length : Int)).1 = gv (S ++ [t]) := by
  have other : ∀ q, (q ≠ t ∨ q.length = 0 ∨ q.length > 128) → gv (S ++ [t]) q = gv S q := fun q hq => by
    unfold gv
    by_cases k : q ∈ S ∧ 1 ≤ q.length ∧ q.length ≤ 128
    · rw [if_pos k, if_pos ⟨List.mem_append_left _ k.1, k.2⟩]
    · rw [if_neg k, if_neg]
      rintro ⟨h1, h2, h3⟩
      rcases List.mem_append.1 h1 with h | h
      · exact k ⟨h, h2, h3⟩
      · rw [List.mem_singleton] at h
        rcases hq with q | q | q
        · exact q h
        · omega
        · omega
  unfold tPut
  by_cases h1 : t.length = 0
  · rw [if_pos h1]
    funext q
    by_cases e : q = t
    · exact (other q (.inr (.inl (by rw [e]; exact h1)))).symm
    · exact (other q (.inl e)).symm
  rw [if_neg h1]
  by_cases h2 : t.length > 128
  · rw [if_pos h2]
    funext q
    by_cases e : q = t
    · exact (other q (.inr (.inr (by rw [e]; exact h2)))).symm
    · exact (other q (.inl e)).symm
  rw [if_neg h2]
  have good : upd (gv S) t (some (t.length : Int)) = gv (S ++ [t]) := by
    funext q
    by_cases e : q = t
    · subst e
      rw [upd_same]
      unfold gv
      rw [if_pos ⟨by simp, by omega, by omega⟩]
    · rw [upd_ne e]; exact (other q (.inl e)).symm
  by_cases h3 : (gv S t).isSome = true
  · rw [if_pos h3]; exact good
  rw [if_neg h3, if_neg (by omega)]
  exact good
theorem long_gv (S : List Row) (t : Row) : ∀ n, (long (gv S) t n).2 = ((long (gv S) t n).1 : Int) ∨ (n < t.length ∧ False) ∨ (t.length < n)
  | 0 => .inl rfl
  | n + 1 => by
    by_cases hn : t.length < n + 1
    · exact .inr (.inr hn)
    unfold long
    split
    · rename_i v hv
      left
      unfold gv at hv
      split at hv
      · cases hv
        rw [List.length_take]
        show ((min (n + 1) t.length : Nat) : Int) = ((n + 1 : Nat) : Int)
        rw [Nat.min_eq_left (by omega)]
      · cases hv
    · rcases long_gv S t n with h | h | h
      · exact .inl h
      · exact h.2.elim
      · omega
theorem long_ge {val : Row → Option Int} {t : Row} {j : Nat} (h : val (t.take j) ≠ none) : ∀ n, j ≤ n → 1 ≤ j → j ≤ (long val t n).1
  | 0, h1, h2 => by omega
  | n + 1, h1, h2 => by
    by_cases e : j = n + 1
    · subst e
      cases hv : val (t.take (n + 1)) with
      | none => exact absurd hv h
      | some v => rw [long_some hv]; exact Nat.le_refl _
    · have ih := long_ge h n (by omega) h2
      cases hv : val (t.take (n + 1)) with
      | none => rw [long_none hv]; exact ih
      | some v => rw [long_some hv]; show j ≤ n + 1; omega
theorem infoL : (Try.prog.info? 31).map (fun i => (i.zero, i.size, i.bytes)) = some (some (.slice none 0 0), 1, 24) := by kernel_rfl
theorem kL_new (W : World) (ok : Nat → Prop) (hok : ok W.heap.size) : kL.R 31 (W.alloc (.cells #[] 31)) W.heap.size ok (.slice (some ⟨W.heap.size, 0, none⟩) 0 0) [] :=
  ⟨fun k hk => by simp [Value.ownBlock] at hk; rw [← hk]; exact hok, [], World.ownsRow_lit (base := W.heap.size) (e := 31) (size := 1) W #[] 0 (Nat.le_refl _) (by simp [maxLen]) (by simp), Reps.none _ _⟩
/-- A row among rows of the law's own. -/
theorem row_of {W : World} {base : Nat} {ok : Nat → Prop} {A : Option Addr} {n c : Nat} {L : List (List Int)} (h : kL.R 31 W base ok (.slice A n c) L) (i : Nat) (hi : i < n) : ∃ gl A' c', A = some ⟨gl, 0, none⟩ ∧ W.cell? ⟨gl, i, none⟩ = some (.slice A' (row L i).length c') ∧ kI.R 3 W base ok (.slice A' (row L i).length c') (row L i) := by
  obtain ⟨hn, _, _⟩ := Kd.R_reads' h
  obtain ⟨inner, ho⟩ := Kd.R_own h
  rcases ho.2 with ⟨e, hz⟩ | ⟨gl, cap, cur, e, hg, _⟩
  · injection e with _ e2 _
    omega
  · injection e with e1 _ _
    subst e1
    obtain ⟨cs, _, hM, hcell, _⟩ := Kd.R_elem h [] (i : Int) (by omega) (by omega)
    rw [Int.toNat_natCast] at hM hcell
    obtain ⟨v0, rfl, hT⟩ := hM
    obtain ⟨A', c', rfl⟩ := Kd.R_slice hT
    have h0 := hcell 0 _ rfl
    have h0 : W.cell? ⟨gl, i * 1 + 0, none⟩ = some (.slice A' (row L i).length c') := h0
    rw [Nat.mul_one, Nat.add_zero] at h0
    exact ⟨gl, A', c', rfl, h0, Kd.R_mono hT (fun k hk => hk.1)⟩
theorem row_rev (L : List Row) (i : Nat) (hi : i < L.length) : row L.reverse i = row L (L.length - 1 - i) := by
  unfold row
  rw [List.getD_eq_getElem?_getD, List.getD_eq_getElem?_getD, List.getElem?_reverse hi]
theorem take_row (L : List Row) (i : Nat) (hi : i < L.length) : L.take (i + 1) = L.take i ++ [row L i] := by
  rw [List.take_succ_eq_append_getElem (l := L) (i := i) hi]
  unfold row
  rw [List.getD_eq_getElem?_getD, List.getElem?_eq_getElem hi]
  rfl
/-- The rows that are put: at most 140 numbers each. -/
def Ls (l : List (List Int)) (i : Nat) : List Row := (l.take i).map (fun t => t.take 140)
theorem Ls_succ (l : List (List Int)) (i : Nat) (hi : i < l.length) : Ls l (i + 1) = Ls l i ++ [(row l i).take 140] := by
  unfold Ls
  rw [take_row l i hi, List.map_append]
  rfl
theorem Ls_length (l : List (List Int)) (i : Nat) (hi : i ≤ l.length) : (Ls l i).length = i := by
  unfold Ls
  rw [List.length_map, List.length_take, Nat.min_eq_left hi]
end Go.Proofs.Ytfnogcppbhggpaa.OTOrder
