/- told, Same, Begins: plain. -/
import Derived.Test.YtfnogcppbhggpaaUTrie
import Derived.Test.YtfnogcppbhggpaaGQx10
import Derived.Test.YtfnogcppbhggpaaGQx11
import Derived.Test.YtfnogcppbhggpaaGQx12
set_option linter.unusedVariables false
set_option linter.unusedSimpArgs false
namespace Go.Proofs.Ytfnogcppbhggpaa.UTold
open Go.RowKit Go.Proofs.YtfnogcppbhggpaaW.PrintWords Go.Proofs.Ytfnogcppbhggpaa.GQ Go.Proofs.Ytfnogcppbhggpaa.UTrie
abbrev toS (e : Ent) : S44 := ⟨e.1, e.2⟩
abbrev toT (e : Ent) : S49 := ⟨e.1, e.2⟩
def eAt0 (l : List Ent) (i : Nat) : Ent := l.getD i ([], 0)
theorem wr64 {x : Int} (h1 : -9223372036854775808 ≤ x) (h2 : x ≤ 9223372036854775807) : wrap64 x = x := by unfold wrap64; omega
theorem rdS (l : List Ent) (i : Nat) (h : i < l.length) : rd_T44 (l.map toS) (i : Int) = toS (eAt0 l i) := by
  unfold rd_T44 eAt0
  rw [Int.toNat_natCast, List.getD_eq_getElem?_getD, List.getD_eq_getElem?_getD, List.getElem?_map, List.getElem?_eq_getElem h]
  rfl
theorem rdT (l : List Ent) (i : Nat) (h : i < l.length) : rd_T49 (l.map toT) (i : Int) = toT (eAt0 l i) := by
  unfold rd_T49 eAt0
  rw [Int.toNat_natCast, List.getD_eq_getElem?_getD, List.getD_eq_getElem?_getD, List.getElem?_map, List.getElem?_eq_getElem h]
  rfl
theorem takeE0 (l : List Ent) (i : Nat) (hi : i < l.length) : l.take (i + 1) = l.take i ++ [eAt0 l i] := by
  rw [List.take_succ_eq_append_getElem (l := l) (i := i) hi]
  unfold eAt0
  rw [List.getD_eq_getElem?_getD, List.getElem?_eq_getElem hi]
  rfl
theorem told_loop (l : List Ent) (hl : l.length ≤ 1000000) : ∀ (d i k : Nat), l.length - i = d → i ≤ l.length → d < k → tillerlaw13_told.l0 k ((l.take i).map toT) (l.map toS) (l.length : Int) (i : Int) = some (l.map toT) := by
  intro d
  induction d with
  | zero =>
    intro i k hd hi hk
    obtain ⟨k, rfl⟩ : ∃ m, k = m + 1 := ⟨k - 1, by omega⟩
    simp only [tillerlaw13_told.l0]
    rw [if_neg (by omega), List.take_of_length_le (by omega)]
  | succ d ih =>
    intro i k hd hi hk
    obtain ⟨k, rfl⟩ : ∃ m, k = m + 1 := ⟨k - 1, by omega⟩
    have hlt : i < l.length := by omega
    have next := ih (i + 1) k (by omega) (by omega) (by omega)
    simp only [tillerlaw13_told.l0]
    rw [if_pos (by omega), if_pos (by omega), if_pos (by rw [List.length_map]; omega), if_pos (by rw [List.length_map, List.length_take]; omega), rdS l i hlt, wr64 (by omega) (by omega), ← Int.natCast_one, ← Int.natCast_add]
    rw [takeE0 l i hlt, List.map_append] at next
    exact next
theorem told_eq (l : List Ent) (hl : l.length ≤ 1000000) : tillerlaw13_told.f (l.length + 1) (l.map toS) = some (l.map toT) := by
  unfold tillerlaw13_told.f
  rw [List.length_map]
  exact told_loop l hl l.length 0 _ (by omega) (by omega) (by omega)
theorem begins_loop (t : List Int) (ht : t.length ≤ 1000000) : ∀ (d i k : Nat), t.length - i = d → i ≤ t.length → d < k → tillerref13_Begins.l0 k t t (t.length : Int) (i : Int) = some true := by
  intro d
  induction d with
  | zero =>
    intro i k hd hi hk
    obtain ⟨k, rfl⟩ : ∃ m, k = m + 1 := ⟨k - 1, by omega⟩
    simp only [tillerref13_Begins.l0]
    rw [if_neg (by omega)]
  | succ d ih =>
    intro i k hd hi hk
    obtain ⟨k, rfl⟩ : ∃ m, k = m + 1 := ⟨k - 1, by omega⟩
    have next := ih (i + 1) k (by omega) (by omega) (by omega)
    simp only [tillerref13_Begins.l0]
    rw [if_pos (by omega), if_pos (by omega), if_pos (by omega), if_pos (by omega), if_pos trivial, wr64 (by omega) (by omega), ← Int.natCast_one, ← Int.natCast_add]
    exact next
theorem begins_refl (t : List Int) (ht : t.length ≤ 1000000) (k : Nat) (hk : t.length < k) : tillerref13_Begins.f k t t = some true := by
  unfold tillerref13_Begins.f
  rw [if_neg (by omega)]
  exact begins_loop t ht t.length 0 k (by omega) (by omega) (by omega)
theorem same_loop (l : List Ent) (B : Nat) (hl : l.length ≤ 1000000) (hB : ∀ e ∈ l, e.1.length < B) (hB2 : B ≤ 1000000) : ∀ (d i k : Nat), l.length - i = d → i ≤ l.length → d + B < k → tillerref13_Same.l0 k (l.map toT) (l.map toT) (l.length : Int) (i : Int) = some true := by
  intro d
  induction d with
  | zero =>
    intro i k hd hi hk
    obtain ⟨k, rfl⟩ : ∃ m, k = m + 1 := ⟨k - 1, by omega⟩
    simp only [tillerref13_Same.l0]
    rw [if_neg (by omega)]
  | succ d ih =>
    intro i k hd hi hk
    obtain ⟨k, rfl⟩ : ∃ m, k = m + 1 := ⟨k - 1, by omega⟩
    have hlt : i < l.length := by omega
    have next := ih (i + 1) k (by omega) (by omega) (by omega)
    have hm : eAt0 l i ∈ l := by
      unfold eAt0
      rw [List.getD_eq_getElem?_getD, List.getElem?_eq_getElem hlt]
      exact List.getElem_mem hlt
    have hb : (toT (eAt0 l i)).f0.length < B := hB _ hm
    simp only [tillerref13_Same.l0]
    rw [if_pos (by omega), if_pos (by omega), if_pos (by rw [List.length_map]; omega), if_pos (by rw [List.length_map]; omega), if_pos trivial, if_pos trivial, rdT l i hlt, begins_refl _ (by omega) k (by omega), Option.bind_some, if_pos rfl, wr64 (by omega) (by omega), ← Int.natCast_one, ← Int.natCast_add]
    exact next
theorem same_eq (l : List Ent) (B : Nat) (hl : l.length ≤ 1000000) (hB : ∀ e ∈ l, e.1.length < B) (hB2 : B ≤ 1000000) : tillerref13_Same.f (l.length + B + 1) (l.map toT) (l.map toT) = some true := by
  unfold tillerref13_Same.f
  rw [if_pos rfl, List.length_map]
  exact same_loop l B hl hB hB2 l.length 0 _ (by omega) (by omega) (by omega)
end Go.Proofs.Ytfnogcppbhggpaa.UTold
