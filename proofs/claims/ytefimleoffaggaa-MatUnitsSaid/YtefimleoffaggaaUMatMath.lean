/- Matrices as plain lists. -/
import Derived.Test.YtefimleoffaggaaUMath
set_option linter.unusedVariables false
namespace Go.Proofs.Ytefimleoffaggaa.U
open Go.RowKit Go.Proofs.YtefimleoffaggaaW.PrintWords Go.Proofs.YtefimleoffaggaaW.PrintMore
theorem idx_lt {i j R C : Nat} (hi : i < R) (hj : j < C) : i * C + j < R * C := by
  have h := Nat.mul_le_mul_right C (show i + 1 ≤ R by omega)
  rw [Nat.succ_mul] at h; omega
theorem mul128 {i C : Nat} (hi : i ≤ 128) (hC : C ≤ 128) : i * C ≤ 16384 := Nat.mul_le_mul hi hC
theorem wmul {i C : Nat} (hi : i ≤ 128) (hC : C ≤ 128) : wrap64 ((i : Int) * (C : Int)) = ((i * C : Nat) : Int) := by
  have := mul128 hi hC
  rw [← Int.natCast_mul, w64 (by omega) (by omega)]
/-- A row, a column, the turned matrix. -/
def rowv (d : List Int) (C i : Nat) : List Int := (List.range C).map fun j => d.getD (i * C + j) 0
def colv (d : List Int) (R C j : Nat) : List Int := (List.range R).map fun i => d.getD (i * C + j) 0
def turnv (d : List Int) (R C : Nat) : List Int := (List.range C).flatMap fun j => colv d R C j
/-- The matrix times a column; the product of two. -/
def applyv (d : List Int) (R C : Nat) (v : List Int) : List Int := (List.range R).map fun i => dotv (rowv d C i) v
def timesv (a : List Int) (Ra Ca : Nat) (b : List Int) (Rb Cb : Nat) : List Int := (List.range Ra).flatMap fun i => applyv (turnv b Rb Cb) Cb Rb (rowv a Ca i)
theorem rowv_len (d : List Int) (C i : Nat) : (rowv d C i).length = C := by simp [rowv]
theorem colv_len (d : List Int) (R C j : Nat) : (colv d R C j).length = R := by simp [colv]
theorem applyv_len (d : List Int) (R C : Nat) (v : List Int) : (applyv d R C v).length = R := by simp [applyv]
theorem flat_len (f : Nat → List Int) (n : Nat) (h : ∀ j, (f j).length = n) : ∀ m, ((List.range m).flatMap f).length = m * n
  | 0 => by simp
  | m + 1 => by rw [List.range_succ, List.flatMap_append, List.length_append, flat_len f n h m]; simp [h, Nat.succ_mul]
theorem flat_get (f : Nat → List Int) (n : Nat) (h : ∀ j, (f j).length = n) : ∀ m j i, j < m → i < n → ((List.range m).flatMap f).getD (j * n + i) 0 = (f j).getD i 0
  | 0, j, i, hj, _ => by omega
  | m + 1, j, i, hj, hi => by
    rw [List.range_succ, List.flatMap_append]
    have hl := flat_len f n h m
    by_cases e : j < m
    · have := idx_lt e hi
      rw [List.getD_eq_getElem?_getD, List.getElem?_append_left (by omega), ← List.getD_eq_getElem?_getD]
      exact flat_get f n h m j i e hi
    · have : j = m := by omega
      subst this
      rw [List.getD_eq_getElem?_getD, List.getElem?_append_right (by omega), hl, Nat.add_sub_cancel_left, ← List.getD_eq_getElem?_getD]
      simp
theorem turnv_len (d : List Int) (R C : Nat) : (turnv d R C).length = C * R := flat_len _ _ (fun j => colv_len d R C j) C
theorem turnv_get {d : List Int} {R C i j : Nat} (hi : i < R) (hj : j < C) : (turnv d R C).getD (j * R + i) 0 = d.getD (i * C + j) 0 := by
  unfold turnv
  rw [flat_get _ R (fun j => colv_len d R C j) C j i hj hi]
  unfold colv
  rw [List.getD_eq_getElem?_getD, List.getElem?_eq_getElem (by simpa using hi)]
  simp
theorem rowv_turn {d : List Int} {R C j : Nat} (hj : j < C) : rowv (turnv d R C) R j = colv d R C j := by
  unfold rowv colv
  exact List.map_congr_left fun i hi => turnv_get (List.mem_range.1 hi) hj
theorem colv_turn {d : List Int} {R C i : Nat} (hi : i < R) : colv (turnv d R C) C R i = rowv d C i := by
  unfold rowv colv
  exact List.map_congr_left fun j hj => turnv_get hi (List.mem_range.1 hj)
theorem timesv_len (a : List Int) (Ra Ca : Nat) (b : List Int) (Rb Cb : Nat) : (timesv a Ra Ca b Rb Cb).length = Ra * Cb := flat_len _ _ (fun _ => applyv_len ..) Ra
theorem timesv_get {a b : List Int} {Ra Ca Rb Cb i j : Nat} (hi : i < Ra) (hj : j < Cb) : (timesv a Ra Ca b Rb Cb).getD (i * Cb + j) 0 = dotv (colv b Rb Cb j) (rowv a Ca i) := by
  unfold timesv
  rw [flat_get _ Cb (fun _ => applyv_len ..) Ra i j hi hj]
  unfold applyv
  rw [List.getD_eq_getElem?_getD, List.getElem?_eq_getElem (by simpa using hj)]
  simp [rowv_turn hj]
/-- A product that is turned. -/
theorem turn_times {a b : List Int} {Ra Ca Rb Cb : Nat} (h : Ca = Rb) : timesv (turnv b Rb Cb) Cb Rb (turnv a Ra Ca) Ca Ra = turnv (timesv a Ra Ca b Rb Cb) Ra Cb := by
  subst h
  show (List.range Cb).flatMap _ = (List.range Cb).flatMap _
  rw [List.flatMap_def, List.flatMap_def]
  congr 1
  refine List.map_congr_left fun j hj => ?_
  have hj := List.mem_range.1 hj
  unfold applyv
  show _ = colv _ _ _ _
  unfold colv
  refine List.map_congr_left fun i hi => ?_
  have hi := List.mem_range.1 hi
  rw [timesv_get hi hj, rowv_turn hj, rowv_turn hi, colv_turn hi, dotv_comm]
theorem turn_turn {d : List Int} {R C : Nat} (hl : d.length = R * C) : turnv (turnv d R C) C R = d := by
  apply List.ext_getElem
  · rw [turnv_len, hl]
  · intro n h1 h2
    have hC : 0 < C := by
      rcases Nat.eq_zero_or_pos C with h | h
      · rw [h] at hl; simp at hl; rw [hl] at h2; simp at h2
      · exact h
    have hd := Nat.div_add_mod n C
    have hm := Nat.mod_lt n hC
    have hq : n / C < R := by
      apply Nat.div_lt_of_lt_mul
      rw [Nat.mul_comm]; omega
    have e : n = (n / C) * C + n % C := by rw [Nat.mul_comm]; omega
    have g1 := turnv_get (d := turnv d R C) (R := C) (C := R) (i := n % C) (j := n / C) hm hq
    rw [turnv_get hq hm, ← e] at g1
    rw [List.getD_eq_getElem?_getD, List.getElem?_eq_getElem h1, List.getD_eq_getElem?_getD, List.getElem?_eq_getElem h2] at g1
    exact g1
theorem row_cut {d : List Int} {R C i : Nat} (hl : d.length = R * C) (hi : i < R) : (d.take ((i + 1) * C)).drop (i * C) = rowv d C i := by
  have h3 := Nat.mul_le_mul_right C (show i + 1 ≤ R by omega)
  have h4 : (i + 1) * C = i * C + C := by rw [Nat.add_mul, Nat.one_mul]
  apply List.ext_getElem
  · rw [List.length_drop, List.length_take, rowv_len]; omega
  · intro n h1 h2
    rw [rowv_len] at h2
    rw [List.getElem_drop, List.getElem_take]
    simp only [rowv, List.getElem_map, List.getElem_range]
    rw [List.getD_eq_getElem?_getD, List.getElem?_eq_getElem (by omega)]
    rfl
theorem I32.getD {d : List Int} (h : I32 d) (n : Nat) : -2147483648 ≤ d.getD n 0 ∧ d.getD n 0 ≤ 2147483647 := by
  rw [List.getD_eq_getElem?_getD]
  by_cases hn : n < d.length
  · rw [List.getElem?_eq_getElem hn]; exact h.get hn
  · rw [List.getElem?_eq_none (by omega)]; simp
theorem rowv_i32 {d : List Int} (h : I32 d) (C i : Nat) : I32 (rowv d C i) := fun x hx => by
  obtain ⟨j, _, rfl⟩ := List.mem_map.1 hx; exact h.getD _
theorem colv_i32 {d : List Int} (h : I32 d) (R C j : Nat) : I32 (colv d R C j) := fun x hx => by
  obtain ⟨i, _, rfl⟩ := List.mem_map.1 hx; exact h.getD _
theorem turnv_i32 {d : List Int} (h : I32 d) (R C : Nat) : I32 (turnv d R C) := fun x hx => by
  obtain ⟨j, _, hx⟩ := List.mem_flatMap.1 hx; exact colv_i32 h R C j x hx
theorem applyv_i32 (d : List Int) (R C : Nat) (v : List Int) : I32 (applyv d R C v) := fun x hx => by
  obtain ⟨i, _, rfl⟩ := List.mem_map.1 hx
  have := sat_bound (rnd (dots (rowv d C i) v 0) 65536)
  unfold dotv; omega
theorem timesv_i32 (a : List Int) (Ra Ca : Nat) (b : List Int) (Rb Cb : Nat) : I32 (timesv a Ra Ca b Rb Cb) := fun x hx => by
  obtain ⟨i, _, hx⟩ := List.mem_flatMap.1 hx; exact applyv_i32 _ _ _ _ x hx
/-- A matrix's error. -/
def chkv (a b : Int) (d : List Int) : Int := if a < 1 ∨ b < 1 then 1 else if a > 128 ∨ b > 128 then 2 else if (d.length : Int) = a * b then 0 else 6
theorem chkv_ok {a b : Int} {d : List Int} (h : chkv a b d = 0) : ∃ R C : Nat, a = R ∧ b = C ∧ 1 ≤ R ∧ R ≤ 128 ∧ 1 ≤ C ∧ C ≤ 128 ∧ d.length = R * C := by
  unfold chkv at h
  split at h
  · cases h
  · split at h
    · cases h
    · split at h
      · rename_i h1 h2 h3
        refine ⟨a.toNat, b.toNat, by omega, by omega, by omega, by omega, by omega, by omega, ?_⟩
        have e1 : a = (a.toNat : Int) := by omega
        have e2 : b = (b.toNat : Int) := by omega
        rw [e1, e2, ← Int.natCast_mul] at h3
        omega
      · cases h
theorem chkv_mk {R C : Nat} {d : List Int} (h1 : 1 ≤ R) (h2 : R ≤ 128) (h3 : 1 ≤ C) (h4 : C ≤ 128) (hl : d.length = R * C) : chkv R C d = 0 := by
  unfold chkv
  rw [if_neg (by omega), if_neg (by omega), if_pos (by rw [← Int.natCast_mul, hl])]
end Go.Proofs.Ytefimleoffaggaa.U
