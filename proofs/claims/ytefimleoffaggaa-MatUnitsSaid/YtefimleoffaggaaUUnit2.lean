/- A product with a unit is the matrix itself. -/
import Derived.Test.YtefimleoffaggaaUUnit
import Derived.Test.YtefimleoffaggaaURows3
import Derived.Test.YtefimleoffaggaaUMat
set_option linter.unusedVariables false
namespace Go.Proofs.Ytefimleoffaggaa.U
open Go.RowKit Go.Proofs.YtefimleoffaggaaW.PrintWords Go.Proofs.YtefimleoffaggaaW.PrintLast Go.Proofs.YtefimleoffaggaaW.PrintMore Go.Proofs.Ytefimleoffaggaa.GQ
theorem dots_zeros2 : ∀ (a : List Int) (m : Nat) (s : Int), -9223372036854775807 ≤ s → s ≤ 9223372036854775807 → dots a (List.replicate m 0) s = s := by
  intro a
  induction a with
  | nil => intro m s _ _; rfl
  | cons x a ih =>
    intro m s h1 h2
    cases m with
    | zero => rfl
    | succ m =>
      show dots a (List.replicate m 0) (cl (s + x * 0)) = s
      rw [Int.mul_zero, Int.add_zero, cl_id h1 h2]
      exact ih m s h1 h2
theorem dots_unit2 : ∀ (a : List Int) (n i : Nat) (s : Int), I32 a → a.length = n → i < n → -1000000000000000000 ≤ s → s ≤ 1000000000000000000 → dots a ((List.replicate n (0 : Int)).set i 65536) s = s + rd a (i : Int) * 65536 := by
  intro a
  induction a with
  | nil => intro n i s _ hn hi _ _; simp at hn; omega
  | cons x a ih =>
    intro n i s ha hn hi h1 h2
    obtain ⟨n, rfl⟩ : ∃ m, n = m + 1 := ⟨n - 1, by simp at hn; omega⟩
    have hx := ha x (by simp)
    have ha2 : I32 a := fun y hy => ha y (by simp [hy])
    cases i with
    | zero =>
      show dots a (List.replicate n 0) (cl (s + x * 65536)) = s + rd (x :: a) ((0 : Nat) : Int) * 65536
      rw [rd_nat (by simp), List.getElem_cons_zero, cl_id (by omega) (by omega), dots_zeros2 a n _ (by omega) (by omega)]
    | succ i =>
      show dots a ((List.replicate n (0 : Int)).set i 65536) (cl (s + x * 0)) = s + rd (x :: a) ((i + 1 : Nat) : Int) * 65536
      have hl : a.length = n := by simpa using hn
      rw [Int.mul_zero, Int.add_zero, cl_id (by omega) (by omega), ih n i s ha2 hl (by omega) h1 h2, rd_nat (l := a) (by omega), rd_nat (by simp; omega), List.getElem_cons_succ]
/-- Numbers that are none below the least one. -/
def Fine (d : List Int) : Prop := ∀ x ∈ d, -2147483647 ≤ x ∧ x ≤ 2147483647
theorem Fine.i32 {d : List Int} (h : Fine d) : I32 d := fun x hx => by have := h x hx; omega
def fin (x : Int) : Int := mx x (-2147483647)
theorem fine_map {d : List Int} (h : I32 d) : Fine (d.map fin) := fun x hx => by
  obtain ⟨y, hy, rfl⟩ := List.mem_map.1 hx
  have := h y hy
  unfold fin mx
  split <;> omega
theorem dotv_one {a : List Int} (ha : Fine a) {n i : Nat} (hn : a.length = n) (hi : i < n) : dotv a ((List.replicate n (0 : Int)).set i 65536) = a.getD i 0 := by
  have hr : rd a (i : Int) = a.getD i 0 := by unfold rd; rw [Int.toNat_natCast]
  have hb : -2147483647 ≤ a.getD i 0 ∧ a.getD i 0 ≤ 2147483647 := by
    rw [List.getD_eq_getElem?_getD, List.getElem?_eq_getElem (by omega)]
    exact ha _ (List.getElem_mem _)
  unfold dotv
  rw [dots_unit2 a n i 0 ha.i32 hn hi (by omega) (by omega), Int.zero_add, rnd_mul (by omega), hr]
  unfold sat
  rw [if_neg (by omega), if_neg (by omega)]
theorem list_of_getD {a b : List Int} {n : Nat} (ha : a.length = n) (hb : b.length = n) (h : ∀ k, k < n → a.getD k 0 = b.getD k 0) : a = b := by
  apply List.ext_getElem (by omega)
  intro k h1 h2
  have := h k (by omega)
  rw [List.getD_eq_getElem?_getD, List.getD_eq_getElem?_getD, List.getElem?_eq_getElem h1, List.getElem?_eq_getElem h2] at this
  exact this
theorem rowv_get {d : List Int} {C i k : Nat} (hk : k < C) : (rowv d C i).getD k 0 = d.getD (i * C + k) 0 := by
  unfold rowv
  rw [List.getD_eq_getElem?_getD, List.getElem?_map, List.getElem?_range hk]; rfl
theorem colv_get {d : List Int} {R C j k : Nat} (hk : k < R) : (colv d R C j).getD k 0 = d.getD (k * C + j) 0 := by
  unfold colv
  rw [List.getD_eq_getElem?_getD, List.getElem?_map, List.getElem?_range hk]; rfl
theorem one_get {n j k : Nat} (hk : k < n) (hj : j < n) : ((List.replicate n (0 : Int)).set j 65536).getD k 0 = if j = k then 65536 else 0 := by
  rw [getD_set _ _ _ _ (by simpa using hj)]
  by_cases h : j = k
  · rw [if_pos h, if_pos h]
  · rw [if_neg h, if_neg h, List.getD_eq_getElem?_getD, List.getElem?_replicate, if_pos hk]; rfl
theorem rowv_unit {u : List Int} {n j : Nat} (hu : IsUnit n n u) (hj : j < n) : rowv u n j = (List.replicate n (0 : Int)).set j 65536 := by
  refine list_of_getD (rowv_len ..) (by simp) (fun k hk => ?_)
  rw [rowv_get hk, hu.2 j k hj hk, one_get hk hj]
  by_cases h : j = k
  · rw [if_pos ⟨h, hj⟩, if_pos h]
  · rw [if_neg (fun q => h q.1), if_neg h]
theorem colv_unit {u : List Int} {n j : Nat} (hu : IsUnit n n u) (hj : j < n) : colv u n n j = (List.replicate n (0 : Int)).set j 65536 := by
  refine list_of_getD (colv_len ..) (by simp) (fun k hk => ?_)
  rw [colv_get hk, hu.2 k j hk hj, one_get hk hj]
  by_cases h : j = k
  · subst h; rw [if_pos ⟨rfl, hk⟩, if_pos rfl]
  · rw [if_neg (fun q => h q.1.symm), if_neg h]
theorem Fine.getD {d : List Int} (h : Fine d) (n : Nat) : -2147483647 ≤ d.getD n 0 ∧ d.getD n 0 ≤ 2147483647 := by
  rw [List.getD_eq_getElem?_getD]
  cases e : d[n]? with
  | none => exact ⟨by decide, by decide⟩
  | some x => exact h x (List.mem_of_getElem? e)
theorem rowv_fine {d : List Int} (h : Fine d) (C i : Nat) : Fine (rowv d C i) := fun x hx => by
  obtain ⟨j, _, rfl⟩ := List.mem_map.1 hx
  exact h.getD _
theorem colv_fine {d : List Int} (h : Fine d) (R C j : Nat) : Fine (colv d R C j) := fun x hx => by
  obtain ⟨i, _, rfl⟩ := List.mem_map.1 hx
  exact h.getD _
theorem times_left {u d : List Int} {R C : Nat} (hu : IsUnit R R u) (hd : Fine d) (hl : d.length = R * C) : timesv u R R d R C = d := by
  have key : ∀ i j, i < R → j < C → (timesv u R R d R C).getD (i * C + j) 0 = d.getD (i * C + j) 0 := fun i j hi hj => by
    rw [timesv_get hi hj, rowv_unit hu hi, dotv_one (colv_fine hd R C j) (colv_len ..) hi, colv_get hi]
  refine list_of_getD (timesv_len ..) hl (fun k hk => ?_)
  have hC : 0 < C := by rcases Nat.eq_zero_or_pos C with h | h
                        · rw [h] at hk; omega
                        · exact h
  have h1 : k / C < R := Nat.div_lt_of_lt_mul (by rw [Nat.mul_comm]; exact hk)
  have h2 : k % C < C := Nat.mod_lt _ hC
  have := key (k / C) (k % C) h1 h2
  rwa [show k / C * C + k % C = k by rw [Nat.mul_comm]; exact Nat.div_add_mod k C] at this
theorem times_right {u d : List Int} {R C : Nat} (hu : IsUnit C C u) (hd : Fine d) (hl : d.length = R * C) : timesv d R C u C C = d := by
  have key : ∀ i j, i < R → j < C → (timesv d R C u C C).getD (i * C + j) 0 = d.getD (i * C + j) 0 := fun i j hi hj => by
    rw [timesv_get hi hj, colv_unit hu hj, dotv_comm, dotv_one (rowv_fine hd C i) (rowv_len ..) hj, rowv_get hj]
  refine list_of_getD (timesv_len ..) hl (fun k hk => ?_)
  have hC : 0 < C := by rcases Nat.eq_zero_or_pos C with h | h
                        · rw [h] at hk; omega
                        · exact h
  have h1 : k / C < R := Nat.div_lt_of_lt_mul (by rw [Nat.mul_comm]; exact hk)
  have h2 : k % C < C := Nat.mod_lt _ hC
  have := key (k / C) (k % C) h1 h2
  rwa [show k / C * C + k % C = k by rw [Nat.mul_comm]; exact Nat.div_add_mod k C] at this
theorem apply_one {d : List Int} {R C j : Nat} (hd : Fine d) (hj : j < C) : applyv d R C ((List.replicate C (0 : Int)).set j 65536) = colv d R C j := by
  refine list_of_getD (applyv_len ..) (colv_len ..) (fun k hk => ?_)
  rw [colv_get hk]
  unfold applyv
  rw [List.getD_eq_getElem?_getD, List.getElem?_map, List.getElem?_range hk]
  show dotv (rowv d C k) _ = _
  rw [dotv_one (rowv_fine hd C k) (rowv_len ..) hj, rowv_get hj]
theorem unit_i32 {u : List Int} {n : Nat} (h : IsUnit n n u) : I32 u := fun x hx => by
  obtain ⟨k, hk, rfl⟩ := List.getElem_of_mem hx
  have hk2 : k < n * n := by rw [← h.1]; exact hk
  have hn : 0 < n := by rcases Nat.eq_zero_or_pos n with e | e
                        · rw [e] at hk2; omega
                        · exact e
  have h1 : k / n < n := Nat.div_lt_of_lt_mul hk2
  have h2 : k % n < n := Nat.mod_lt _ hn
  have := h.2 (k / n) (k % n) h1 h2
  rw [show k / n * n + k % n = k by rw [Nat.mul_comm]; exact Nat.div_add_mod k n, List.getD_eq_getElem?_getD, List.getElem?_eq_getElem hk] at this
  rw [show u[k] = _ from this]
  split <;> omega
section
variable {R C j : Nat} {d u : List Int}
theorem unit_at {n : Nat} (h1 : 1 ≤ n) (h2 : n ≤ 128) : ∃ u, mat_Unit.f 200 (n : Int) = some ((n : Int), (n : Int), u, 0) ∧ IsUnit n n u := by
  obtain ⟨u, e, hu⟩ := Unit_eq (k := 200) (n := (n : Int)) (by omega)
  have h0 : unitErr (n : Int) = 0 := by unfold unitErr; rw [if_neg (by omega), if_neg (by omega)]
  obtain ⟨m, hm, _, _, hI⟩ := hu h0
  have : m = n := by omega
  subst this
  exact ⟨u, by rw [e, if_pos h0], hI⟩
theorem unit_chk {n : Nat} (h1 : 1 ≤ n) (h2 : n ≤ 128) (hu : IsUnit n n u) : chkv n n u = 0 := chkv_mk h1 h2 h1 h2 hu.1
theorem Times_left (r1 : 1 ≤ R) (r2 : R ≤ 128) (c1 : 1 ≤ C) (c2 : C ≤ 128) (hu : IsUnit R R u) (hd : Fine d) (hl : d.length = R * C) : mat_Times.f 50000 (R : Int) (R : Int) u (R : Int) (C : Int) d = some ((R : Int), (C : Int), d, 0) := by
  have ht : tchk (R : Int) (R : Int) u (R : Int) (C : Int) d = 0 := by unfold tchk; rw [if_pos (unit_chk r1 r2 hu), if_pos (chkv_mk r1 r2 c1 c2 hl), if_pos rfl]
  rw [Times_eq (unit_i32 hu) hd.i32 (by omega), if_pos ht, Int.toNat_natCast, Int.toNat_natCast, times_left hu hd hl]
theorem Times_right (r1 : 1 ≤ R) (r2 : R ≤ 128) (c1 : 1 ≤ C) (c2 : C ≤ 128) (hu : IsUnit C C u) (hd : Fine d) (hl : d.length = R * C) : mat_Times.f 50000 (R : Int) (C : Int) d (C : Int) (C : Int) u = some ((R : Int), (C : Int), d, 0) := by
  have ht : tchk (R : Int) (C : Int) d (C : Int) (C : Int) u = 0 := by unfold tchk; rw [if_pos (chkv_mk r1 r2 c1 c2 hl), if_pos (unit_chk c1 c2 hu), if_pos rfl]
  rw [Times_eq hd.i32 (unit_i32 hu) (by omega), if_pos ht, Int.toNat_natCast, Int.toNat_natCast, times_right hu hd hl]
theorem Turn_one (r1 : 1 ≤ R) (r2 : R ≤ 128) (c1 : 1 ≤ C) (c2 : C ≤ 128) (hl : d.length = R * C) : mat_Turn.f 50000 (R : Int) (C : Int) d = some ((C : Int), (R : Int), turnv d R C, 0) := by
  rw [Turn_eq (by omega), if_pos (chkv_mk r1 r2 c1 c2 hl), Int.toNat_natCast, Int.toNat_natCast]
theorem Turn_two (r1 : 1 ≤ R) (r2 : R ≤ 128) (c1 : 1 ≤ C) (c2 : C ≤ 128) (hl : d.length = R * C) : mat_Turn.f 50000 (C : Int) (R : Int) (turnv d R C) = some ((R : Int), (C : Int), d, 0) := by
  rw [Turn_eq (by omega), if_pos (chkv_mk c1 c2 r1 r2 (turnv_len ..)), Int.toNat_natCast, Int.toNat_natCast, turn_turn hl]
theorem Row_unit (c1 : 1 ≤ C) (c2 : C ≤ 128) (hu : IsUnit C C u) (hj : j < C) : mat_Row.f 10 (C : Int) (C : Int) u (j : Int) = some ((List.replicate C (0 : Int)).set j 65536, 0) := by
  rw [Row_eq (by omega) (by omega) (by omega), if_pos (unit_chk c1 c2 hu), if_neg (by omega), Int.toNat_natCast, Int.toNat_natCast, rowv_unit hu hj]
theorem Row_turn (r1 : 1 ≤ R) (r2 : R ≤ 128) (c1 : 1 ≤ C) (c2 : C ≤ 128) (hj : j < C) : mat_Row.f 10 (C : Int) (R : Int) (turnv d R C) (j : Int) = some (colv d R C j, 0) := by
  rw [Row_eq (by omega) (by omega) (by omega), if_pos (chkv_mk c1 c2 r1 r2 (turnv_len ..)), if_neg (by omega), Int.toNat_natCast, Int.toNat_natCast, rowv_turn hj]
theorem Apply_unit (r1 : 1 ≤ R) (r2 : R ≤ 128) (c1 : 1 ≤ C) (c2 : C ≤ 128) (hd : Fine d) (hl : d.length = R * C) (hj : j < C) : mat_Apply.f 10000 (R : Int) (C : Int) d ((List.replicate C (0 : Int)).set j 65536) = some (colv d R C j, 0) := by
  have ho : I32 ((List.replicate C (0 : Int)).set j 65536) := fun x hx => by
    rcases List.mem_or_eq_of_mem_set hx with h | h
    · rw [List.eq_of_mem_replicate h]; omega
    · omega
  rw [Apply_eq hd.i32 ho (by omega), if_pos (chkv_mk r1 r2 c1 c2 hl), if_pos (by simp), Int.toNat_natCast, Int.toNat_natCast, apply_one hd hj]
end
end Go.Proofs.Ytefimleoffaggaa.U
