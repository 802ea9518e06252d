/- Layer 2's powers over the table of steps, walked by hand. -/
import Derived.Test.YtnhapgenebcjmaaGSteps
import Derived.Outline
set_option linter.unusedVariables false
set_option linter.unusedSimpArgs false
namespace Go.Proofs.Ytnhapgenebcjmaa.GCurve
open Go.RowKit Go.Proofs.YtnhapgenebcjmaaW.PrintWords Go.Proofs.YtnhapgenebcjmaaW.PrintLast Go.Proofs.YtnhapgenebcjmaaW.PrintMore
attribute [local go_sem] max2_int min2_int max_two min_two max_three min_three max_four min_four
/-- The step at a place. -/
def stepAt (i : Int) : Int := rd stepsL i
theorem step_cell (W : World) (i : Int) (h0 : 0 ≤ i) (h1 : i < 65) : (W.alloc (.cells stepsA 63)).cell? ⟨W.heap.size, i.toNat, none⟩ = some (.int .i32 (stepAt i)) := by
  rw [cell_of_row _ _ _ _ _ _ (heap_alloc_new W _)]
  have hl : stepsL.length = 65 := rfl
  unfold stepsA stepAt rd
  rw [List.getElem?_toArray, List.getElem?_map, List.getD_eq_getElem?_getD, List.getElem?_eq_getElem (by omega)]
  rfl
/-- curve.Pow, as the program reckons it. -/
def powv (y p q : Int) : Int := stepAt p - ((stepAt p - stepAt (p + 1)) * q + 512) / 1024
def powf (y : Int) : Int := powv y (y / 1024 % 64) (y % 1024) / 2 ^ (mn (y / 65536) 62).toNat
def curve_Pow.f (a0 : Int) : Option Int := if -2147483648 ≤ a0 ∧ a0 ≤ 2147483647 then some (powf (-(mn a0 0))) else none
theorem steps_ok : ∀ i : Nat, i < 65 → 32768 ≤ stepAt i ∧ stepAt i ≤ 65536 ∧ (i < 64 → stepAt ((i : Int) + 1) ≤ stepAt i) := by decide +kernel
theorem step_ok (i : Int) (h0 : 0 ≤ i) (h1 : i < 65) : 32768 ≤ stepAt i ∧ stepAt i ≤ 65536 := by
  obtain ⟨n, rfl⟩ := Int.eq_ofNat_of_zero_le h0
  have := steps_ok n (by omega)
  exact ⟨this.1, this.2.1⟩
theorem step_fall (i : Int) (h0 : 0 ≤ i) (h1 : i < 64) : stepAt (i + 1) ≤ stepAt i := by
  obtain ⟨n, rfl⟩ := Int.eq_ofNat_of_zero_le h0
  exact (steps_ok n (by omega)).2.2 (by omega)
theorem idx_steps (b : Nat) (i : Int) (h0 : 0 ≤ i) (h1 : i < 65) (W : World) : (Instr.indexAt 63 (.pointer (some ⟨b, 0, none⟩)) (.int .i64 i)).run Try.prog W = .ok (.pointer (some ⟨b, i.toNat, none⟩)) W := by
  have hl : Try.prog.arrayLen 63 = 65 := by kernel_rfl
  have he : Try.prog.elem 63 = 22 := by kernel_rfl
  have hc : Try.prog.cellsOf 22 = 1 := by kernel_rfl
  rw [run_indexAt_array (P := Try.prog) W 63 ⟨b, 0, none⟩ .i64 i (by rw [hl, he]; exact Try.underlying63)]
  simp [hl, he, hc, h0, h1, Addr.add]
  omega
theorem wraps62 (n : Int) (h0 : 0 ≤ n) (h1 : n < 2 ^ 62) : IntKind.i64.wrap n = n := by
  have : (2 : Int) ^ 62 = 4611686018427387904 := by decide
  rw [IntKind.wrap_i64]; omega
theorem and63 (x : Int) (h0 : 0 ≤ x) (h1 : x ≤ 2147483648) : bits .and .i64 x 63 = x % 64 := bits_mask .i64 62 (by decide) wraps62 6 (by decide) x h0 (by omega)
theorem and1023 (x : Int) (h0 : 0 ≤ x) (h1 : x ≤ 2147483648) : bits .and .i64 x 1023 = x % 1024 := bits_mask .i64 62 (by decide) wraps62 10 (by decide) x h0 (by omega)
theorem powv_ok (y p q : Int) (p0 : 0 ≤ p) (p1 : p < 64) (q0 : 0 ≤ q) (q1 : q ≤ 1023) : 0 ≤ (stepAt p - stepAt (p + 1)) * q ∧ (stepAt p - stepAt (p + 1)) * q ≤ 65536 * 1023 ∧ stepAt (p + 1) ≤ powv y p q ∧ powv y p q ≤ stepAt p := by
  have h1 := step_ok p p0 (by omega)
  have h2 := step_ok (p + 1) (by omega) (by omega)
  have h3 := step_fall p p0 p1
  have m0 : 0 ≤ (stepAt p - stepAt (p + 1)) * q := Int.mul_nonneg (by omega) q0
  have m1 : (stepAt p - stepAt (p + 1)) * q ≤ (stepAt p - stepAt (p + 1)) * 1023 := Int.mul_le_mul_of_nonneg_left q1 (by omega)
  unfold powv
  generalize (stepAt p - stepAt (p + 1)) * q = z at *
  omega
theorem shr_ok (v : Int) (s : Nat) (h0 : 0 ≤ v) : 0 ≤ v / 2 ^ s ∧ v / 2 ^ s ≤ v := ⟨Int.ediv_nonneg h0 (Int.le_of_lt (Int.pow_pos (by omega))), Int.ediv_le_self _ h0⟩
set_option maxHeartbeats 1000000 in
set_option maxRecDepth 100000 in
theorem curve_Pow.calls (a0 : Int) (r : Int) (w : World) (h : curve_Pow.f a0 = some r) : Calls Try.prog 28 #[.int .i32 a0] w fun e w' => e = .returned (.int .i32 r) ∧ Below w.heap.size w w' := by
  have hz := zero_steps
  obtain ⟨m, hm⟩ : ∃ m, mn a0 0 = m := ⟨_, rfl⟩
  have hb : -2147483648 ≤ a0 ∧ a0 ≤ 2147483647 := by
    unfold curve_Pow.f at h
    split at h
    · assumption
    · cases h
  have hr : powf (-m) = r := by
    unfold curve_Pow.f at h
    rw [if_pos hb, hm] at h
    exact Option.some.inj h
  have hm1 : m ≤ 0 := by rw [← hm]; unfold mn; split <;> omega
  have hm2 : -2147483648 ≤ m := by rw [← hm]; unfold mn; split <;> omega
  have hm_ : (if 0 < a0 then 0 else a0) = m := hm
  have hb1 := hb.1
  have hb2 := hb.2
  clear hm hb h
  obtain ⟨p, hp⟩ : ∃ p, -m / 1024 % 64 = p := ⟨_, rfl⟩
  obtain ⟨q, hq⟩ : ∃ q, -m % 1024 = q := ⟨_, rfl⟩
  have p0 : 0 ≤ p := by omega
  have p1 : p < 64 := by omega
  have q0 : 0 ≤ q := by omega
  have q1 : q ≤ 1023 := by omega
  have hpq := powv_ok (-m) p q p0 p1 q0 q1
  have k1 := step_ok p p0 (by omega)
  have k2 := step_ok (p + 1) (by omega) (by omega)
  obtain ⟨s, hs⟩ : ∃ s, mn (-m / 65536) 62 = s := ⟨_, rfl⟩
  have s0 : 0 ≤ s := by rw [← hs]; unfold mn; split <;> omega
  have s1 : s ≤ 62 := by rw [← hs]; unfold mn; split <;> omega
  have hs_ : (if 62 < -m / 65536 then 62 else -m / 65536) = s := hs
  have hr2 : powv (-m) p q / 2 ^ s.toNat = r := by rw [← hr]; unfold powf; rw [hp, hq, hs]
  have ha : bits .and .i64 (-m / 1024) 63 = p := by rw [and63 _ (by omega) (by omega), hp]
  have hb : bits .and .i64 (-m) 1023 = q := by rw [and1023 _ (by omega) (by omega), hq]
  have hsh := shr_ok (powv (-m) p q) s.toNat (by omega)
  rw [hr2] at hsh
  have r0 : 0 ≤ r := hsh.1
  have r1 : r ≤ 65536 := by omega
  unfold powv at hr2 hpq
  obtain ⟨A, hA⟩ : ∃ A, stepAt p = A := ⟨_, rfl⟩
  obtain ⟨B, hB⟩ : ∃ B, stepAt (p + 1) = B := ⟨_, rfl⟩
  have cell1 : ∀ W : World, (W.alloc (.cells stepsA 63)).cell? ⟨W.heap.size, p.toNat, none⟩ = some (.int .i32 A) := fun W => by rw [← hA]; exact step_cell W p p0 (by omega)
  have cell2 : ∀ W : World, (W.alloc (.cells stepsA 63)).cell? ⟨W.heap.size, (p + 1).toNat, none⟩ = some (.int .i32 B) := fun W => by rw [← hB]; exact step_cell W (p + 1) (by omega) (by omega)
  rw [hA, hB] at hpq hr2
  rw [hA] at k1
  rw [hB] at k2
  obtain ⟨V, hV⟩ : ∃ V, (A - B) * q = V := ⟨_, rfl⟩
  rw [hV] at hpq hr2
  have v0 := hpq.1
  have v1 := hpq.2.1
  have v2 := hpq.2.2.1
  have v3 := hpq.2.2.2
  have a1 := k1.1
  have a2 := k1.2
  have b1 := k2.1
  have b2 := k2.2
  have h65 : p + 1 < 65 := by omega
  clear hpq hsh k1 k2 hA hB hs hp hq hr
  have e1 := eq_true p0
  have e2 : (p < 65) = True := eq_true (by omega)
  have e3 : (0 ≤ p + 1) = True := eq_true (by omega)
  have e4 : (p + 1 < 65) = True := eq_true h65
  have f1 : decide (0 ≤ p) = true := decide_eq_true p0
  have f2 : decide (p < 65) = true := decide_eq_true (by omega)
  have f3 : decide (0 ≤ p + 1) = true := decide_eq_true (by omega)
  have f4 : decide (p + 1 < 65) = true := decide_eq_true h65
  have i1 := fun b => idx_steps b p p0 (by omega)
  have i2 := fun b => idx_steps b (p + 1) (by omega) h65
  have hu1 := Try.underlying63
  go_enter Try.func28, Try.ntmps28
  go_wp2_with (first | (go_at_call 36; refine (curve_Steps.calls _).mono ?_; rintro e w1 ⟨rfl, hb1⟩; have c1 := cell1 w1; have c2 := cell2 w1; clear cell1 cell2) | (refine wpList_store_new rfl 63 _ _ rfl zeroA stepsA rfl rfl info_steps rfl one_steps ?_))
  rw [show ∀ a : Act, a.put none undef = a from fun _ => rfl]
  go_quiet (fail)
  go_wp2
  go_ret
  exact ⟨rfl, pw_below_drewN (below_alloc hb1 _) _⟩
end Go.Proofs.Ytnhapgenebcjmaa.GCurve
