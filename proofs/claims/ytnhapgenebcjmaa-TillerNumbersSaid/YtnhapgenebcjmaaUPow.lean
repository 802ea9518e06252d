/- Layer 2's powers: they never fall with the number, and halve with each whole step down. -/
import Derived.Test.YtnhapgenebcjmaaGCurve
import Derived.Test.YtnhapgenebcjmaaUMath
set_option linter.unusedVariables false
set_option linter.unusedSimpArgs false
namespace Go.Proofs.Ytnhapgenebcjmaa.U
open Go.RowKit Go.Proofs.YtnhapgenebcjmaaW.PrintWords Go.Proofs.YtnhapgenebcjmaaW.PrintLast Go.Proofs.YtnhapgenebcjmaaW.PrintMore Go.Proofs.Ytnhapgenebcjmaa.GCurve
/-- The value at a part of a whole step. -/
def pv (y : Int) : Int := powv y (y / 1024 % 64) (y % 1024)
theorem pv_parts (y : Int) : 0 ≤ y / 1024 % 64 ∧ y / 1024 % 64 < 64 ∧ 0 ≤ y % 1024 ∧ y % 1024 ≤ 1023 := by omega
theorem pv_bound (y : Int) : 32768 ≤ pv y ∧ pv y ≤ 65536 := by
  obtain ⟨p0, p1, q0, q1⟩ := pv_parts y
  have h := powv_ok y _ _ p0 p1 q0 q1
  have a := step_ok (y / 1024 % 64) p0 (by omega)
  have b := step_ok (y / 1024 % 64 + 1) (by omega) (by omega)
  unfold pv
  omega
theorem step_anti : ∀ n : Nat, ∀ i : Int, 0 ≤ i → i + n ≤ 64 → stepAt (i + n) ≤ stepAt i := by
  intro n
  induction n with
  | zero => intro i h0 h1; rw [show i + ((0 : Nat) : Int) = i by omega]; exact Int.le_refl _
  | succ n ih =>
    intro i h0 h1
    have a := ih i h0 (by omega)
    have b := step_fall (i + n) (by omega) (by omega)
    rw [show i + ((n + 1 : Nat) : Int) = i + n + 1 by omega]
    omega
theorem step_le (i j : Int) (h0 : 0 ≤ i) (h : i ≤ j) (h1 : j ≤ 64) : stepAt j ≤ stepAt i := by
  have := step_anti (j - i).toNat i h0 (by omega)
  rwa [show i + ((j - i).toNat : Int) = j by omega] at this
/-- Inside one whole step the value never rises. -/
theorem pv_mono (y z : Int) (h0 : 0 ≤ y) (h : y ≤ z) (hs : y / 65536 = z / 65536) : pv z ≤ pv y := by
  obtain ⟨p0, p1, q0, q1⟩ := pv_parts y
  obtain ⟨r0, r1, s0, s1⟩ := pv_parts z
  have hy := powv_ok y _ _ p0 p1 q0 q1
  have hz := powv_ok z _ _ r0 r1 s0 s1
  unfold pv
  by_cases he : y / 1024 % 64 = z / 1024 % 64
  · rw [← he] at hz ⊢
    have hq : y % 1024 ≤ z % 1024 := by omega
    have hf := step_fall (y / 1024 % 64) p0 p1
    have hm := Int.mul_le_mul_of_nonneg_left hq (show 0 ≤ stepAt (y / 1024 % 64) - stepAt (y / 1024 % 64 + 1) by omega)
    unfold powv
    generalize (stepAt (y / 1024 % 64) - stepAt (y / 1024 % 64 + 1)) * (y % 1024) = a at hm ⊢
    generalize (stepAt (y / 1024 % 64) - stepAt (y / 1024 % 64 + 1)) * (z % 1024) = b at hm ⊢
    omega
  · have hl : y / 1024 % 64 + 1 ≤ z / 1024 % 64 := by omega
    have := step_le _ _ (by omega) hl (by omega)
    omega
/-- The count of halvings. -/
def hv (y : Int) : Nat := (mn (y / 65536) 62).toNat
theorem hv_eq (y : Int) (h0 : 0 ≤ y) : hv y = min (y / 65536).toNat 62 := by unfold hv mn; split <;> omega
theorem powf_eq (y : Int) : powf y = pv y / 2 ^ hv y := rfl
theorem two_pow_pos (n : Nat) : (0 : Int) < 2 ^ n := Int.pow_pos (by omega)
theorem div_pow_succ (v : Int) (n : Nat) : v / 2 ^ (n + 1) = v / 2 ^ n / 2 := by
  rw [Int.pow_succ, Int.ediv_ediv_of_nonneg (Int.le_of_lt (two_pow_pos n))]
theorem div_pow_anti (v : Int) (h : 0 ≤ v) (n m : Nat) : v / 2 ^ (n + m) ≤ v / 2 ^ n := by
  induction m with
  | zero => exact Int.le_refl _
  | succ m ih =>
    rw [← Nat.add_assoc, div_pow_succ]
    have : 0 ≤ v / 2 ^ (n + m) := Int.ediv_nonneg h (Int.le_of_lt (two_pow_pos _))
    omega
theorem div_pow_zero (v : Int) (h0 : 0 ≤ v) (h : v ≤ 65536) (n : Nat) (hn : 17 ≤ n) : v / 2 ^ n = 0 := by
  have a := div_pow_anti v h0 17 (n - 17)
  rw [show 17 + (n - 17) = n by omega] at a
  have b : v / 2 ^ 17 = 0 := by
    have : (2 : Int) ^ 17 = 131072 := by decide
    rw [this]; omega
  have : 0 ≤ v / 2 ^ n := Int.ediv_nonneg h0 (Int.le_of_lt (two_pow_pos _))
  omega
theorem powf_bound (y : Int) : 0 ≤ powf y ∧ powf y ≤ 65536 := by
  have h := pv_bound y
  rw [powf_eq]
  have a := div_pow_anti (pv y) (by omega) 0 (hv y)
  rw [Nat.zero_add, Int.pow_zero, Int.ediv_one] at a
  exact ⟨Int.ediv_nonneg (by omega) (Int.le_of_lt (two_pow_pos _)), by omega⟩
/-- Powers never fall: the farther below nought, the less. -/
theorem powf_mono (y z : Int) (h0 : 0 ≤ y) (h : y ≤ z) : powf z ≤ powf y := by
  have by_ := pv_bound y
  have bz := pv_bound z
  rw [powf_eq, powf_eq]
  by_cases hs : y / 65536 = z / 65536
  · have : hv z = hv y := by unfold hv; rw [hs]
    rw [this]
    exact Int.ediv_le_ediv (two_pow_pos _) (pv_mono y z h0 h hs)
  · have hy := hv_eq y h0
    have hz := hv_eq z (by omega)
    by_cases hc : 62 ≤ y / 65536
    · have ey : hv y = 62 := by omega
      have ez : hv z = 62 := by omega
      rw [ey, ez, div_pow_zero _ (by omega) bz.2 62 (by omega), div_pow_zero _ (by omega) by_.2 62 (by omega)]
      exact Int.le_refl _
    · have hl : hv y + 1 ≤ hv z := by omega
      have a := div_pow_anti (pv z) (by omega) (hv y + 1) (hv z - (hv y + 1))
      rw [show hv y + 1 + (hv z - (hv y + 1)) = hv z by omega] at a
      have b : pv z / 2 ^ (hv y + 1) ≤ pv y / 2 ^ hv y := by
        rw [Nat.add_comm, Int.pow_add, ← Int.ediv_ediv_of_nonneg (by decide)]
        exact Int.ediv_le_ediv (two_pow_pos _) (by rw [show (2 : Int) ^ 1 = 2 by decide]; omega)
      omega
/-- One whole step down: a half. -/
theorem powf_step (y : Int) (h0 : 0 ≤ y) : powf (y + 65536) = powf y / 2 := by
  have hp : pv (y + 65536) = pv y := by
    unfold pv
    rw [show (y + 65536) / 1024 % 64 = y / 1024 % 64 by omega, show (y + 65536) % 1024 = y % 1024 by omega]
    rfl
  have b := pv_bound y
  have hy := hv_eq y h0
  have hz := hv_eq (y + 65536) (by omega)
  rw [powf_eq, powf_eq, hp]
  by_cases hc : 62 ≤ y / 65536
  · have ey : hv y = 62 := by omega
    have ez : hv (y + 65536) = 62 := by omega
    rw [ey, ez, div_pow_zero _ (by omega) b.2 62 (by omega)]; decide
  · have : hv (y + 65536) = hv y + 1 := by omega
    rw [this, div_pow_succ]
/-- curve.Pow's answer. -/
def pow2 (x : Int) : Int := powf (-(mn x 0))
theorem mn0 (x : Int) : 0 ≤ -(mn x 0) := by unfold mn; split <;> omega
theorem Pow_eq (x : Int) (h : -2147483648 ≤ x ∧ x ≤ 2147483647) : curve_Pow.f x = some (pow2 x) := by unfold curve_Pow.f; rw [if_pos h]; rfl
theorem pow2_bound (x : Int) : 0 ≤ pow2 x ∧ pow2 x ≤ 65536 := powf_bound _
theorem pow2_mono (x y : Int) (h : x ≤ y) : pow2 x ≤ pow2 y := powf_mono _ _ (mn0 y) (by unfold mn; split <;> split <;> omega)
theorem pow2_half (x : Int) (h : x ≤ 0) : pow2 (x - 65536) = pow2 x / 2 := by
  unfold pow2
  rw [show -(mn (x - 65536) 0) = -(mn x 0) + 65536 by unfold mn; split <;> split <;> omega]
  exact powf_step _ (mn0 x)
end Go.Proofs.Ytnhapgenebcjmaa.U
