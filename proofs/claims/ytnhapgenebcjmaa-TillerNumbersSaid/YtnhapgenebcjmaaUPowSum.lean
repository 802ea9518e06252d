/- Layer 2's powers: the power of a sum is nearly the product of the powers. -/
import Derived.Test.YtnhapgenebcjmaaUPow
set_option linter.unusedVariables false
set_option linter.unusedSimpArgs false
namespace Go.Proofs.Ytnhapgenebcjmaa.U
open Go.RowKit Go.Proofs.YtnhapgenebcjmaaW.PrintWords Go.Proofs.YtnhapgenebcjmaaW.PrintLast Go.Proofs.YtnhapgenebcjmaaW.PrintMore Go.Proofs.Ytnhapgenebcjmaa.GCurve
/-- Twice the steps, and on below. -/
def stepT (n : Int) : Int := if n ≤ 64 then 2 * stepAt n else stepAt (n - 64)
theorem stepT_low (n : Int) (h : n ≤ 64) : stepT n = 2 * stepAt n := if_pos h
theorem stepT_64 : stepT 64 = stepAt 0 := by decide +kernel
theorem stepT_high (n : Int) (h : 64 ≤ n) : stepT n = stepAt (n - 64) := by
  by_cases e : n = 64
  · subst e; exact stepT_64
  · exact if_neg (by omega)
theorem prodN : ∀ i : Nat, i < 65 → ∀ j : Nat, j < 65 → -160000 ≤ 2 * (stepAt (i : Int) * stepAt (j : Int)) - 65536 * stepT ((i : Int) + (j : Int)) ∧ 2 * (stepAt (i : Int) * stepAt (j : Int)) - 65536 * stepT ((i : Int) + (j : Int)) ≤ 160000 := by decide +kernel
theorem prod_near (i j : Int) (hi : 0 ≤ i ∧ i ≤ 64) (hj : 0 ≤ j ∧ j ≤ 64) : -160000 ≤ 2 * (stepAt i * stepAt j) - 65536 * stepT (i + j) ∧ 2 * (stepAt i * stepAt j) - 65536 * stepT (i + j) ≤ 160000 := by
  have := prodN i.toNat (by omega) j.toNat (by omega)
  rwa [show (i.toNat : Int) = i by omega, show (j.toNat : Int) = j by omega] at this
theorem bendN : ∀ n : Nat, n < 127 → 0 ≤ stepT (n : Int) - 2 * stepT ((n : Int) + 1) + stepT ((n : Int) + 2) ∧ stepT (n : Int) - 2 * stepT ((n : Int) + 1) + stepT ((n : Int) + 2) ≤ 16 := by decide +kernel
theorem bend (n : Int) (h : 0 ≤ n ∧ n ≤ 126) : 0 ≤ stepT n - 2 * stepT (n + 1) + stepT (n + 2) ∧ stepT n - 2 * stepT (n + 1) + stepT (n + 2) ≤ 16 := by
  have := bendN n.toNat (by omega)
  rwa [show (n.toNat : Int) = n by omega] at this
/-- A value between two steps, a thousand and twenty four times. -/
theorem pv_line (i a : Int) (ha : 0 ≤ a ∧ a < 1024) : -512 ≤ 1024 * powv 0 i a - (stepAt i * (1024 - a) + stepAt (i + 1) * a) ∧ 1024 * powv 0 i a - (stepAt i * (1024 - a) + stepAt (i + 1) * a) ≤ 512 := by
  unfold powv
  have e1 : stepAt i * (1024 - a) = stepAt i * 1024 - stepAt i * a := by rw [Int.mul_sub]
  have e2 : (stepAt i - stepAt (i + 1)) * a = stepAt i * a - stepAt (i + 1) * a := by rw [Int.sub_mul]
  rw [e1, e2]
  generalize stepAt i * a = x
  generalize stepAt (i + 1) * a = y
  generalize stepAt i = z
  omega
theorem powv_any (y z p q : Int) : powv y p q = powv z p q := rfl
/-- The rest of the reckoning: whole numbers alone. -/
theorem near_core (S0 S1 R0 R1 T0 T1 T2 a b P R X : Int) (ha : 0 ≤ a ∧ a < 1024) (hb : 0 ≤ b ∧ b < 1024)
    (d00 : -160000 ≤ 2 * (S0 * R0) - 65536 * T0 ∧ 2 * (S0 * R0) - 65536 * T0 ≤ 160000)
    (d10 : -160000 ≤ 2 * (S1 * R0) - 65536 * T1 ∧ 2 * (S1 * R0) - 65536 * T1 ≤ 160000)
    (d01 : -160000 ≤ 2 * (S0 * R1) - 65536 * T1 ∧ 2 * (S0 * R1) - 65536 * T1 ≤ 160000)
    (d11 : -160000 ≤ 2 * (S1 * R1) - 65536 * T2 ∧ 2 * (S1 * R1) - 65536 * T2 ≤ 160000)
    (hd : 0 ≤ T0 - 2 * T1 + T2 ∧ T0 - 2 * T1 + T2 ≤ 16)
    (hS : 0 ≤ S0 ∧ S0 ≤ 65536 ∧ 0 ≤ S1 ∧ S1 ≤ 65536) (hR : 0 ≤ R0 ∧ R0 ≤ 65536 ∧ 0 ≤ R1 ∧ R1 ≤ 65536)
    (hP : -512 ≤ 1024 * P - (S0 * (1024 - a) + S1 * a) ∧ 1024 * P - (S0 * (1024 - a) + S1 * a) ≤ 512)
    (hQ : -512 ≤ 1024 * R - (R0 * (1024 - b) + R1 * b) ∧ 1024 * R - (R0 * (1024 - b) + R1 * b) ≤ 512)
    (hX : (a + b < 1024 ∧ -1024 ≤ 1024 * X - (T0 * (1024 - (a + b)) + T1 * (a + b)) ∧ 1024 * X - (T0 * (1024 - (a + b)) + T1 * (a + b)) ≤ 1024) ∨
      (1024 ≤ a + b ∧ -1024 ≤ 1024 * X - (T1 * (2048 - (a + b)) + T2 * (a + b - 1024)) ∧ 1024 * X - (T1 * (2048 - (a + b)) + T2 * (a + b - 1024)) ≤ 1024)) :
    -327680 ≤ 32768 * X - P * R ∧ 32768 * X - P * R ≤ 327680 := by
  obtain ⟨r, hr⟩ : ∃ r, r = 1024 * P - (S0 * (1024 - a) + S1 * a) := ⟨_, rfl⟩
  obtain ⟨q, hq⟩ : ∃ q, q = 1024 * R - (R0 * (1024 - b) + R1 * b) := ⟨_, rfl⟩
  obtain ⟨U, hU⟩ : ∃ U, U = S0 * (1024 - a) + S1 * a := ⟨_, rfl⟩
  obtain ⟨V, hV⟩ : ∃ V, V = R0 * (1024 - b) + R1 * b := ⟨_, rfl⟩
  rw [← hr] at hP
  rw [← hq] at hQ
  have bound : ∀ x y z : Int, 0 ≤ x ∧ x ≤ 65536 → 0 ≤ y ∧ y ≤ 65536 → 0 ≤ z ∧ z < 1024 → 0 ≤ x * (1024 - z) + y * z ∧ x * (1024 - z) + y * z ≤ 65536 * 1024 := by
    intro x y z hx hy hz
    have a1 := Int.mul_nonneg hx.1 (show 0 ≤ 1024 - z by omega)
    have a2 := Int.mul_nonneg hy.1 hz.1
    have a3 := Int.mul_le_mul_of_nonneg_right hx.2 (show 0 ≤ 1024 - z by omega)
    have a4 := Int.mul_le_mul_of_nonneg_right hy.2 hz.1
    omega
  have bU := bound S0 S1 a ⟨hS.1, hS.2.1⟩ ⟨hS.2.2.1, hS.2.2.2⟩ ha
  have bV := bound R0 R1 b ⟨hR.1, hR.2.1⟩ ⟨hR.2.2.1, hR.2.2.2⟩ hb
  rw [← hU] at bU
  rw [← hV] at bV
  have eP : 1024 * P = U + r := by omega
  have eR : 1024 * R = V + q := by omega
  clear bound
  -- the product of the two lines
  have wsum : ∀ d w : Int, -160000 ≤ d ∧ d ≤ 160000 → 0 ≤ w → -(160000 * w) ≤ d * w ∧ d * w ≤ 160000 * w := by
    intro d w h h0
    have a1 := Int.mul_le_mul_of_nonneg_right h.1 h0
    have a2 := Int.mul_le_mul_of_nonneg_right h.2 h0
    omega
  have w00 := Int.mul_nonneg (show 0 ≤ 1024 - a by omega) (show 0 ≤ 1024 - b by omega)
  have w10 := Int.mul_nonneg ha.1 (show 0 ≤ 1024 - b by omega)
  have w01 := Int.mul_nonneg (show 0 ≤ 1024 - a by omega) hb.1
  have w11 := Int.mul_nonneg ha.1 hb.1
  have s00 := wsum _ _ d00 w00
  have s10 := wsum _ _ d10 w10
  have s01 := wsum _ _ d01 w01
  have s11 := wsum _ _ d11 w11
  have hab : (1024 - a) * (1024 - b) = 1048576 - 1024 * a - 1024 * b + a * b := by rw [Int.sub_mul, Int.mul_sub, Int.mul_sub]; omega
  have ha1 : a * (1024 - b) = 1024 * a - a * b := by rw [Int.mul_sub]; omega
  have hb1 : (1024 - a) * b = 1024 * b - a * b := by rw [Int.sub_mul]
  have hUV : 2 * (U * V) = (2 * (S0 * R0) - 65536 * T0) * ((1024 - a) * (1024 - b)) + (2 * (S1 * R0) - 65536 * T1) * (a * (1024 - b)) + (2 * (S0 * R1) - 65536 * T1) * ((1024 - a) * b) + (2 * (S1 * R1) - 65536 * T2) * (a * b)
      + 65536 * (T0 * ((1024 - a) * (1024 - b)) + T1 * (a * (1024 - b)) + T1 * ((1024 - a) * b) + T2 * (a * b)) := by
    rw [hU, hV]; grind
  obtain ⟨G, hG⟩ : ∃ G, G = T0 * ((1024 - a) * (1024 - b)) + T1 * (a * (1024 - b)) + T1 * ((1024 - a) * b) + T2 * (a * b) := ⟨_, rfl⟩
  rw [← hG] at hUV
  have hw : (1024 - a) * (1024 - b) + a * (1024 - b) + (1024 - a) * b + a * b = 1048576 := by omega
  have near1 : -(160000 * 1048576) ≤ 2 * (U * V) - 65536 * G ∧ 2 * (U * V) - 65536 * G ≤ 160000 * 1048576 := by omega
  have small : ∀ x e M m : Int, 0 ≤ x ∧ x ≤ M → -m ≤ e ∧ e ≤ m → 0 ≤ m → -(M * m) ≤ x * e ∧ x * e ≤ M * m := by
    intro x e M m hx he hm
    have a1 := Int.mul_le_mul_of_nonneg_left he.1 hx.1
    have a2 := Int.mul_le_mul_of_nonneg_left he.2 hx.1
    have a3 := Int.mul_le_mul_of_nonneg_right hx.2 hm
    have a4 : x * -m = -(x * m) := Int.mul_neg x m
    omega
  have mUq := small U q (65536 * 1024) 512 bU ⟨by omega, by omega⟩ (by omega)
  have mVr := small V r (65536 * 1024) 512 bV ⟨by omega, by omega⟩ (by omega)
  have mrq := small (r + 512) q 1024 512 ⟨by omega, by omega⟩ ⟨by omega, by omega⟩ (by omega)
  have erq : (r + 512) * q = r * q + 512 * q := Int.add_mul _ _ _
  have hPR : 1048576 * (P * R) = U * V + U * q + V * r + r * q := by
    have : (1024 * P) * (1024 * R) = (U + r) * (V + q) := by rw [eP, eR]
    grind
  -- the bend
  have bendw : ∀ k d : Int, 0 ≤ k ∧ k ≤ 262144 → 0 ≤ d ∧ d ≤ 16 → 0 ≤ k * d ∧ k * d ≤ 4194304 := by
    intro k d hk h
    have a1 := Int.mul_nonneg hk.1 h.1
    have a2 := Int.mul_le_mul_of_nonneg_left h.2 hk.1
    omega
  have quarter : ∀ x y : Int, 0 ≤ x → 0 ≤ y → x + y ≤ 1024 → x * y ≤ 262144 := by
    intro x y hx hy h
    have a1 : 0 ≤ (x - y) * (x - y) := by
      rcases Int.le_total 0 (x - y) with h1 | h1
      · exact Int.mul_nonneg h1 h1
      · exact Int.mul_nonneg_of_nonpos_of_nonpos h1 h1
    have a2 := Int.mul_le_mul h h (by omega) (by omega : (0 : Int) ≤ 1024)
    have e : (x + y) * (x + y) = (x - y) * (x - y) + 4 * (x * y) := by grind
    omega
  rcases hX with ⟨hs, hX⟩ | ⟨hs, hX⟩
  · have k0 := w11
    have k1 := quarter a b ha.1 hb.1 (by omega)
    have hb' := bendw _ _ ⟨k0, k1⟩ hd
    obtain ⟨L, hL⟩ : ∃ L, L = T0 * (1024 - (a + b)) + T1 * (a + b) := ⟨_, rfl⟩
    rw [← hL] at hX
    have hGL : G = 1024 * L + a * b * (T0 - 2 * T1 + T2) := by rw [hG, hL]; grind
    omega
  · have k1 := quarter (1024 - a) (1024 - b) (by omega) (by omega) (by omega)
    have hb' := bendw _ _ ⟨w00, k1⟩ hd
    obtain ⟨L, hL⟩ : ∃ L, L = T1 * (2048 - (a + b)) + T2 * (a + b - 1024) := ⟨_, rfl⟩
    rw [← hL] at hX
    have hGL : G = 1024 * L + (1024 - a) * (1024 - b) * (T0 - 2 * T1 + T2) := by rw [hG, hL]; grind
    omega
/-- The halving and the rounding that follow. -/
theorem near_tail (P R X M N : Int) (hM : 1 ≤ M) (hN : 1 ≤ N) (hP : 0 ≤ P ∧ P ≤ 65536) (hR : 0 ≤ R ∧ R ≤ 65536)
    (h : -327680 ≤ 32768 * X - P * R ∧ 32768 * X - P * R ≤ 327680) :
    -8 ≤ X / (2 * (M * N)) - ((P / M) * (R / N) + 32768) / 65536 ∧ X / (2 * (M * N)) - ((P / M) * (R / N) + 32768) / 65536 ≤ 8 := by
  obtain ⟨p, hp⟩ : ∃ p, p = P / M := ⟨_, rfl⟩
  obtain ⟨r, hr⟩ : ∃ r, r = R / N := ⟨_, rfl⟩
  obtain ⟨K, hK⟩ : ∃ K, K = M * N := ⟨_, rfl⟩
  obtain ⟨w, hw⟩ : ∃ w, w = X / (2 * (M * N)) := ⟨_, rfl⟩
  have hK1 : 1 ≤ K := by
    have := Int.mul_le_mul hM hN (by omega) (by omega); omega
  have hp0 : M * p ≤ P := by rw [hp]; exact Int.mul_ediv_self_le (by omega)
  have hp1 : P < M * p + M := by rw [hp]; exact Int.lt_mul_ediv_self_add (by omega)
  have hr0 : N * r ≤ R := by rw [hr]; exact Int.mul_ediv_self_le (by omega)
  have hr1 : R < N * r + N := by rw [hr]; exact Int.lt_mul_ediv_self_add (by omega)
  have hw0 : (2 * (M * N)) * w ≤ X := by rw [hw]; exact Int.mul_ediv_self_le (by omega)
  have hw1 : X < (2 * (M * N)) * w + 2 * (M * N) := by rw [hw]; exact Int.lt_mul_ediv_self_add (by omega)
  have p0 : 0 ≤ p := by rw [hp]; exact Int.ediv_nonneg hP.1 (by omega)
  have r0 : 0 ≤ r := by rw [hr]; exact Int.ediv_nonneg hR.1 (by omega)
  have pm : p ≤ 65536 := by
    have := Int.mul_le_mul_of_nonneg_right hM p0; omega
  have rm : r ≤ 65536 := by
    have := Int.mul_le_mul_of_nonneg_right hN r0; omega
  have lo : (M * p) * (N * r) ≤ P * R := Int.mul_le_mul hp0 hr0 (Int.mul_nonneg (by omega) r0) hP.1
  have hi : P * R ≤ (M * p + M) * (N * r + N) := Int.mul_le_mul (by omega) (by omega) hR.1 (by have := Int.mul_nonneg (show 0 ≤ M by omega) p0; omega)
  have elo : (M * p) * (N * r) = K * (p * r) := by rw [hK]; grind
  have ehi : (M * p + M) * (N * r + N) = K * (p * r) + K * (p + r + 1) := by rw [hK]; grind
  have hsum : K * (p + r + 1) ≤ K * 131073 := Int.mul_le_mul_of_nonneg_left (by omega) (by omega)
  rw [← hp, ← hr, ← hw]
  rw [← hK] at hw0 hw1
  obtain ⟨q, hq⟩ : ∃ q, q = (p * r + 32768) / 65536 := ⟨_, rfl⟩
  rw [← hq]
  have q0 : 65536 * q ≤ p * r + 32768 := by omega
  have q1 : p * r + 32768 ≤ 65536 * q + 65535 := by omega
  have eKw : 2 * K * w = 2 * (K * w) := Int.mul_assoc _ _ _
  have k0 := Int.mul_le_mul_of_nonneg_left q0 (show 0 ≤ K by omega)
  have k1 := Int.mul_le_mul_of_nonneg_left q1 (show 0 ≤ K by omega)
  have ek0 : K * (65536 * q) = 65536 * (K * q) := by grind
  have ek1 : K * (p * r + 32768) = K * (p * r) + 32768 * K := by grind
  have ek2 : K * (65536 * q + 65535) = 65536 * (K * q) + 65535 * K := by grind
  constructor
  · apply Int.not_lt.mp
    intro hc
    have := Int.mul_le_mul_of_nonneg_left (show w ≤ q - 9 by omega) (show 0 ≤ K by omega)
    have e : K * (q - 9) = K * q - 9 * K := by grind
    omega
  · apply Int.not_lt.mp
    intro hc
    have := Int.mul_le_mul_of_nonneg_left (show q + 9 ≤ w by omega) (show 0 ≤ K by omega)
    have e : K * (q + 9) = K * q + 9 * K := by grind
    omega
/-- A value between two of the doubled steps. -/
theorem line_low (y n e : Int) (hn : 0 ≤ n ∧ n < 64) (he : 0 ≤ e ∧ e < 1024) (hi : y / 1024 % 64 = n) (hr : y % 1024 = e) :
    -1024 ≤ 1024 * (2 * pv y) - (stepT n * (1024 - e) + stepT (n + 1) * e) ∧ 1024 * (2 * pv y) - (stepT n * (1024 - e) + stepT (n + 1) * e) ≤ 1024 := by
  have h := pv_line n e he
  rw [show powv 0 n e = pv y by unfold pv; rw [hi, hr]; rfl] at h
  rw [stepT_low n (by omega), stepT_low (n + 1) (by omega), Int.mul_assoc, Int.mul_assoc]
  omega
theorem line_high (y n e : Int) (hn : 64 ≤ n ∧ n < 128) (he : 0 ≤ e ∧ e < 1024) (hi : y / 1024 % 64 = n - 64) (hr : y % 1024 = e) :
    -1024 ≤ 1024 * pv y - (stepT n * (1024 - e) + stepT (n + 1) * e) ∧ 1024 * pv y - (stepT n * (1024 - e) + stepT (n + 1) * e) ≤ 1024 := by
  have h := pv_line (n - 64) e he
  rw [show powv 0 (n - 64) e = pv y by unfold pv; rw [hi, hr]; rfl] at h
  rw [stepT_high n (by omega), stepT_high (n + 1) (by omega), show n + 1 - 64 = n - 64 + 1 by omega]
  omega
theorem near_mid (u v X : Int) (h : (u / 1024 % 64 + v / 1024 % 64 + (u % 1024 + v % 1024) / 1024 < 64 ∧ X = 2 * pv (u + v)) ∨ (64 ≤ u / 1024 % 64 + v / 1024 % 64 + (u % 1024 + v % 1024) / 1024 ∧ X = pv (u + v))) :
    -327680 ≤ 32768 * X - pv u * pv v ∧ 32768 * X - pv u * pv v ≤ 327680 := by
  obtain ⟨i0, i1, a0, a1⟩ := pv_parts u
  obtain ⟨j0, j1, b0, b1⟩ := pv_parts v
  have hP := pv_line (u / 1024 % 64) (u % 1024) ⟨a0, by omega⟩
  have hQ := pv_line (v / 1024 % 64) (v % 1024) ⟨b0, by omega⟩
  rw [show powv 0 (u / 1024 % 64) (u % 1024) = pv u from rfl] at hP
  rw [show powv 0 (v / 1024 % 64) (v % 1024) = pv v from rfl] at hQ
  have q1 : ((u + v) / 1024 % 64 = u / 1024 % 64 + v / 1024 % 64 + (u % 1024 + v % 1024) / 1024 ∨ (u + v) / 1024 % 64 = u / 1024 % 64 + v / 1024 % 64 + (u % 1024 + v % 1024) / 1024 - 64) := by omega
  obtain ⟨i, hi⟩ : ∃ i, u / 1024 % 64 = i := ⟨_, rfl⟩
  obtain ⟨j, hj⟩ : ∃ j, v / 1024 % 64 = j := ⟨_, rfl⟩
  obtain ⟨a, ha⟩ : ∃ a, u % 1024 = a := ⟨_, rfl⟩
  obtain ⟨b, hb⟩ : ∃ b, v % 1024 = b := ⟨_, rfl⟩
  have hi' : 0 ≤ (u + v) / 1024 % 64 ∧ (u + v) / 1024 % 64 < 64 := by omega
  have hm : (a + b < 1024 ∧ (u + v) % 1024 = a + b) ∨ (1024 ≤ a + b ∧ (u + v) % 1024 = a + b - 1024) := by omega
  rw [hi, hj, ha, hb] at h q1
  rw [hi, ha] at hP
  rw [hj, hb] at hQ
  rw [hi] at i0 i1
  rw [hj] at j0 j1
  rw [ha] at a0 a1
  rw [hb] at b0 b1
  have s0 := step_ok i (by omega) (by omega)
  have s1 := step_ok (i + 1) (by omega) (by omega)
  have r0 := step_ok j (by omega) (by omega)
  have r1 := step_ok (j + 1) (by omega) (by omega)
  have d00 := prod_near i j ⟨by omega, by omega⟩ ⟨by omega, by omega⟩
  have d10 := prod_near (i + 1) j ⟨by omega, by omega⟩ ⟨by omega, by omega⟩
  have d01 := prod_near i (j + 1) ⟨by omega, by omega⟩ ⟨by omega, by omega⟩
  have d11 := prod_near (i + 1) (j + 1) ⟨by omega, by omega⟩ ⟨by omega, by omega⟩
  rw [show i + 1 + j = i + j + 1 by omega] at d10
  rw [show i + (j + 1) = i + j + 1 by omega] at d01
  rw [show i + 1 + (j + 1) = i + j + 2 by omega] at d11
  refine near_core _ _ _ _ _ _ _ a b _ _ X ⟨a0, by omega⟩ ⟨b0, by omega⟩ d00 d10 d01 d11 (bend (i + j) ⟨by omega, by omega⟩) ⟨by omega, by omega, by omega, by omega⟩ ⟨by omega, by omega, by omega, by omega⟩ hP hQ ?_
  rcases hm with ⟨hc, hr⟩ | ⟨hc, hr⟩
  · left
    refine ⟨hc, ?_⟩
    rcases h with ⟨hn, rfl⟩ | ⟨hn, rfl⟩
    · exact line_low (u + v) (i + j) (a + b) ⟨by omega, by omega⟩ ⟨by omega, by omega⟩ (by omega) hr
    · exact line_high (u + v) (i + j) (a + b) ⟨by omega, by omega⟩ ⟨by omega, by omega⟩ (by omega) hr
  · right
    refine ⟨hc, ?_⟩
    rw [show 2048 - (a + b) = 1024 - (a + b - 1024) by omega, show i + j + 2 = i + j + 1 + 1 by omega]
    rcases h with ⟨hn, rfl⟩ | ⟨hn, rfl⟩
    · exact line_low (u + v) (i + j + 1) (a + b - 1024) ⟨by omega, by omega⟩ ⟨by omega, by omega⟩ (by omega) hr
    · exact line_high (u + v) (i + j + 1) (a + b - 1024) ⟨by omega, by omega⟩ ⟨by omega, by omega⟩ (by omega) hr
theorem one_le_pow (n : Nat) : (1 : Int) ≤ 2 ^ n := by have := two_pow_pos n; omega
/-- The power of a sum and the product of the powers, brought to the nearest number. -/
theorem powf_sum (u v : Int) (hu : 0 ≤ u ∧ u ≤ 524288) (hv' : 0 ≤ v ∧ v ≤ 524288) :
    -8 ≤ powf (u + v) - (powf u * powf v + 32768) / 65536 ∧ powf (u + v) - (powf u * powf v + 32768) / 65536 ≤ 8 := by
  have bu := pv_bound u
  have bv := pv_bound v
  have eu := hv_eq u hu.1
  have ev := hv_eq v hv'.1
  have es := hv_eq (u + v) (by omega)
  obtain ⟨i0, i1, a0, a1⟩ := pv_parts u
  obtain ⟨j0, j1, b0, b1⟩ := pv_parts v
  rw [powf_eq, powf_eq, powf_eq]
  by_cases hc : u / 1024 % 64 + v / 1024 % 64 + (u % 1024 + v % 1024) / 1024 < 64
  · have e : hv (u + v) = hv u + hv v := by omega
    have h := near_tail (pv u) (pv v) (2 * pv (u + v)) (2 ^ hv u) (2 ^ hv v) (one_le_pow _) (one_le_pow _) ⟨by omega, by omega⟩ ⟨by omega, by omega⟩ (near_mid u v _ (Or.inl ⟨hc, rfl⟩))
    rw [Int.mul_ediv_mul_of_pos _ _ (by omega)] at h
    rw [e, Int.pow_add]
    exact h
  · have e : hv (u + v) = 1 + (hv u + hv v) := by omega
    have h := near_tail (pv u) (pv v) (pv (u + v)) (2 ^ hv u) (2 ^ hv v) (one_le_pow _) (one_le_pow _) ⟨by omega, by omega⟩ ⟨by omega, by omega⟩ (near_mid u v _ (Or.inr ⟨by omega, rfl⟩))
    rw [e, Int.pow_add, Int.pow_add]
    exact h
theorem pow2_sum (x y : Int) (hx : -524288 ≤ x ∧ x ≤ 0) (hy : -524288 ≤ y ∧ y ≤ 0) :
    -8 ≤ pow2 (x + y) - (pow2 x * pow2 y + 32768) / 65536 ∧ pow2 (x + y) - (pow2 x * pow2 y + 32768) / 65536 ≤ 8 := by
  have h := powf_sum (-x) (-y) ⟨by omega, by omega⟩ ⟨by omega, by omega⟩
  unfold pow2
  rw [show -(mn x 0) = -x by unfold mn; split <;> omega, show -(mn y 0) = -y by unfold mn; split <;> omega, show -(mn (x + y) 0) = -x + -y by unfold mn; split <;> omega]
  exact h
end Go.Proofs.Ytnhapgenebcjmaa.U
