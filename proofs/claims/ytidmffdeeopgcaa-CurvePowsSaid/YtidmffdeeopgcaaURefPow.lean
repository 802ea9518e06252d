/- The reference's powers are curve.Pow's. -/
import Derived.Test.YtidmffdeeopgcaaUPow
import Derived.Test.YtidmffdeeopgcaaGQx1
set_option linter.unusedVariables false
set_option linter.unusedSimpArgs false
namespace Go.Proofs.Ytidmffdeeopgcaa.U
open Go.RowKit Go.Proofs.YtidmffdeeopgcaaW.PrintWords Go.Proofs.YtidmffdeeopgcaaW.PrintLast Go.Proofs.YtidmffdeeopgcaaW.PrintMore Go.Proofs.Ytidmffdeeopgcaa.GCurve Go.Proofs.Ytidmffdeeopgcaa.GQ
theorem Step_eq (i : Int) (h0 : 0 ≤ i) (h1 : i ≤ 64) : tillerref02_Step.f i = some (stepAt i) := by
  have h : ∀ n : Fin 65, tillerref02_Step.f ((n.val : Nat) : Int) = some (stepAt ((n.val : Nat) : Int)) := by decide +kernel
  obtain ⟨n, rfl⟩ := Int.eq_ofNat_of_zero_le h0
  exact h ⟨n, by omega⟩
/-- Halving, so many times as are told or until nothing is left. -/
theorem halve_loop : ∀ n : Nat, ∀ v : Int, 0 ≤ v → v ≤ 65536 → ∀ k, n < k → (n : Int) ≤ 65536 → tillerref02_Pow.l0 k v n = some (v / 2 ^ n) := by
  intro n
  induction n with
  | zero =>
    intro v h0 h1 k hk _
    obtain ⟨k, rfl⟩ := succ_of_lt (show 0 < k by omega)
    simp only [tillerref02_Pow.l0]
    rw [if_neg (by omega), w32 (by omega) (by omega), Int.pow_zero, Int.ediv_one]
  | succ n ih =>
    intro v h0 h1 k hk hb
    obtain ⟨k, rfl⟩ := succ_of_lt (show 0 < k by omega)
    simp only [tillerref02_Pow.l0]
    rw [if_pos (by omega)]
    by_cases hv : v > 0
    · rw [if_pos hv, Int.tdiv_eq_ediv_of_nonneg h0, w64 (x := v / 2) (by omega) (by omega), w64 (x := ((n + 1 : Nat) : Int) - 1) (by omega) (by omega), show ((n + 1 : Nat) : Int) - 1 = (n : Int) by omega, ih (v / 2) (by omega) (by omega) k (by omega) (by omega)]
      rw [Nat.add_comm, Int.pow_add, ← Int.ediv_ediv_of_nonneg (by decide)]
      rfl
    · have : v = 0 := by omega
      subst this
      rw [if_neg (by omega), Int.zero_ediv, w32 (by omega) (by omega)]
theorem rPow_eq (x : Int) (h : -2147483648 ≤ x ∧ x ≤ 2147483647) (k : Nat) (hk : 100000 ≤ k) : tillerref02_Pow.f k x = some (pow2 x) := by
  have key : ∀ y : Int, 0 ≤ y → y ≤ 2147483648 → tillerref02_Pow.j0 k y = some (powf y) := by
    intro y h0 h1
    obtain ⟨k, rfl⟩ := succ_of_lt (show 0 < k by omega)
    obtain ⟨p0, p1, q0, q1⟩ := pv_parts y
    have hb := powv_ok y _ _ p0 p1 q0 q1
    have a := step_ok (y / 1024 % 64) p0 (by omega)
    have b := step_ok (y / 1024 % 64 + 1) (by omega) (by omega)
    have pvb := pv_bound y
    have e1 : Int.tmod (wrap64 (Int.tdiv y 1024)) 64 = y / 1024 % 64 := by
      rw [Int.tdiv_eq_ediv_of_nonneg h0, w64 (by omega) (by omega), Int.tmod_eq_emod_of_nonneg (by omega)]
    have e2 : Int.tmod y 1024 = y % 1024 := Int.tmod_eq_emod_of_nonneg h0
    have e3 : wrap64 (Int.tdiv y 65536) = y / 65536 := by rw [Int.tdiv_eq_ediv_of_nonneg h0, w64 (by omega) (by omega)]
    simp only [tillerref02_Pow.j0]
    rw [e1, e2, e3, w64 (x := y / 1024 % 64 + 1) (by omega) (by omega), Step_eq _ p0 (by omega), Step_eq _ (show 0 ≤ y / 1024 % 64 + 1 by omega) (by omega), Option.bind_some, Option.bind_some, Option.bind_some]
    have hpv : pv y = stepAt (y / 1024 % 64) - ((stepAt (y / 1024 % 64) - stepAt (y / 1024 % 64 + 1)) * (y % 1024) + 512) / 1024 := rfl
    rw [w64 (x := stepAt (y / 1024 % 64) - stepAt (y / 1024 % 64 + 1)) (by omega) (by omega)]
    generalize hz : (stepAt (y / 1024 % 64) - stepAt (y / 1024 % 64 + 1)) * (y % 1024) = z at hb hpv ⊢
    rw [w64 (x := z) (by omega) (by omega), w64 (x := z + 512) (by omega) (by omega), Int.tdiv_eq_ediv_of_nonneg (by omega), w64 (x := (z + 512) / 1024) (by omega) (by omega), ← hpv, w64 (x := pv y) (by omega) (by omega)]
    have hn : y / 65536 = (((y / 65536).toNat : Nat) : Int) := by omega
    rw [hn, halve_loop (y / 65536).toNat (pv y) (by omega) pvb.2 k (by omega) (by omega), powf_eq]
    have hh := hv_eq y h0
    by_cases hc : (y / 65536).toNat ≤ 62
    · rw [show hv y = (y / 65536).toNat by omega]
    · rw [div_pow_zero _ (by omega) pvb.2 _ (by omega), div_pow_zero _ (by omega) pvb.2 (hv y) (by omega)]
  unfold tillerref02_Pow.f pow2 mn
  by_cases hx : x < 0
  · rw [if_pos hx, w64 (x := x) (by omega) (by omega), w64 (x := -x) (by omega) (by omega), key (-x) (by omega) (by omega), if_neg (by omega)]
  · rw [if_neg hx, key 0 (by omega) (by omega)]
    by_cases h0 : 0 < x
    · rw [if_pos h0]; rfl
    · have : x = 0 := by omega
      subst this; rfl
end Go.Proofs.Ytidmffdeeopgcaa.U
