/- What CurveSteps needs of the roots, the steps and the powers. -/
import Derived.Test.YtidmffdeeopgcaaURoot
import Derived.Test.YtidmffdeeopgcaaUPow
set_option linter.unusedVariables false
set_option linter.unusedSimpArgs false
namespace Go.Proofs.Ytidmffdeeopgcaa.U
open Go.RowKit Go.Proofs.YtidmffdeeopgcaaW.PrintWords Go.Proofs.YtidmffdeeopgcaaW.PrintLast Go.Proofs.YtidmffdeeopgcaaW.PrintMore Go.Proofs.Ytidmffdeeopgcaa.GQ Go.Proofs.Ytidmffdeeopgcaa.GCurve
/-- Squares have their roots. -/
theorem Root_sq (z : Int) (h0 : 0 ≤ z) (h1 : z ≤ 4294967295) : ∃ Z, z * z = Z ∧ 0 ≤ Z ∧ Z ≤ 18446744065119617025 ∧ (0 < z → 1 ≤ Z) ∧ curve_Root.f 4294967297 Z = some z ∧ (0 < z → curve_Root.f 4294967297 (Z - 1) = some (z - 1)) ∧ curve_Root.f 4294967297 (Z + 2 * z) = some z := by
  have m := sq_le h0 h1
  have m0 : 0 ≤ z * z := Int.mul_nonneg h0 h0
  have e1 := sq_succ z
  have hp : 0 < z → 1 ≤ z * z := fun h => by have := sq_le (a := 1) (b := z) (by omega) (by omega); omega
  refine ⟨z * z, rfl, m0, by omega, hp, ?_, fun hz => ?_, ?_⟩
  · obtain ⟨s, hs, hf⟩ := Root_eq (z * z) m0 (by omega)
    rw [hf _ (Nat.le_refl _), isq_unique hs ⟨h0, Int.le_refl _, by omega⟩]
  · obtain ⟨s, hs, hf⟩ := Root_eq (z * z - 1) (by have := hp hz; omega) (by omega)
    have e2 := sq_succ (z - 1)
    rw [show z - 1 + 1 = z by omega] at e2
    rw [hf _ (Nat.le_refl _), isq_unique (s := z - 1) hs ⟨by omega, by omega, by rw [show z - 1 + 1 = z by omega]; omega⟩]
  · obtain ⟨s, hs, hf⟩ := Root_eq (z * z + 2 * z) (by omega) (by omega)
    rw [hf _ (Nat.le_refl _), isq_unique hs ⟨h0, by omega, by omega⟩]
theorem steps_fall : ∀ i : Nat, i < 64 → stepAt ((i : Int) + 1) < stepAt i := by decide +kernel
theorem step_lt (i : Int) (h0 : 0 ≤ i) (h1 : i < 64) : stepAt (i + 1) < stepAt i := by
  obtain ⟨n, rfl⟩ := Int.eq_ofNat_of_zero_le h0
  exact steps_fall n (by omega)
/-- A power lies between its two steps, halved. -/
theorem pow_between (x : Int) (h0 : -1310720 ≤ x) (h1 : x ≤ 0) : ∃ p s C D E F P : Int, -x / 1024 % 64 = p ∧ -x / 1024 / 64 = s ∧ 0 ≤ p ∧ p < 64 ∧ 0 ≤ s ∧ s ≤ 20 ∧ stepAt p = C ∧ stepAt (p + 1) = D ∧ 32768 ≤ C ∧ C ≤ 65536 ∧ 32768 ≤ D ∧ D ≤ 65536 ∧ C / 2 ^ s.toNat = E ∧ D / 2 ^ s.toNat = F ∧ pow2 x = P ∧ P ≤ E ∧ F ≤ P ∧ 0 ≤ P ∧ P ≤ 65536 ∧ 0 ≤ E ∧ E ≤ 65536 ∧ 0 ≤ F ∧ F ≤ 65536 := by
  have hm : -(mn x 0) = -x := by unfold mn; split <;> omega
  have hp : pow2 x = powf (-x) := by unfold pow2; rw [hm]
  obtain ⟨p0, p1, q0, q1⟩ := pv_parts (-x)
  have hb := powv_ok (-x) _ _ p0 p1 q0 q1
  have c := step_ok (-x / 1024 % 64) p0 (by omega)
  have d := step_ok (-x / 1024 % 64 + 1) (by omega) (by omega)
  have hs : hv (-x) = (-x / 1024 / 64).toNat := by rw [hv_eq _ (by omega)]; omega
  have e : powf (-x) = pv (-x) / 2 ^ (-x / 1024 / 64).toNat := by rw [powf_eq, hs]
  have b := powf_bound (-x)
  have le1 : pv (-x) / 2 ^ (-x / 1024 / 64).toNat ≤ stepAt (-x / 1024 % 64) / 2 ^ (-x / 1024 / 64).toNat := Int.ediv_le_ediv (two_pow_pos _) hb.2.2.2
  have le2 : stepAt (-x / 1024 % 64 + 1) / 2 ^ (-x / 1024 / 64).toNat ≤ pv (-x) / 2 ^ (-x / 1024 / 64).toNat := Int.ediv_le_ediv (two_pow_pos _) hb.2.2.1
  have be := div_pow_anti (stepAt (-x / 1024 % 64)) (by omega) 0 (-x / 1024 / 64).toNat
  have bf := div_pow_anti (stepAt (-x / 1024 % 64 + 1)) (by omega) 0 (-x / 1024 / 64).toNat
  rw [Nat.zero_add, Int.pow_zero, Int.ediv_one] at be bf
  have f0 : 0 ≤ stepAt (-x / 1024 % 64 + 1) / 2 ^ (-x / 1024 / 64).toNat := Int.ediv_nonneg (by omega) (Int.le_of_lt (two_pow_pos _))
  exact ⟨_, _, _, _, _, _, _, rfl, rfl, p0, p1, by omega, by omega, rfl, rfl, c.1, c.2, d.1, d.2, rfl, rfl, hp, by omega, by omega, by omega, by omega, by omega, by omega, f0, by omega⟩
end Go.Proofs.Ytidmffdeeopgcaa.U
