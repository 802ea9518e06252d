/- CurveNear: the pure statement. -/
import Derived.Test.YtidmffdeeopgcaaUInverse
import Derived.Test.YtidmffdeeopgcaaGQx6
set_option linter.unusedVariables false
set_option linter.unusedSimpArgs false
namespace Go.Proofs.Ytidmffdeeopgcaa.Pure
open Go.RowKit Go.Proofs.YtidmffdeeopgcaaW.PrintWords Go.Proofs.YtidmffdeeopgcaaW.PrintLast Go.Proofs.YtidmffdeeopgcaaW.PrintMore Go.Proofs.Ytidmffdeeopgcaa.GQ Go.Proofs.Ytidmffdeeopgcaa.GLen Go.Proofs.Ytidmffdeeopgcaa.GCurve Go.Proofs.Ytidmffdeeopgcaa.GAwake Go.Proofs.Ytidmffdeeopgcaa.U
theorem Near_j (x : Int) (h0 : 256 ≤ x) (h1 : x ≤ 16777216) (k : Nat) (hk : 4294967297 < k) : tillerlaw02_CurveNear.j0 k x false = some true := by
  obtain ⟨k, rfl⟩ := succ_of_lt (show 0 < k by omega)
  obtain ⟨y, hy, hb, hf⟩ := Inverse_eq x (by omega) (by omega)
  have hd := divmod 281474976710656 x (by omega)
  have hq : (281474976710656 : Int) / x ≤ 1099511627776 := by
    have : (281474976710656 : Int) / x ≤ 281474976710656 / 256 := by
      refine Int.not_lt.mp fun hn => ?_
      have h2 : 256 * (281474976710656 / x) ≤ x * (281474976710656 / x) := Int.mul_le_mul_of_nonneg_right h0 (by omega)
      omega
    omega
  have hy20 := isq_bound hy (B := 1048577) (by omega) (by omega)
  obtain ⟨y0, yl, yh⟩ := hy
  have u1 : IntKind.u64.wrap x = x := u64n (by omega) (by omega)
  have u2 : IntKind.u64.wrap y = y := u64n y0 (by omega)
  have u3 : IntKind.u64.wrap (y + 1) = y + 1 := u64n (by omega) (by omega)
  have yy0 : 0 ≤ y * y := Int.mul_nonneg y0 y0
  have p1 : x * (y * y) ≤ 281474976710656 := by
    have := Int.mul_le_mul_of_nonneg_left yl (show 0 ≤ x by omega)
    omega
  have p0 : 0 ≤ x * (y * y) := Int.mul_nonneg (by omega) yy0
  have a1 : x * y ≤ 16777216 * 1048576 := Int.mul_le_mul h1 (by omega) y0 (by omega)
  have a0 : 0 ≤ x * y := Int.mul_nonneg (by omega) y0
  have e1 : IntKind.u64.wrap (IntKind.u64.wrap (x * y) * y) = x * (y * y) := by
    rw [u64n (x := x * y) a0 (by omega), Int.mul_assoc]; exact u64n p0 (by omega)
  have b1 : x * (y + 1) ≤ 16777216 * 1048577 := Int.mul_le_mul h1 (by omega) (by omega) (by omega)
  have b0 : 0 ≤ x * (y + 1) := Int.mul_nonneg (by omega) (by omega)
  have q2 : x * ((y + 1) * (y + 1)) = x * (y * y) + 2 * (x * y) + x := by
    rw [sq_succ, Int.mul_add, Int.mul_add, Int.mul_one, Int.mul_left_comm x 2 y]
  have e2 : IntKind.u64.wrap (IntKind.u64.wrap (x * (y + 1)) * (y + 1)) = x * ((y + 1) * (y + 1)) := by
    rw [u64n (x := x * (y + 1)) b0 (by omega), Int.mul_assoc]; exact u64n (by omega) (by omega)
  have q1 : 281474976710656 < x * ((y + 1) * (y + 1)) := by
    have h2 : x * (281474976710656 / x + 1) ≤ x * ((y + 1) * (y + 1)) := Int.mul_le_mul_of_nonneg_left (by omega) (by omega)
    rw [Int.mul_add, Int.mul_one] at h2
    omega
  have e3 : IntKind.u64.wrap (281474976710656 - x) = 281474976710656 - x := u64n (by omega) (by omega)
  simp only [tillerlaw02_CurveNear.j0]
  rw [if_neg (by decide), hf k (by omega), Option.bind_some]
  unfold tillerlaw02_awake.f
  rw [Option.bind_some, if_pos rfl, u1, u2, u3, e1, e2, e3, if_pos p1]
  rw [decide_eq_true (show x * ((y + 1) * (y + 1)) > 281474976710656 - x by omega)]
theorem CurveNear : ∀ (a0 : Int), (Lit.int .i32 a0).wf = true → ∃ k, tillerlaw02_CurveNear.f k a0 = some true := by
  intro a0 h0
  have h0 := wf_i32 h0
  refine ⟨4294967299, ?_⟩
  unfold tillerlaw02_CurveNear.f
  have ht : ∀ k x, tillerlaw02_CurveNear.j0 (k + 1) x true = some true := fun k x => by simp only [tillerlaw02_CurveNear.j0]; rfl
  by_cases h : a0 < 256
  · rw [if_pos h]; exact ht _ _
  · rw [if_neg h]
    by_cases h2 : a0 > 16777216
    · rw [decide_eq_true h2]; exact ht _ _
    · rw [decide_eq_false h2]; exact Near_j a0 (by omega) (by omega) _ (by omega)
end Go.Proofs.Ytidmffdeeopgcaa.Pure
