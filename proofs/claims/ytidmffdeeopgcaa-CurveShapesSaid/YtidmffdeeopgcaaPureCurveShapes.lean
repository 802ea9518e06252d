/- CurveShapes: the pure statement. -/
import Derived.Test.YtidmffdeeopgcaaUInverse
import Derived.Test.YtidmffdeeopgcaaUPow
import Derived.Test.YtidmffdeeopgcaaGQx4
set_option linter.unusedVariables false
set_option linter.unusedSimpArgs false
namespace Go.Proofs.Ytidmffdeeopgcaa.Pure
open Go.RowKit Go.Proofs.YtidmffdeeopgcaaW.PrintWords Go.Proofs.YtidmffdeeopgcaaW.PrintLast Go.Proofs.YtidmffdeeopgcaaW.PrintMore Go.Proofs.Ytidmffdeeopgcaa.GQ Go.Proofs.Ytidmffdeeopgcaa.GLen Go.Proofs.Ytidmffdeeopgcaa.GCurve Go.Proofs.Ytidmffdeeopgcaa.GAwake Go.Proofs.Ytidmffdeeopgcaa.U
theorem Shapes_j1 (x : Int) (h0 : 0 ≤ x) (h1 : x ≤ 18446744073709551615) (k : Nat) (hk : 4294967297 < k) : tillerlaw02_CurveShapes.j1 k x false = some true := by
  obtain ⟨k, rfl⟩ := succ_of_lt (show 0 < k by omega)
  obtain ⟨s, hs, hf⟩ := Root_eq x h0 h1
  have hb := isq_bound hs (B := 4294967296) (by omega) (by omega)
  obtain ⟨s0, sl, sh⟩ := hs
  have ss0 : 0 ≤ s * s := Int.mul_nonneg s0 s0
  simp only [tillerlaw02_CurveShapes.j1]
  rw [if_neg (by decide), hf k (by omega), Option.bind_some]
  unfold tillerlaw02_awake.f
  rw [Option.bind_some, if_pos rfl, if_pos hb, u64n (x := s * s) ss0 (by omega), if_pos sl]
  by_cases he : s = 4294967295
  · rw [if_pos he]
  · have m := sq_le (a := s + 1) (b := 4294967295) (by omega) (by omega)
    have m0 : 0 ≤ (s + 1) * (s + 1) := Int.mul_nonneg (by omega) (by omega)
    rw [if_neg he, u64n (x := s + 1) (by omega) (by omega), u64n (x := (s + 1) * (s + 1)) m0 (by omega), decide_eq_true (show (s + 1) * (s + 1) > x by omega)]
theorem Shapes_j0 (x z : Int) (hx : -2147483648 ≤ x ∧ x ≤ 2147483647) (h0 : 0 ≤ z) (h1 : z ≤ 18446744073709551615) (k : Nat) (hk : 4294967298 < k) : tillerlaw02_CurveShapes.j0 k x z false = some true := by
  obtain ⟨k, rfl⟩ := succ_of_lt (show 0 < k by omega)
  have b := pow2_bound x
  have ht : ∀ n, (if pow2 x < 0 then tillerlaw02_CurveShapes.j1 k z true else tillerlaw02_CurveShapes.j1 k z (decide (pow2 x > n))) = tillerlaw02_CurveShapes.j1 k z (decide (pow2 x > n)) := fun n => if_neg (by omega)
  have h6 : decide (pow2 x > 65536) = false := decide_eq_false (by omega)
  have hj := Shapes_j1 z h0 h1 k (by omega)
  simp only [tillerlaw02_CurveShapes.j0]
  rw [if_neg (by decide), Pow_eq x hx]
  by_cases hc : x ≤ 0
  · rw [if_pos hc]
    by_cases hd : x > (-1073741824)
    · rw [if_pos hd, w32 (x := x - 65536) (by omega) (by omega), Pow_eq (x - 65536) (by omega), Option.bind_some, Option.bind_some, pow2_half x hc, Int.tdiv_eq_ediv_of_nonneg b.1, w32 (x := pow2 x / 2) (by omega) (by omega), if_pos rfl, ht, h6, hj]
    · rw [if_neg hd, Option.bind_some, ht, h6, hj]
  · rw [if_neg hc, Option.bind_some, ht, h6, hj]
theorem CurveShapes : ∀ (a0 : Int) (a1 : Int) (a2 : Int), (Lit.int .i32 a0).wf = true → (Lit.int .i32 a1).wf = true → (Lit.int .u64 a2).wf = true → ∃ k, tillerlaw02_CurveShapes.f k a0 a1 a2 = some true := by
  intro a0 a1 a2 h0 h1 h2
  have h0 := wf_i32 h0
  have h1 := wf_i32 h1
  have h2 := wf_u64 h2
  have hj := Shapes_j0 a0 a2 h0 h2.1 h2.2 4294967300 (by omega)
  refine ⟨4294967300, ?_⟩
  unfold tillerlaw02_CurveShapes.f
  by_cases hc : a0 ≤ a1
  · have hm := pow2_mono a0 a1 hc
    rw [if_pos hc, Pow_eq a0 h0, Pow_eq a1 h1, Option.bind_some, Option.bind_some, if_neg (by omega)]
    by_cases hy : a0 ≤ 0
    · rw [Inverse_low a0 hy, Option.bind_some]
      by_cases hz : a1 ≤ 0
      · rw [Inverse_low a1 hz, Option.bind_some]; exact hj
      · obtain ⟨t, ht, hb, hg⟩ := Inverse_eq a1 (by omega) h1.2
        rw [hg _ (by omega), Option.bind_some, decide_eq_false (show ¬ (2147483647 : Int) < t by omega)]; exact hj
    · obtain ⟨s, hs, hb, hf⟩ := Inverse_eq a0 (by omega) h0.2
      obtain ⟨t, ht, hb', hg⟩ := Inverse_eq a1 (by omega) h1.2
      have hd := divmod 281474976710656 a1 (by omega)
      have hle : (281474976710656 : Int) / a1 ≤ 281474976710656 / a0 := by
        rw [Int.le_ediv_iff_mul_le (by omega)]
        have h3 : 281474976710656 / a1 * a0 ≤ 281474976710656 / a1 * a1 := Int.mul_le_mul_of_nonneg_left hc (Int.ediv_nonneg (by omega) (by omega))
        rw [Int.mul_comm a1] at hd
        omega
      have hts : t < s + 1 := sq_lt ht.1 (by have := hs.1; omega) (by have := ht.2.1; have := hs.2.2; omega)
      rw [hf _ (by omega), hg _ (by omega), Option.bind_some, Option.bind_some, decide_eq_false (show ¬ s < t by omega)]; exact hj
  · rw [if_neg hc]; exact hj
end Go.Proofs.Ytidmffdeeopgcaa.Pure
