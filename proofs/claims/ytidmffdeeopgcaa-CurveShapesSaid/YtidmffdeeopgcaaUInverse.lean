/- Layer 2's inverse roots. -/
import Derived.Test.YtidmffdeeopgcaaURoot
import Derived.Test.YtidmffdeeopgcaaGQx1
import Derived.Test.YtidmffdeeopgcaaGQx2
set_option linter.unusedVariables false
set_option linter.unusedSimpArgs false
namespace Go.Proofs.Ytidmffdeeopgcaa.U
open Go.RowKit Go.Proofs.YtidmffdeeopgcaaW.PrintWords Go.Proofs.YtidmffdeeopgcaaW.PrintLast Go.Proofs.YtidmffdeeopgcaaW.PrintMore Go.Proofs.Ytidmffdeeopgcaa.GQ Go.Proofs.Ytidmffdeeopgcaa.GLen
theorem inv_arg (y : Int) (h0 : 1 ≤ y) (h1 : y ≤ 2147483647) : IntKind.u64.wrap y = y ∧ 0 ≤ (281474976710656 : Int) / y ∧ (281474976710656 : Int) / y ≤ 281474976710656 :=
  ⟨u64n (by omega) (by omega), Int.ediv_nonneg (by omega) (by omega), Int.ediv_le_self _ (by omega)⟩
theorem Inverse_low (y : Int) (h : y ≤ 0) (k : Nat) : curve_Inverse.f k y = some 2147483647 := by unfold curve_Inverse.f; rw [if_pos h]
theorem Inverse_eq (y : Int) (h0 : 1 ≤ y) (h1 : y ≤ 2147483647) : ∃ s, isq ((281474976710656 : Int) / y) s ∧ s ≤ 16777216 ∧ ∀ k : Nat, 4294967297 ≤ k → curve_Inverse.f k y = some s := by
  have a := inv_arg y h0 h1
  obtain ⟨s, hs, hf⟩ := Root_eq _ a.2.1 (by omega)
  have hb := isq_bound hs (B := 16777217) (by omega) (by omega)
  refine ⟨s, hs, by omega, fun k hk => ?_⟩
  unfold curve_Inverse.f
  rw [if_neg (by omega), a.1, if_neg (by omega), hf k hk, Option.bind_some, w32 (by have := hs.1; omega) (by omega)]
theorem rInverse_low (y : Int) (h : y ≤ 0) (k : Nat) : tillerref02_Inverse.f k y = some 2147483647 := by unfold tillerref02_Inverse.f; rw [if_pos (by omega)]
theorem rInverse_eq (y : Int) (h0 : 1 ≤ y) (h1 : y ≤ 2147483647) (k : Nat) (hk : 100 ≤ k) : ∃ s, isq ((281474976710656 : Int) / y) s ∧ tillerref02_Inverse.f k y = some s := by
  have a := inv_arg y h0 h1
  obtain ⟨s, hs, hf⟩ := rRoot_eq _ a.2.1 (by omega) k hk
  have hb := isq_bound hs (B := 16777217) (by omega) (by omega)
  refine ⟨s, hs, ?_⟩
  unfold tillerref02_Inverse.f
  rw [if_neg (by omega), a.1, if_neg (by omega), hf, Option.bind_some, w32 (by have := hs.1; omega) (by omega)]
end Go.Proofs.Ytidmffdeeopgcaa.U
