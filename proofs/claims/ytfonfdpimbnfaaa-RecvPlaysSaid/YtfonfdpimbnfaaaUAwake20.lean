/- Layer 20 is awake. -/
import Derived.Test.YtfonfdpimbnfaaaGQx5
import Derived.Test.YtfonfdpimbnfaaaUMath
set_option linter.unusedVariables false
namespace Go.Proofs.Ytfonfdpimbnfaaa.U
open Go.RowKit Go.Proofs.YtfonfdpimbnfaaaW.PrintWords Go.Proofs.YtfonfdpimbnfaaaW.PrintMore Go.Proofs.Ytfonfdpimbnfaaa.GQ
theorem awake20 {k : Nat} (hk : 60 ≤ k) : tillerlaw20_awake.f k = some true := by
  have h : tillerlaw20_awake.f 20 = some true := by decide +kernel
  exact at_rounds (g := fun k => tillerlaw20_awake.f k) (tillerlaw20_awake.mono) (show 20 ≤ k by omega) h
end Go.Proofs.Ytfonfdpimbnfaaa.U
