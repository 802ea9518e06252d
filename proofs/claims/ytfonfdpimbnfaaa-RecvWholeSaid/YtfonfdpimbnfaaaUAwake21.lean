/- Layer 21 is awake. -/
import Derived.Test.YtfonfdpimbnfaaaGQx13
import Derived.Test.YtfonfdpimbnfaaaUMath
set_option linter.unusedVariables false
namespace Go.Proofs.Ytfonfdpimbnfaaa.U
open Go.RowKit Go.Proofs.YtfonfdpimbnfaaaW.PrintWords Go.Proofs.YtfonfdpimbnfaaaW.PrintMore Go.Proofs.Ytfonfdpimbnfaaa.GQ
theorem awake21 {k : Nat} (hk : 60 ≤ k) : tillerlaw21_awake.f k = some true := by
  have h : tillerlaw21_awake.f 30 = some true := by decide +kernel
  exact at_rounds (g := fun k => tillerlaw21_awake.f k) (tillerlaw21_awake.mono) (show 30 ≤ k by omega) h
end Go.Proofs.Ytfonfdpimbnfaaa.U
