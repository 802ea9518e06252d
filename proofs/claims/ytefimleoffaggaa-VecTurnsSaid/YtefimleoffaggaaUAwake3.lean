/- Layer 3 is awake. -/
import Derived.Test.YtefimleoffaggaaGQx3
import Derived.Test.YtefimleoffaggaaUMath
set_option linter.unusedVariables false
namespace Go.Proofs.Ytefimleoffaggaa.U
open Go.RowKit Go.Proofs.YtefimleoffaggaaW.PrintWords Go.Proofs.YtefimleoffaggaaW.PrintMore Go.Proofs.Ytefimleoffaggaa.GQ
theorem awake3 {k : Nat} (hk : 5000 ≤ k) : tillerlaw03_awake.f k = some true := by
  have h : tillerlaw03_awake.f 10 = some true := by decide +kernel
  exact at_rounds (g := fun k => tillerlaw03_awake.f k) (tillerlaw03_awake.mono) (show 10 ≤ k by omega) h
end Go.Proofs.Ytefimleoffaggaa.U
