-- written by this session's program gprint.py
import Derived.Test.YtmbbaalpeomnlaaGQx0
import Derived.Test.YtmbbaalpeomnlaaWEqStruct
import Derived.Test.YtmbbaalpeomnlaaWMore
namespace Go.Proofs.Ytmbbaalpeomnlaa.GQ
open Go.RowKit Go.Proofs.YtmbbaalpeomnlaaW.PrintWords Go.Proofs.YtmbbaalpeomnlaaW.PrintLast Go.Proofs.YtmbbaalpeomnlaaW.PrintMore
attribute [local go_sem] max2_int min2_int max_two min_two max_three min_three max_four min_four   -- for this text's walks alone
set_option linter.unusedVariables false
set_option linter.unusedSimpArgs false

theorem eqA55 (d : Nat) (w : World) (x0 y0 : Int) (x1 y1 : Bool) (x2 y2 : Int) :
  (Op.equalIn (d + 2) 55 (.agg #[.int .i64 x0, .bool x1, .int .i64 x2]) (.agg #[.int .i64 y0, .bool y1, .int .i64 y2])).run Try.prog w = .ok (x0 == y0 && (x1 == y1 && (x2 == y2))) w := by
 refine eqA_of Try.underlying55 (by kernel_rfl) ?_
 refine eqf_cons (by rfl) (by go_simp; rfl) (by go_simp; rfl) (by go_simp) ?_
 refine eqf_cons (by rfl) (by go_simp; rfl) (by go_simp; rfl) (by go_simp) ?_
 exact eqf_last (by rfl) (by go_simp; rfl) (by go_simp; rfl) (by go_simp)
end Go.Proofs.Ytmbbaalpeomnlaa.GQ
