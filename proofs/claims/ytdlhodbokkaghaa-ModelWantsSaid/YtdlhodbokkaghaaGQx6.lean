-- written by this session's program gprint.py
import Derived.Test.YtdlhodbokkaghaaGQx0
import Derived.Test.YtdlhodbokkaghaaWMore
import Derived.Test.YtdlhodbokkaghaaWWords
namespace Go.Proofs.Ytdlhodbokkaghaa.GQ
open Go.RowKit Go.Proofs.YtdlhodbokkaghaaW.PrintWords Go.Proofs.YtdlhodbokkaghaaW.PrintLast Go.Proofs.YtdlhodbokkaghaaW.PrintMore
attribute [local go_sem] max2_int min2_int max_two min_two max_three min_three max_four min_four   -- for this text's walks alone
set_option linter.unusedVariables false
set_option linter.unusedSimpArgs false

/-! ### tillerref06_Random: function 14 -/
def tillerref06_Random.f (a0 : Int) (a1 : Int) (a2 : Int) : Option (Int) := some (wrap32 (wrap64 ((wrap64 (Int.tdiv (wrap64 ((wrap64 ((wrap64 (IntKind.u64.wrap (Int.tdiv (Go.bits .xor .u64 (IntKind.u64.wrap ((Go.bits .xor .u64 (IntKind.u64.wrap ((Go.bits .xor .u64 (IntKind.u64.wrap (a0 + (IntKind.u64.wrap ((IntKind.u64.wrap (wrap64 (a1 + 1))) * 11400714819323198485)))) (IntKind.u64.wrap (Int.tdiv (IntKind.u64.wrap (a0 + (IntKind.u64.wrap ((IntKind.u64.wrap (wrap64 (a1 + 1))) * 11400714819323198485)))) 1073741824))) * 13787848793156543929)) (IntKind.u64.wrap (Int.tdiv (IntKind.u64.wrap ((Go.bits .xor .u64 (IntKind.u64.wrap (a0 + (IntKind.u64.wrap ((IntKind.u64.wrap (wrap64 (a1 + 1))) * 11400714819323198485)))) (IntKind.u64.wrap (Int.tdiv (IntKind.u64.wrap (a0 + (IntKind.u64.wrap ((IntKind.u64.wrap (wrap64 (a1 + 1))) * 11400714819323198485)))) 1073741824))) * 13787848793156543929)) 134217728))) * 10723151780598845931)) (IntKind.u64.wrap (Int.tdiv (IntKind.u64.wrap ((Go.bits .xor .u64 (IntKind.u64.wrap ((Go.bits .xor .u64 (IntKind.u64.wrap (a0 + (IntKind.u64.wrap ((IntKind.u64.wrap (wrap64 (a1 + 1))) * 11400714819323198485)))) (IntKind.u64.wrap (Int.tdiv (IntKind.u64.wrap (a0 + (IntKind.u64.wrap ((IntKind.u64.wrap (wrap64 (a1 + 1))) * 11400714819323198485)))) 1073741824))) * 13787848793156543929)) (IntKind.u64.wrap (Int.tdiv (IntKind.u64.wrap ((Go.bits .xor .u64 (IntKind.u64.wrap (a0 + (IntKind.u64.wrap ((IntKind.u64.wrap (wrap64 (a1 + 1))) * 11400714819323198485)))) (IntKind.u64.wrap (Int.tdiv (IntKind.u64.wrap (a0 + (IntKind.u64.wrap ((IntKind.u64.wrap (wrap64 (a1 + 1))) * 11400714819323198485)))) 1073741824))) * 13787848793156543929)) 134217728))) * 10723151780598845931)) 2147483648))) 4294967296))) * 2)) * a2)) 4294967296)) - a2)))
set_option maxHeartbeats 8000000 in
set_option maxRecDepth 100000 in
theorem tillerref06_Random.calls (a0 : Int) (a1 : Int) (a2 : Int) (r : Int) (w : World) (h : tillerref06_Random.f a0 a1 a2 = some r) :
  Calls Try.prog 14 #[.int .u64 a0, .int .i64 a1, .int .i64 a2] w fun e w' => e = .returned (.int .i32 r) ∧ Drawn0 w w' := by
 have H : (some (wrap32 (wrap64 ((wrap64 (Int.tdiv (wrap64 ((wrap64 ((wrap64 (IntKind.u64.wrap (Int.tdiv (Go.bits .xor .u64 (IntKind.u64.wrap ((Go.bits .xor .u64 (IntKind.u64.wrap ((Go.bits .xor .u64 (IntKind.u64.wrap (a0 + (IntKind.u64.wrap ((IntKind.u64.wrap (wrap64 (a1 + 1))) * 11400714819323198485)))) (IntKind.u64.wrap (Int.tdiv (IntKind.u64.wrap (a0 + (IntKind.u64.wrap ((IntKind.u64.wrap (wrap64 (a1 + 1))) * 11400714819323198485)))) 1073741824))) * 13787848793156543929)) (IntKind.u64.wrap (Int.tdiv (IntKind.u64.wrap ((Go.bits .xor .u64 (IntKind.u64.wrap (a0 + (IntKind.u64.wrap ((IntKind.u64.wrap (wrap64 (a1 + 1))) * 11400714819323198485)))) (IntKind.u64.wrap (Int.tdiv (IntKind.u64.wrap (a0 + (IntKind.u64.wrap ((IntKind.u64.wrap (wrap64 (a1 + 1))) * 11400714819323198485)))) 1073741824))) * 13787848793156543929)) 134217728))) * 10723151780598845931)) (IntKind.u64.wrap (Int.tdiv (IntKind.u64.wrap ((Go.bits .xor .u64 (IntKind.u64.wrap ((Go.bits .xor .u64 (IntKind.u64.wrap (a0 + (IntKind.u64.wrap ((IntKind.u64.wrap (wrap64 (a1 + 1))) * 11400714819323198485)))) (IntKind.u64.wrap (Int.tdiv (IntKind.u64.wrap (a0 + (IntKind.u64.wrap ((IntKind.u64.wrap (wrap64 (a1 + 1))) * 11400714819323198485)))) 1073741824))) * 13787848793156543929)) (IntKind.u64.wrap (Int.tdiv (IntKind.u64.wrap ((Go.bits .xor .u64 (IntKind.u64.wrap (a0 + (IntKind.u64.wrap ((IntKind.u64.wrap (wrap64 (a1 + 1))) * 11400714819323198485)))) (IntKind.u64.wrap (Int.tdiv (IntKind.u64.wrap (a0 + (IntKind.u64.wrap ((IntKind.u64.wrap (wrap64 (a1 + 1))) * 11400714819323198485)))) 1073741824))) * 13787848793156543929)) 134217728))) * 10723151780598845931)) 2147483648))) 4294967296))) * 2)) * a2)) 4294967296)) - a2)))) = some r := h
 clear h
 obtain rfl := Option.some.inj H
 go_enter Try.func14, Try.ntmps14
 go_wp2
 go_ret
 exact ⟨by first | rfl | (simp; done) | (simp [*]; done), by repeat (first | exact Drawn0.refl _ | apply Drawn0.step)⟩

end Go.Proofs.Ytdlhodbokkaghaa.GQ
