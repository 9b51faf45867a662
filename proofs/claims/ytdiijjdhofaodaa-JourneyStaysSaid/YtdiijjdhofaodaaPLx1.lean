-- Written by the kit's print program with contracts that this session proved by hand given to it. Not trusted: Lean checks it.
import Derived.Test.YtdiijjdhofaodaaPLx0
import Derived.Test.YtdiijjdhofaodaaGMake
import Derived.Test.YtdiijjdhofaodaaGZone
import Derived.Test.YtdiijjdhofaodaaGZonesAll
import Derived.Test.YtdiijjdhofaodaaGStAll
import Derived.Test.YtdiijjdhofaodaaGCut
import Derived.Test.YtdiijjdhofaodaaGTickIs
import Derived.Test.YtdiijjdhofaodaaGCovers
import Derived.Test.YtdiijjdhofaodaaGJIs
import Derived.Test.YtdiijjdhofaodaaGEnterAny
import Derived.Test.YtdiijjdhofaodaaGLeaveAny
namespace Go.Proofs.Ytdiijjdhofaodaa.PL
open Go.RowKit Go.Proofs.YtdiijjdhofaodaaW.PrintWords Go.Proofs.YtdiijjdhofaodaaW.PrintLast Go.Proofs.YtdiijjdhofaodaaW.PrintMore
attribute [local go_sem] max2_int min2_int max_two min_two max_three min_three max_four min_four   -- for this text's walks alone
set_option linter.unusedVariables false
set_option linter.unusedSimpArgs false

theorem eqA25 (d : Nat) (w : World) (x0 y0 : Int) (x1 y1 : Int) :
    (Op.equalIn (d + 2) 25 (.agg #[.int .i64 x0, .int .i64 x1]) (.agg #[.int .i64 y0, .int .i64 y1])).run Try.prog w = .ok (x0 == y0 && (x1 == y1)) w := by
  refine eqA_of Try.underlying25 (by kernel_rfl) ?_
  refine eqf_cons (by rfl) (by go_simp; rfl) (by go_simp; rfl) (by go_simp) ?_
  exact eqf_last (by rfl) (by go_simp; rfl) (by go_simp; rfl) (by go_simp)
end Go.Proofs.Ytdiijjdhofaodaa.PL
