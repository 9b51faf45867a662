-- Written by the kit's print program with contracts that this session proved by hand given to it. Not trusted: Lean checks it.
import Derived.Test.YtikaonejpbaikaaProg
import Derived.Below
import Derived.Deep.Draws
import Derived.Deep.AppendLies
import Derived.Maps.AppendAt
import Derived.OwnWalk
import Derived.Laws.BytesArg
import Derived.Laws.MakeOwn
import Derived.Laws.OwnMore
import Derived.Deep.OwnRows
import Derived.Tactics
import Derived.Lib.ConvBytes
import Derived.Laws.Slices
import Derived.WalkKit
import Derived.KernelRfl
import Derived.RowKit3
import Derived.Deep.LoopGhost
import Derived.Deep.QuietTactic
import Derived.BigQuiet
import Derived.WideLaws
import Derived.Deep.DeepCutAuto
import Derived.Deep.CutBlock
import Derived.Deep.RegionHeld3
import Derived.Laws.Rows
import Derived.Lib.AppendStr
import Derived.ArgAppend
import Derived.Laws.IdiomCopy
import Derived.OrdersHeld
import Derived.Laws.BitsLemmas
import Derived.RowKit
import Derived.Test.YtikaonejpbaikaaGMake
import Derived.Test.YtikaonejpbaikaaGZone
import Derived.Test.YtikaonejpbaikaaGZonesAll
import Derived.Test.YtikaonejpbaikaaGStAll
import Derived.Test.YtikaonejpbaikaaGCut
import Derived.Test.YtikaonejpbaikaaWWords
import Derived.Test.YtikaonejpbaikaaWLast
import Derived.Test.YtikaonejpbaikaaWTab
import Derived.Test.YtikaonejpbaikaaWFour
import Derived.Test.YtikaonejpbaikaaWQPut
import Derived.Test.YtikaonejpbaikaaWApart
import Derived.Test.YtikaonejpbaikaaWArr
import Derived.Test.YtikaonejpbaikaaWZeros
import Derived.Test.YtikaonejpbaikaaWFoot
import Derived.Test.YtikaonejpbaikaaWKept
import Derived.Test.YtikaonejpbaikaaWShare
import Derived.Test.YtikaonejpbaikaaWN
import Derived.Test.YtikaonejpbaikaaWFootNe
import Derived.Test.YtikaonejpbaikaaWAt
import Derived.Test.YtikaonejpbaikaaWEqStruct
import Derived.Test.YtikaonejpbaikaaWRepsOne
import Derived.Test.YtikaonejpbaikaaWInv
import Derived.Test.YtikaonejpbaikaaWInvWords
import Derived.Test.YtikaonejpbaikaaWGuard
import Derived.Test.YtikaonejpbaikaaWNEv
import Derived.Test.YtikaonejpbaikaaWMore
namespace Go.Proofs.Ytikaonejpbaikaa.PL
open Go.RowKit Go.Proofs.YtikaonejpbaikaaW.PrintWords Go.Proofs.YtikaonejpbaikaaW.PrintLast Go.Proofs.YtikaonejpbaikaaW.PrintMore
attribute [local go_sem] max2_int min2_int max_two min_two max_three min_three max_four min_four   -- for this text's walks alone
set_option linter.unusedVariables false
set_option linter.unusedSimpArgs false



def errW : Option Int → Value
  | none => .nilIface
  | some c => .iface 0 (.int .i64 c)
theorem errW_none : errW none = .nilIface := rfl
theorem errW_some (c : Int) : errW (some c) = .iface 0 (.int .i64 c) := rfl

theorem info3 : (Try.prog.info? 3).map (fun i => (i.zero, i.size, i.bytes)) = some (some (.int .i64 0), 1, 8) := by kernel_rfl
-- the values' own types

end Go.Proofs.Ytikaonejpbaikaa.PL
