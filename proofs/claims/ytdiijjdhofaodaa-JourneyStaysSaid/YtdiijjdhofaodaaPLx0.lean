-- Written by the kit's print program with contracts that this session proved by hand given to it. Not trusted: Lean checks it.
import Derived.Test.YtdiijjdhofaodaaProg
import Derived.Below
import Derived.Deep.Draws
import Derived.Deep.AppendLies
import Derived.Maps.AppendAt
import Derived.OwnWalk
import Derived.Laws.BytesArg
import Derived.Laws.MakeOwn
import Derived.Laws.OwnMore
import Derived.Deep.OwnRows
import Derived.Tactics
import Derived.Lib.ConvBytes
import Derived.Laws.Slices
import Derived.WalkKit
import Derived.KernelRfl
import Derived.RowKit3
import Derived.Deep.LoopGhost
import Derived.Deep.QuietTactic
import Derived.BigQuiet
import Derived.WideLaws
import Derived.Deep.DeepCutAuto
import Derived.Deep.CutBlock
import Derived.Deep.RegionHeld3
import Derived.Laws.Rows
import Derived.Lib.AppendStr
import Derived.ArgAppend
import Derived.Laws.IdiomCopy
import Derived.OrdersHeld
import Derived.Laws.BitsLemmas
import Derived.RowKit
import Derived.Test.YtdiijjdhofaodaaWWords
import Derived.Test.YtdiijjdhofaodaaWLast
import Derived.Test.YtdiijjdhofaodaaWTab
import Derived.Test.YtdiijjdhofaodaaWFour
import Derived.Test.YtdiijjdhofaodaaWQPut
import Derived.Test.YtdiijjdhofaodaaWApart
import Derived.Test.YtdiijjdhofaodaaWArr
import Derived.Test.YtdiijjdhofaodaaWZeros
import Derived.Test.YtdiijjdhofaodaaWFoot
import Derived.Test.YtdiijjdhofaodaaWKept
import Derived.Test.YtdiijjdhofaodaaWShare
import Derived.Test.YtdiijjdhofaodaaWN
import Derived.Test.YtdiijjdhofaodaaWFootNe
import Derived.Test.YtdiijjdhofaodaaWAt
import Derived.Test.YtdiijjdhofaodaaWEqStruct
import Derived.Test.YtdiijjdhofaodaaWRepsOne
import Derived.Test.YtdiijjdhofaodaaWInv
import Derived.Test.YtdiijjdhofaodaaWInvWords
import Derived.Test.YtdiijjdhofaodaaWGuard
import Derived.Test.YtdiijjdhofaodaaWNEv
import Derived.Test.YtdiijjdhofaodaaWMore
namespace Go.Proofs.Ytdiijjdhofaodaa.PL
open Go.RowKit Go.Proofs.YtdiijjdhofaodaaW.PrintWords Go.Proofs.YtdiijjdhofaodaaW.PrintLast Go.Proofs.YtdiijjdhofaodaaW.PrintMore
attribute [local go_sem] max2_int min2_int max_two min_two max_three min_three max_four min_four   -- for this text's walks alone
set_option linter.unusedVariables false
set_option linter.unusedSimpArgs false



def errW : Option Int → Value
  | none => .nilIface
  | some c => .iface 0 (.int .i64 c)
theorem errW_none : errW none = .nilIface := rfl
theorem errW_some (c : Int) : errW (some c) = .iface 0 (.int .i64 c) := rfl

-- the values' own types

end Go.Proofs.Ytdiijjdhofaodaa.PL
