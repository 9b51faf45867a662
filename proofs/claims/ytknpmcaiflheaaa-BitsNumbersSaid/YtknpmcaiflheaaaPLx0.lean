-- Written by the kit's print program with contracts that this session proved by hand given to it. Not trusted: Lean checks it.
import Derived.Test.YtknpmcaiflheaaaProg
import Derived.Below
import Derived.Deep.Draws
import Derived.Deep.AppendLies
import Derived.Maps.AppendAt
import Derived.OwnWalk
import Derived.Laws.BytesArg
import Derived.Laws.MakeOwn
import Derived.Laws.OwnMore
import Derived.Deep.OwnRows
import Derived.Tactics
import Derived.Lib.ConvBytes
import Derived.Laws.Slices
import Derived.WalkKit
import Derived.KernelRfl
import Derived.RowKit3
import Derived.Deep.LoopGhost
import Derived.Deep.QuietTactic
import Derived.BigQuiet
import Derived.WideLaws
import Derived.Deep.DeepCutAuto
import Derived.Deep.CutBlock
import Derived.Deep.RegionHeld3
import Derived.Laws.Rows
import Derived.Lib.AppendStr
import Derived.ArgAppend
import Derived.Laws.IdiomCopy
import Derived.OrdersHeld
import Derived.Laws.BitsLemmas
import Derived.RowKit
import Derived.Test.YtknpmcaiflheaaaGMake
import Derived.Test.YtknpmcaiflheaaaWWords
import Derived.Test.YtknpmcaiflheaaaWLast
import Derived.Test.YtknpmcaiflheaaaWTab
import Derived.Test.YtknpmcaiflheaaaWFour
import Derived.Test.YtknpmcaiflheaaaWQPut
import Derived.Test.YtknpmcaiflheaaaWApart
import Derived.Test.YtknpmcaiflheaaaWArr
import Derived.Test.YtknpmcaiflheaaaWZeros
import Derived.Test.YtknpmcaiflheaaaWFoot
import Derived.Test.YtknpmcaiflheaaaWKept
import Derived.Test.YtknpmcaiflheaaaWShare
import Derived.Test.YtknpmcaiflheaaaWN
import Derived.Test.YtknpmcaiflheaaaWFootNe
import Derived.Test.YtknpmcaiflheaaaWAt
import Derived.Test.YtknpmcaiflheaaaWEqStruct
import Derived.Test.YtknpmcaiflheaaaWRepsOne
import Derived.Test.YtknpmcaiflheaaaWInv
import Derived.Test.YtknpmcaiflheaaaWInvWords
import Derived.Test.YtknpmcaiflheaaaWGuard
import Derived.Test.YtknpmcaiflheaaaWNEv
import Derived.Test.YtknpmcaiflheaaaWMore
namespace Go.Proofs.Ytknpmcaiflheaaa.PL
open Go.RowKit Go.Proofs.YtknpmcaiflheaaaW.PrintWords Go.Proofs.YtknpmcaiflheaaaW.PrintLast Go.Proofs.YtknpmcaiflheaaaW.PrintMore
attribute [local go_sem] max2_int min2_int max_two min_two max_three min_three max_four min_four   -- for this text's walks alone
set_option linter.unusedVariables false
set_option linter.unusedSimpArgs false



def errW : Option Int → Value
  | none => .nilIface
  | some c => .iface 0 (.int .i64 c)
theorem errW_none : errW none = .nilIface := rfl
theorem errW_some (c : Int) : errW (some c) = .iface 0 (.int .i64 c) := rfl

theorem info5 : (Try.prog.info? 5).map (fun i => (i.zero, i.size, i.bytes)) = some (some (.int .u8 0), 1, 1) := by kernel_rfl
theorem info22 : (Try.prog.info? 22).map (fun i => (i.zero, i.size, i.bytes)) = some (some (.int .u32 0), 1, 4) := by kernel_rfl
-- the values' own types

end Go.Proofs.Ytknpmcaiflheaaa.PL
