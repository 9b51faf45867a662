/- The example of layer 1's statements holds: its printed function comes to true. -/
import Derived.Test.YtknpmcaiflheaaaPLx2
namespace Go.Proofs.Ytknpmcaiflheaaa.Q
open Go Go.RowKit Go.Proofs.Ytknpmcaiflheaaa.PL Go.Proofs.YtknpmcaiflheaaaW.PrintWords Go.Proofs.YtknpmcaiflheaaaW.PrintLast Go.Proofs.YtknpmcaiflheaaaW.PrintMore
theorem turned_ev : Ev gatelinelaw01_turned.f true := Ev.of gatelinelaw01_turned.mono (k := 30) (by decide +kernel)
end Go.Proofs.Ytknpmcaiflheaaa.Q
