/- Plain laws of layer 7: the zones and the stations of the reference, by finite cases. -/
import Derived.Test.YtikaonejpbaikaaPLine
namespace Go.Proofs.Ytikaonejpbaikaa.Pure
open Go Go.RowKit Go.Proofs.Ytikaonejpbaikaa.G Go.Proofs.Ytikaonejpbaikaa.PL Go.Proofs.YtikaonejpbaikaaW.PrintWords Go.Proofs.YtikaonejpbaikaaW.PrintLast Go.Proofs.YtikaonejpbaikaaW.PrintMore
theorem refZones_fin : ∀ a b : Fin 40, gatelineref07_Zones.f 44 a.val b.val = some (zonesR a.val b.val) := by decide +kernel
end Go.Proofs.Ytikaonejpbaikaa.Pure
