/- Plain laws of layer 7: the stations of the reference, by finite cases. -/
import Derived.Test.YtikaonejpbaikaaPLine
namespace Go.Proofs.Ytikaonejpbaikaa.Pure
open Go Go.RowKit Go.Proofs.Ytikaonejpbaikaa.G Go.Proofs.Ytikaonejpbaikaa.PL Go.Proofs.YtikaonejpbaikaaW.PrintWords Go.Proofs.YtikaonejpbaikaaW.PrintLast Go.Proofs.YtikaonejpbaikaaW.PrintMore
theorem refStations_fin : ∀ a b : Fin 7, 1 ≤ a.val → a ≤ b → gatelineref07_Stations.f 44 a.val b.val = some (stationsR a.val b.val) ∧ gatelineref07_Same.f 44 (stationsR a.val b.val).1 (stationsR a.val b.val).1 = some true := by decide +kernel
end Go.Proofs.Ytikaonejpbaikaa.Pure
