/- Zones have just the reference's price, and a railcard leaves just this of one, or it is refused: for any three ints. -/
import Derived.Test.YtikaonejpbaikaaPFare
import Derived.Test.YtikaonejpbaikaaPLx5
namespace Go.Proofs.Ytikaonejpbaikaa.Pure
open Go Go.RowKit Go.Proofs.Ytikaonejpbaikaa.G Go.Proofs.Ytikaonejpbaikaa.PL Go.Proofs.YtikaonejpbaikaaW.PrintWords Go.Proofs.YtikaonejpbaikaaW.PrintLast Go.Proofs.YtikaonejpbaikaaW.PrintMore
theorem FareCuts : gatelinelaw08_FareCuts.Pure := by
  intro z p n _ _ _
  obtain ⟨K, e⟩ := priced_ev
  refine ⟨K, ?_⟩
  unfold gatelinelaw08_FareCuts.f
  rw [base_f, Option.bind_some, refBase_f, Option.bind_some, show fare_Cut.f p n = some (cutR p n) from rfl, Option.bind_some, refCut_f, Option.bind_some, e K (Nat.le_refl _), Option.bind_some, if_pos rfl, if_pos rfl, if_pos rfl, if_pos rfl]
  simp
end Go.Proofs.Ytikaonejpbaikaa.Pure
