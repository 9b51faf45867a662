/- Just the reference's price is given back, or it is refused: for any three ints. -/
import Derived.Test.YtikaonejpbaikaaPBack
import Derived.Test.YtikaonejpbaikaaPLx6
namespace Go.Proofs.Ytikaonejpbaikaa.Pure
open Go Go.RowKit Go.Proofs.Ytikaonejpbaikaa.G Go.Proofs.Ytikaonejpbaikaa.PL Go.Proofs.YtikaonejpbaikaaW.PrintWords Go.Proofs.YtikaonejpbaikaaW.PrintLast Go.Proofs.YtikaonejpbaikaaW.PrintMore
theorem FareBacks : gatelinelaw08_FareBacks.Pure := by
  intro p l a _ _ _
  obtain ⟨K, e⟩ := priced_ev
  refine ⟨K, ?_⟩
  unfold gatelinelaw08_FareBacks.f
  rw [back_f, Option.bind_some, refBack_f, Option.bind_some, e K (Nat.le_refl _), Option.bind_some, if_pos rfl, if_pos rfl]
  simp
end Go.Proofs.Ytikaonejpbaikaa.Pure
