/- A station has just the reference's zone, and is on a way, or not, just as the reference says: for any three ints. -/
import Derived.Test.YtikaonejpbaikaaPLine
import Derived.Test.YtikaonejpbaikaaPLx2
namespace Go.Proofs.Ytikaonejpbaikaa.Pure
open Go Go.RowKit Go.Proofs.Ytikaonejpbaikaa.G Go.Proofs.Ytikaonejpbaikaa.PL Go.Proofs.YtikaonejpbaikaaW.PrintWords Go.Proofs.YtikaonejpbaikaaW.PrintLast Go.Proofs.YtikaonejpbaikaaW.PrintMore
theorem LineTells : gatelinelaw07_LineTells.Pure := by
  intro a b s _ _ hs
  obtain ⟨K, e⟩ := lined_ev
  refine ⟨K, ?_⟩
  unfold gatelinelaw07_LineTells.f
  rw [zone_f s (i64_of hs), Option.bind_some, refZone_f, Option.bind_some, bet_f, Option.bind_some, refBet_f, Option.bind_some, e K (Nat.le_refl _), Option.bind_some, if_pos rfl, if_pos rfl, if_pos rfl, if_pos (by simp), if_pos rfl, is_f, Option.bind_some, refIs_f, Option.bind_some]
  simp
end Go.Proofs.Ytikaonejpbaikaa.Pure
