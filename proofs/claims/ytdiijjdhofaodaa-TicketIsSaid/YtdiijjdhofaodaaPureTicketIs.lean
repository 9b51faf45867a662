/- A ticket is right, or not, has just the reference's last day, and covers a station, or not: for any ticket and int. -/
import Derived.Test.YtdiijjdhofaodaaPTick
import Derived.Test.YtdiijjdhofaodaaPdefTicketIs
namespace Go.Proofs.Ytdiijjdhofaodaa.Pure
open Go Go.RowKit Go.Proofs.Ytdiijjdhofaodaa.G Go.Proofs.Ytdiijjdhofaodaa.PL Go.Proofs.YtdiijjdhofaodaaW.PrintWords Go.Proofs.YtdiijjdhofaodaaW.PrintLast Go.Proofs.YtdiijjdhofaodaaW.PrintMore
theorem TicketIs : gatelinelaw09_TicketIs.Pure := by
  intro x0 x1 x2 x3 x4 x5 x6 x7 x8 x9 x10 s _ _ _ _ _ _ _ _ _ _ _ hs
  obtain ⟨K, e⟩ := sold_ev
  refine ⟨K + 1 + 1, ?_⟩
  obtain ⟨r, e1, e2⟩ := last_eq K x0 x1 x2 x3 x4 x5 x6 x7 x8 x9 x10
  unfold gatelinelaw09_TicketIs.f
  rw [e1, Option.bind_some, e2, Option.bind_some, covers_f _ _ _ _ _ _ _ _ _ _ _ _ (i64_of hs), Option.bind_some, refCovers_f, Option.bind_some, e (K + 1 + 1) (by omega), Option.bind_some, if_pos rfl, show ticket_Is.f x0 x1 x2 x3 x4 x5 x6 x7 x8 x9 x10 = some (isB x0 x1 x2 x3 x4 x5 x6 x7 x8 x9 x10) from rfl, Option.bind_some, refIs_f, Option.bind_some, if_pos (by simp), if_pos rfl, if_pos rfl, if_pos (by simp)]
  simp
end Go.Proofs.Ytdiijjdhofaodaa.Pure
