/- A new ticket has just the reference's journey, and a journey is one of a ticket, or not: for any ticket and journey. -/
import Derived.Test.YtdiijjdhofaodaaPJour
import Derived.Test.YtdiijjdhofaodaaPLyF
import Derived.Test.YtdiijjdhofaodaaPLyG
import Derived.Test.YtdiijjdhofaodaaPLyK
namespace Go.Proofs.Ytdiijjdhofaodaa.Pure
open Go Go.RowKit Go.Proofs.Ytdiijjdhofaodaa.G Go.Proofs.Ytdiijjdhofaodaa.PL Go.Proofs.YtdiijjdhofaodaaW.PrintWords Go.Proofs.YtdiijjdhofaodaaW.PrintLast Go.Proofs.YtdiijjdhofaodaaW.PrintMore
theorem gone_f : gatelinelaw23_gone.f = some true := by decide +kernel
theorem JourneyIs (a0_0 a0_1 a0_2 a0_3 a0_4 a0_5 a0_6 a0_7 a0_8 a0_9 a0_10 : Int) (_ : (Lit.int .i64 a0_0).wf = true) (_ : (Lit.int .i64 a0_1).wf = true) (_ : (Lit.int .i64 a0_2).wf = true) (_ : (Lit.int .i64 a0_3).wf = true) (_ : (Lit.int .i64 a0_4).wf = true) (_ : (Lit.int .i64 a0_5).wf = true) (_ : (Lit.int .i64 a0_6).wf = true) (_ : (Lit.int .i64 a0_7).wf = true) (_ : (Lit.int .i64 a0_8).wf = true) (_ : (Lit.int .i64 a0_9).wf = true) (_ : (Lit.int .i64 a0_10).wf = true) (l i : Int) (_ : (Lit.int .i64 l).wf = true) (_ : (Lit.int .i64 i).wf = true) : ∃ k, gatelinelaw23_JourneyIs.f k a0_0 a0_1 a0_2 a0_3 a0_4 a0_5 a0_6 a0_7 a0_8 a0_9 a0_10 l i = some true := by
  refine ⟨4, ?_⟩
  have e0 : ticket_Is.f a0_0 a0_1 a0_2 a0_3 a0_4 a0_5 a0_6 a0_7 a0_8 a0_9 a0_10 = some (isB a0_0 a0_1 a0_2 a0_3 a0_4 a0_5 a0_6 a0_7 a0_8 a0_9 a0_10) := rfl
  have e1 : journey_Is.f a0_0 a0_1 a0_2 a0_3 a0_4 a0_5 a0_6 a0_7 a0_8 a0_9 a0_10 l i = some (jisB a0_0 a0_1 a0_2 a0_3 a0_4 a0_5 a0_6 a0_7 a0_8 a0_9 a0_10 l i) := rfl
  unfold gatelinelaw23_JourneyIs.f journey_New.f gatelineref23_New.f
  rw [e0, refIs_f 2 a0_0 a0_1 a0_2 a0_3 a0_4 a0_5 a0_6 a0_7 a0_8 a0_9 a0_10, e1, refJis_f a0_0 a0_1 a0_2 a0_3 a0_4 a0_5 a0_6 a0_7 a0_8 a0_9 a0_10 l i 1, gone_f]
  cases isB a0_0 a0_1 a0_2 a0_3 a0_4 a0_5 a0_6 a0_7 a0_8 a0_9 a0_10
  · simp
  · simp
end Go.Proofs.Ytdiijjdhofaodaa.Pure
