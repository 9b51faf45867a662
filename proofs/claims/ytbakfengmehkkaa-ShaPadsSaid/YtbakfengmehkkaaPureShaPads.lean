/- Bytes are padded just as the reference says: for any bytes. -/
import Derived.Test.YtbakfengmehkkaaQPad
import Derived.Test.YtbakfengmehkkaaPLyP
import Derived.Test.YtbakfengmehkkaaPLyS
namespace Go.Proofs.Ytbakfengmehkkaa.Pure
open Go Go.RowKit Go.Proofs.Ytbakfengmehkkaa.PL Go.Proofs.Ytbakfengmehkkaa.Q Go.Proofs.YtbakfengmehkkaaW.PrintWords Go.Proofs.YtbakfengmehkkaaW.PrintLast
theorem ShaPads : gatelinelaw02_ShaPads.Pure := by
  intro l0 _ _ _
  by_cases h : (l0.length : Int) > 5000
  · exact ⟨0, by unfold gatelinelaw02_ShaPads.f; rw [if_pos h]⟩
  · obtain ⟨K1, h1⟩ := pad_ev l0 (by omega)
    obtain ⟨K2, h2⟩ := refPad_ev l0 (by omega)
    have hz := zeros_lt l0.length
    obtain ⟨K3, h3⟩ := same_true (padR l0) (by rw [padR_length]; omega)
    replace h1 : ∀ k, K1 ≤ k → sha_Pad.f k l0 = some (padR l0) := h1
    replace h2 : ∀ k, K2 ≤ k → gatelineref02_Pad.f k l0 = some (padR l0) := h2
    replace h3 : ∀ k, K3 ≤ k → gatelineref01_Same.f k (padR l0) (padR l0) = some true := h3
    refine ⟨K1 + K2 + K3, ?_⟩
    unfold gatelinelaw02_ShaPads.f
    rw [if_neg h, show gatelinelaw02_summed.f = some true from rfl, Option.bind_some, if_pos rfl, h1 _ (by omega), Option.bind_some, h2 _ (by omega), Option.bind_some, h3 _ (by omega), Option.bind_some]
end Go.Proofs.Ytbakfengmehkkaa.Pure
