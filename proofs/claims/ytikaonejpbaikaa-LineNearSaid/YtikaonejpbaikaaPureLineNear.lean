/- The zone of the next station is the same, or the next one: for any int. -/
import Derived.Test.YtikaonejpbaikaaPLine
import Derived.Test.YtikaonejpbaikaaPLx4
namespace Go.Proofs.Ytikaonejpbaikaa.Pure
open Go Go.RowKit Go.Proofs.Ytikaonejpbaikaa.G Go.Proofs.Ytikaonejpbaikaa.PL Go.Proofs.YtikaonejpbaikaaW.PrintWords Go.Proofs.YtikaonejpbaikaaW.PrintLast Go.Proofs.YtikaonejpbaikaaW.PrintMore
theorem near_fin : ∀ s : Fin 39, gatelinelaw07_LineNear.f 30 s.val = some true := by decide +kernel
theorem lined29 : gatelinelaw07_lined.f 29 = some true := by decide +kernel
theorem near_true (k : Nat) (s : Int) (h : gatelinelaw07_lined.f k = some true) : gatelinelaw07_LineNear.j0 (k + 1) s true = some true := by
  rw [gatelinelaw07_LineNear.j0, if_pos rfl, h]
  rfl
theorem LineNear : gatelinelaw07_LineNear.Pure := by
  intro s _
  refine ⟨30, ?_⟩
  by_cases h : 0 ≤ s ∧ s < 39
  · have hs := near_fin ⟨s.toNat, by omega⟩
    have e : ((s.toNat : Nat) : Int) = s := by omega
    simp only [e] at hs
    exact hs
  · unfold gatelinelaw07_LineNear.f
    by_cases h0 : s < 0
    · rw [if_pos h0]
      exact near_true 29 s lined29
    · rw [if_neg h0, decide_eq_true (by omega)]
      exact near_true 29 s lined29
end Go.Proofs.Ytikaonejpbaikaa.Pure
