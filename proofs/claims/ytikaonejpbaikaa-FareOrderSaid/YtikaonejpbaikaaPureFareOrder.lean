/- The way back costs the same, class 1 and no railcard no less: for any four ints. -/
import Derived.Test.YtikaonejpbaikaaPSingle
import Derived.Test.YtikaonejpbaikaaPureLineWays
import Derived.Test.YtikaonejpbaikaaPLx6
namespace Go.Proofs.Ytikaonejpbaikaa.Pure
open Go Go.RowKit Go.Proofs.Ytikaonejpbaikaa.G Go.Proofs.Ytikaonejpbaikaa.PL Go.Proofs.YtikaonejpbaikaaW.PrintWords Go.Proofs.YtikaonejpbaikaaW.PrintLast Go.Proofs.YtikaonejpbaikaaW.PrintMore
theorem singleR_comm (a b c n : Int) : singleR a b c n = singleR b a c n := by
  by_cases h : (0 ≤ a ∧ a < 40 ∧ 0 ≤ b ∧ b < 40) ∧ (c = 1 ∨ c = 2)
  · rw [singleR_in h, singleR_in ⟨by omega, h.2⟩, show highZ a b = highZ b a from mx_comm _ _, show lowZ a b = lowZ b a by unfold lowZ; rw [mn_comm a b, mx_comm a b, mn_comm (zv a)]]
  · rw [show singleR a b c n = (0, 1) from if_neg h, show singleR b a c n = (0, 1) from if_neg (by omega)]
theorem FareOrder : gatelinelaw08_FareOrder.Pure := by
  intro a b c n _ _ _ _
  obtain ⟨K, e⟩ := priced_ev
  refine ⟨K + 1 + 1, ?_⟩
  have e0 := e (K + 1) (by omega)
  unfold gatelinelaw08_FareOrder.f
  rw [single_f, Option.bind_some, single_f, Option.bind_some, singleR_comm b a, if_pos rfl, show ((singleR a b c n).1 != (singleR a b c n).1) = false by simp, gatelinelaw08_FareOrder.j0, if_neg (by decide), single_f, Option.bind_some, single_f, Option.bind_some]
  by_cases h : (singleR a b c n).2 = 0
  · obtain ⟨hin, hn⟩ := singleR_ok h
    obtain ⟨z0, z1, z2⟩ := zone_bounds hin.1
    have p1 := priceOf_bounds (z := 1 + highZ a b - lowZ a b) (c := c) (by omega) (by omega)
    have p2 := priceOf_bounds (z := 1 + highZ a b - lowZ a b) (c := 1) (by omega) (by omega)
    have p3 : priceOf (1 + highZ a b - lowZ a b) c ≤ priceOf (1 + highZ a b - lowZ a b) 1 := by
      by_cases hc : c = 1
      · rw [hc]
        exact Int.le_refl _
      · rw [priceOf_one, priceOf_not hc]
        omega
    rw [if_pos h, e0, Option.bind_some, if_pos rfl, singleR_in (n := n) hin, singleR_in (c := 1) (n := n) ⟨hin.1, .inl rfl⟩, singleR_in (n := 0) hin, if_pos (cut_fine (by omega) (by omega) hn), if_pos (cut_fine (by omega) (by omega) (by omega)), if_pos (cut_mono (by omega) p3 (by omega) hn), if_pos (cut_none (by omega) (by omega) hn), decide_eq_true (by
      have := cut_least (p := priceOf (1 + highZ a b - lowZ a b) c) (n := n) p1.1 (by omega) hn
      omega)]
  · rw [if_neg h, e0]
    rfl
end Go.Proofs.Ytikaonejpbaikaa.Pure
