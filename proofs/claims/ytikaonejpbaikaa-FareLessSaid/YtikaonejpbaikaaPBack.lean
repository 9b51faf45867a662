/- Plain laws of layer 8: what is given back. -/
import Derived.Test.YtikaonejpbaikaaPFare
import Derived.Test.YtikaonejpbaikaaPLx5
import Derived.Test.YtikaonejpbaikaaPLx6
namespace Go.Proofs.Ytikaonejpbaikaa.Pure
open Go Go.RowKit Go.Proofs.Ytikaonejpbaikaa.G Go.Proofs.Ytikaonejpbaikaa.PL Go.Proofs.YtikaonejpbaikaaW.PrintWords Go.Proofs.YtikaonejpbaikaaW.PrintLast Go.Proofs.YtikaonejpbaikaaW.PrintMore
def backR (p l a : Int) : Int × Int := if p < 0 ∨ p > 1000000000 ∨ a < 1 ∨ a > 20 ∨ l < 0 ∨ l > a then (0, 1) else (mx 0 (p * l / a - 150), 0)
theorem backR_out {p l a : Int} (h : p < 0 ∨ p > 1000000000 ∨ a < 1 ∨ a > 20 ∨ l < 0 ∨ l > a) : backR p l a = (0, 1) := if_pos h
theorem backR_in {p l a : Int} (h : ¬ (p < 0 ∨ p > 1000000000 ∨ a < 1 ∨ a > 20 ∨ l < 0 ∨ l > a)) : backR p l a = (mx 0 (p * l / a - 150), 0) := if_neg h
theorem mul_bounds {p l : Int} (h0 : 0 ≤ p) (h1 : p ≤ 1000000000) (h2 : 0 ≤ l) (h3 : l ≤ 20) : 0 ≤ p * l ∧ p * l ≤ 20000000000 := by
  refine ⟨Int.mul_nonneg h0 h2, ?_⟩
  have := Int.mul_le_mul h1 h3 h2 (by omega)
  omega
theorem back_f (p l a : Int) : fare_Back.f p l a = some (backR p l a) := by
  unfold fare_Back.f
  by_cases h1 : p < 0
  · rw [if_pos h1, backR_out (by omega)]
  rw [if_neg h1]
  by_cases h2 : p > 1000000000
  · rw [if_pos h2, backR_out (by omega)]
  rw [if_neg h2]
  by_cases h3 : a < 1
  · rw [if_pos h3, backR_out (by omega)]
  rw [if_neg h3]
  by_cases h4 : a > 20
  · rw [if_pos h4, backR_out (by omega)]
  rw [if_neg h4]
  by_cases h5 : l < 0
  · rw [if_pos h5, backR_out (by omega)]
  rw [if_neg h5]
  by_cases h6 : l > a
  · rw [if_pos h6, backR_out (by omega)]
  rw [if_neg h6, if_neg (by omega), backR_in (by omega)]
  obtain ⟨m0, m1⟩ := mul_bounds (p := p) (l := l) (by omega) (by omega) (by omega) (by omega)
  have d0 : 0 ≤ p * l / a := Int.ediv_nonneg m0 (by omega)
  have d1 : p * l / a ≤ p * l := Int.ediv_le_self _ m0
  rw [w64 (x := p * l) (by omega) (by omega), Int.tdiv_eq_ediv_of_nonneg m0, w64 (x := p * l / a) (by omega) (by omega), w64 (by omega) (by omega)]
theorem refBack_f (p l a : Int) : gatelineref08_Back.f p l a = some (backR p l a) := back_f p l a
end Go.Proofs.Ytikaonejpbaikaa.Pure
