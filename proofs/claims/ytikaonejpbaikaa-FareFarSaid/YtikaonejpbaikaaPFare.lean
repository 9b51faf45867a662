/- Plain laws of layer 8: what the program and the reference compute. -/
import Derived.Test.YtikaonejpbaikaaPLine
import Derived.Test.YtikaonejpbaikaaPLx4
import Derived.Test.YtikaonejpbaikaaPLx5
namespace Go.Proofs.Ytikaonejpbaikaa.Pure
open Go Go.RowKit Go.Proofs.Ytikaonejpbaikaa.G Go.Proofs.Ytikaonejpbaikaa.PL Go.Proofs.YtikaonejpbaikaaW.PrintWords Go.Proofs.YtikaonejpbaikaaW.PrintLast Go.Proofs.YtikaonejpbaikaaW.PrintMore
theorem priced_ev : Ev gatelinelaw08_priced.f true := Ev.of gatelinelaw08_priced.mono (k := 20) (by decide +kernel)
def baseR (z : Int) : Int × Int := if z < 1 ∨ z > 6 then (0, 1) else (85 + 95 * z, 0)
theorem baseR_in {z : Int} (h : 1 ≤ z ∧ z ≤ 6) : baseR z = (85 + 95 * z, 0) := if_neg (by omega)
theorem baseR_out {z : Int} (h : ¬ (1 ≤ z ∧ z ≤ 6)) : baseR z = (0, 1) := if_pos (by omega)
theorem base_f (z : Int) : fare_Base.f z = some (baseR z) := by
  unfold fare_Base.f
  by_cases h1 : z < 1
  · rw [if_pos h1, baseR_out (by omega)]
  · rw [if_neg h1]
    by_cases h2 : z > 6
    · rw [if_pos h2, baseR_out (by omega)]
    · rw [if_neg h2, baseR_in (by omega), w64 (x := 95 * z) (by omega) (by omega), w64 (by omega) (by omega)]
theorem refBase_f (z : Int) : gatelineref08_Base.f z = some (baseR z) := by
  unfold gatelineref08_Base.f
  by_cases h1 : z < 1
  · rw [if_pos h1, baseR_out (by omega)]
  · rw [if_neg h1]
    by_cases h2 : z > 6
    · rw [if_pos h2, baseR_out (by omega)]
    · rw [if_neg h2, baseR_in (by omega), w64 (x := z - 1) (by omega) (by omega), w64 (x := 95 * (z - 1)) (by omega) (by omega), w64 (by omega) (by omega)]
      congr 2
      omega
theorem cutR_out {p n : Int} (h : p < 0 ∨ p > 1000000000 ∨ n < 0 ∨ n > 3) : cutR p n = (0, 1) := if_pos h
theorem cutR_in {p n : Int} (h : ¬ (p < 0 ∨ p > 1000000000 ∨ n < 0 ∨ n > 3)) : cutR p n = (mx (p - (if n = 0 then 0 else if n = 1 then p / 3 else if n = 2 then p / 2 else p / 10)) (mn p 100), 0) := if_neg h
theorem tdiv_pos (p c : Int) (h : 0 ≤ p) : Int.tdiv p c = p / c := Int.tdiv_eq_ediv_of_nonneg h
theorem refCut_f (p n : Int) : gatelineref08_Cut.f p n = some (cutR p n) := by
  unfold gatelineref08_Cut.f
  by_cases h1 : p < 0
  · rw [if_pos h1, cutR_out (by omega)]
  rw [if_neg h1]
  by_cases h2 : p > 1000000000
  · rw [if_pos h2, cutR_out (by omega)]
  rw [if_neg h2]
  by_cases h3 : n < 0
  · rw [if_pos h3, cutR_out (by omega)]
  rw [if_neg h3]
  by_cases h4 : n > 3
  · rw [if_pos h4, cutR_out (by omega)]
  rw [if_neg h4, cutR_in (by omega), Option.bind_some, if_pos (by omega), if_pos (by simp only [List.length_cons, List.length_nil]; omega), tdiv_pos p 3 (by omega), tdiv_pos p 2 (by omega), tdiv_pos p 10 (by omega), w64 (x := p / 3) (by omega) (by omega), w64 (x := p / 2) (by omega) (by omega), w64 (x := p / 10) (by omega) (by omega)]
  rcases (by omega : n = 0 ∨ n = 1 ∨ n = 2 ∨ n = 3) with rfl | rfl | rfl | rfl
  · rw [show rd [0, p / 3, p / 2, p / 10] 0 = 0 from rfl, w64 (by omega) (by omega)]
    rfl
  · rw [show rd [0, p / 3, p / 2, p / 10] 1 = p / 3 from rfl, w64 (by omega) (by omega)]
    rfl
  · rw [show rd [0, p / 3, p / 2, p / 10] 2 = p / 2 from rfl, w64 (by omega) (by omega)]
    rfl
  · rw [show rd [0, p / 3, p / 2, p / 10] 3 = p / 10 from rfl, w64 (by omega) (by omega)]
    rfl
end Go.Proofs.Ytikaonejpbaikaa.Pure
