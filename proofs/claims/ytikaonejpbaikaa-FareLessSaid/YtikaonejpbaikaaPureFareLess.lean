/- Nobody gets more back than was paid, nor more for fewer legs: for any three ints. -/
import Derived.Test.YtikaonejpbaikaaPBack
import Derived.Test.YtikaonejpbaikaaPLx6
namespace Go.Proofs.Ytikaonejpbaikaa.Pure
open Go Go.RowKit Go.Proofs.Ytikaonejpbaikaa.G Go.Proofs.Ytikaonejpbaikaa.PL Go.Proofs.YtikaonejpbaikaaW.PrintWords Go.Proofs.YtikaonejpbaikaaW.PrintLast Go.Proofs.YtikaonejpbaikaaW.PrintMore
theorem mx0_mono {x y : Int} (h : x ≤ y) : mx 0 x ≤ mx 0 y := by
  rw [mx_def, mx_def]
  split <;> split <;> omega
theorem mx0_nonneg (x : Int) : 0 ≤ mx 0 x := by
  rw [mx_def]
  split <;> omega
theorem FareLess : gatelinelaw08_FareLess.Pure := by
  intro p l a _ _ _
  obtain ⟨K, e⟩ := priced_ev
  refine ⟨K, ?_⟩
  have e0 := e K (Nat.le_refl _)
  unfold gatelinelaw08_FareLess.f
  rw [back_f, Option.bind_some]
  by_cases h : p < 0 ∨ p > 1000000000 ∨ a < 1 ∨ a > 20 ∨ l < 0 ∨ l > a
  · rw [backR_out h, if_neg (by decide), e0]
    rfl
  · rw [backR_in h, if_pos rfl, back_f, Option.bind_some, backR_in (by omega)]
    by_cases hl : l = 0
    · subst hl
      rw [if_pos rfl, e0, Option.bind_some, if_pos rfl, Int.mul_zero, Int.zero_ediv]
      rfl
    · have k1 : p * (l - 1) / a ≤ p * l / a := Int.ediv_le_ediv (by omega) (Int.mul_le_mul_of_nonneg_left (by omega) (by omega))
      have k2 : p * l / a ≤ p * a / a := Int.ediv_le_ediv (by omega) (Int.mul_le_mul_of_nonneg_left (by omega) (by omega))
      have k3 : p * a / a = p := Int.mul_ediv_cancel _ (by omega)
      rw [if_neg hl, w64 (x := l - 1) (by omega) (by omega), back_f, Option.bind_some, backR_in (by omega), e0, Option.bind_some, if_pos rfl, if_pos rfl, if_pos rfl, if_pos (mx0_nonneg _), if_pos (mx0_mono (by omega)), if_pos (mx0_mono (by omega)), decide_eq_true (by
        rw [k3, mx_def]
        split <;> omega)]
end Go.Proofs.Ytikaonejpbaikaa.Pure
