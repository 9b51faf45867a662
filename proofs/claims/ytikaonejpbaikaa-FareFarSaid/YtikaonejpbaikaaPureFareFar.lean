/- A way within another one costs no more: for any six ints. -/
import Derived.Test.YtikaonejpbaikaaPSingle
import Derived.Test.YtikaonejpbaikaaPureLineWays
import Derived.Test.YtikaonejpbaikaaPLx7
namespace Go.Proofs.Ytikaonejpbaikaa.Pure
open Go Go.RowKit Go.Proofs.Ytikaonejpbaikaa.G Go.Proofs.Ytikaonejpbaikaa.PL Go.Proofs.YtikaonejpbaikaaW.PrintWords Go.Proofs.YtikaonejpbaikaaW.PrintLast Go.Proofs.YtikaonejpbaikaaW.PrintMore
theorem narrow {a b x y : Int} (h : 0 ≤ a ∧ a < 40 ∧ 0 ≤ b ∧ b < 40) (x1 : mn a b ≤ x) (x2 : x ≤ mx a b) (y1 : mn a b ≤ y) (y2 : y ≤ mx a b) : highZ x y - lowZ x y ≤ highZ a b - lowZ a b := by
  obtain ⟨l1, l2⟩ := within h x1 x2
  obtain ⟨l3, l4⟩ := within h y1 y2
  have hh : highZ x y ≤ highZ a b := by
    show mx (zv x) (zv y) ≤ _
    rw [mx_def]
    split <;> omega
  have hl : lowZ a b ≤ lowZ x y := by
    show _ ≤ (if mn x y ≤ 20 ∧ 20 ≤ mx x y then 1 else mn (zv x) (zv y))
    by_cases c : mn x y ≤ 20 ∧ 20 ≤ mx x y
    · rw [if_pos c]
      have c2 : mn a b ≤ 20 ∧ 20 ≤ mx a b := by
        rw [mn_def, mx_def] at *
        repeat' split at *
        all_goals omega
      show (if mn a b ≤ 20 ∧ 20 ≤ mx a b then 1 else mn (zv a) (zv b)) ≤ 1
      rw [if_pos c2]
      exact Int.le_refl _
    · rw [if_neg c, mn_def]
      split <;> omega
  omega
theorem far_true (k : Nat) (x y : Int) (h : gatelinelaw08_priced.f k = some true) : gatelinelaw08_FareFar.j0 (k + 1) x y true = some true := by
  rw [gatelinelaw08_FareFar.j0, if_pos rfl, h]
  rfl
theorem FareFar : gatelinelaw08_FareFar.Pure := by
  intro a b x y c n _ _ _ _ _ _
  obtain ⟨K, e⟩ := priced_ev
  refine ⟨K + 1, ?_⟩
  have e0 := e K (Nat.le_refl _)
  unfold gatelinelaw08_FareFar.f
  rw [single_f, Option.bind_some, single_f, Option.bind_some, bet_f, Option.bind_some, bet_f, Option.bind_some]
  by_cases h1 : (singleR a b c n).2 = 0
  · rw [if_pos h1]
    by_cases h2 : (singleR x y c n).2 = 0
    · rw [if_pos h2]
      by_cases h3 : (betR a b x).2 = 0
      · rw [if_pos h3]
        by_cases h4 : (betR a b y).2 = 0
        · rw [if_pos h4]
          by_cases h5 : (betR a b x).1 = true
          · rw [if_pos h5]
            by_cases h6 : (betR a b y).1 = true
            · obtain ⟨hin, hn⟩ := singleR_ok h1
              obtain ⟨hin2, -⟩ := singleR_ok h2
              obtain ⟨hab, -, x1, x2⟩ := on_way (Prod.ext h5 h3)
              obtain ⟨-, -, y1, y2⟩ := on_way (Prod.ext h6 h4)
              have hw := narrow hab x1 x2 y1 y2
              obtain ⟨z0, z1, z2⟩ := zone_bounds hin.1
              obtain ⟨t0, t1, t2⟩ := zone_bounds hin2.1
              have p1 := priceOf_bounds (z := 1 + highZ a b - lowZ a b) (c := c) (by omega) (by omega)
              have p2 := priceOf_bounds (z := 1 + highZ x y - lowZ x y) (c := c) (by omega) (by omega)
              have p3 : priceOf (1 + highZ x y - lowZ x y) c ≤ priceOf (1 + highZ a b - lowZ a b) c := by
                unfold priceOf
                split <;> omega
              rw [h6, gatelinelaw08_FareFar.j0, if_neg (by decide), e0, Option.bind_some, if_pos rfl, singleR_in hin, singleR_in hin2, decide_eq_true (cut_mono (by omega) p3 (by omega) hn)]
            · rw [Bool.not_eq_true] at h6
              rw [h6]
              exact far_true K _ _ e0
          · rw [if_neg h5]
            exact far_true K _ _ e0
        · rw [if_neg h4]
          exact far_true K _ _ e0
      · rw [if_neg h3]
        exact far_true K _ _ e0
    · rw [if_neg h2]
      exact far_true K _ _ e0
  · rw [if_neg h1]
    exact far_true K _ _ e0
end Go.Proofs.Ytikaonejpbaikaa.Pure
