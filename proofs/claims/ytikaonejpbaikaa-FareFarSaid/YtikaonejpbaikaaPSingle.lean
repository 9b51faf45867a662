/- Plain laws of layer 8: what a way costs. -/
import Derived.Test.YtikaonejpbaikaaPFare
import Derived.Test.YtikaonejpbaikaaPLx5
namespace Go.Proofs.Ytikaonejpbaikaa.Pure
open Go Go.RowKit Go.Proofs.Ytikaonejpbaikaa.G Go.Proofs.Ytikaonejpbaikaa.PL Go.Proofs.YtikaonejpbaikaaW.PrintWords Go.Proofs.YtikaonejpbaikaaW.PrintLast Go.Proofs.YtikaonejpbaikaaW.PrintMore
def priceOf (z c : Int) : Int := if c = 1 then 85 + 95 * z + (85 + 95 * z) / 2 else 85 + 95 * z
def singleR (a b c n : Int) : Int × Int := if (0 ≤ a ∧ a < 40 ∧ 0 ≤ b ∧ b < 40) ∧ (c = 1 ∨ c = 2) then cutR (priceOf (1 + highZ a b - lowZ a b) c) n else (0, 1)
theorem zone_bounds {a b : Int} (h : 0 ≤ a ∧ a < 40 ∧ 0 ≤ b ∧ b < 40) : 1 ≤ lowZ a b ∧ lowZ a b ≤ highZ a b ∧ highZ a b ≤ 6 := by
  unfold lowZ highZ
  simp only [zv_def, mn_def, mx_def] at *
  repeat' split at *
  all_goals omega
theorem priceOf_one (z : Int) : priceOf z 1 = 85 + 95 * z + (85 + 95 * z) / 2 := if_pos rfl
theorem priceOf_not {z c : Int} (h : c ≠ 1) : priceOf z c = 85 + 95 * z := if_neg h
theorem priceOf_bounds {z c : Int} (h0 : 1 ≤ z) (h1 : z ≤ 6) : 180 ≤ priceOf z c ∧ priceOf z c ≤ 1000 := by
  unfold priceOf
  split <;> omega
theorem single_j_true (k : Nat) (c n lo hi : Int) : fare_Single.j0 (k + 1) c n lo hi true = some (0, 1) := by
  rw [fare_Single.j0, if_pos rfl]
theorem single_j (k : Nat) (c n lo hi : Int) (h0 : 1 ≤ lo) (h1 : lo ≤ hi) (h2 : hi ≤ 6) : fare_Single.j0 (k + 1) c n lo hi false = some (cutR (priceOf (1 + hi - lo) c) n) := by
  rw [fare_Single.j0, if_neg (by decide), w64 (x := 1 + hi) (by omega) (by omega), w64 (x := 1 + hi - lo) (by omega) (by omega), base_f, Option.bind_some, baseR_in (by omega), if_pos rfl]
  by_cases hc : c = 1
  · subst hc
    rw [if_pos rfl, tdiv_pos _ _ (by show 0 ≤ 85 + 95 * (1 + hi - lo); omega), priceOf_one]
    show (fare_Cut.f (wrap64 (85 + 95 * (1 + hi - lo) + wrap64 ((85 + 95 * (1 + hi - lo)) / 2))) n).bind _ = _
    rw [w64 (x := (85 + 95 * (1 + hi - lo)) / 2) (by omega) (by omega), w64 (by omega) (by omega)]
    rfl
  · rw [if_neg hc, priceOf_not hc]
    rfl
theorem single_f (k : Nat) (a b c n : Int) : fare_Single.f (k + 1) a b c n = some (singleR a b c n) := by
  unfold fare_Single.f singleR
  rw [show line_Zones.f a b = some (zonesR a b) from rfl, Option.bind_some]
  by_cases h : 0 ≤ a ∧ a < 40 ∧ 0 ≤ b ∧ b < 40
  · obtain ⟨z0, z1, z2⟩ := zone_bounds h
    rw [zonesR_in h, if_pos rfl]
    by_cases hc : c = 1
    · rw [if_pos hc, if_pos ⟨h, .inl hc⟩]
      exact single_j k c n _ _ z0 z1 z2
    · rw [if_neg hc]
      by_cases hc2 : c = 2
      · rw [if_pos ⟨h, .inr hc2⟩, show (c != 2) = false by simp [hc2]]
        exact single_j k c n _ _ z0 z1 z2
      · rw [if_neg (by omega), show (c != 2) = true by simp [hc2]]
        exact single_j_true k _ _ _ _
  · rw [zonesR_out h, if_neg (by decide), if_neg (by omega)]
    exact single_j_true k _ _ _ _
/-! what a railcard leaves -/
theorem cut_mono {p q n : Int} (h0 : 0 ≤ p) (h : p ≤ q) (h1 : q ≤ 1000000000) (hn : 0 ≤ n ∧ n ≤ 3) : (cutR p n).1 ≤ (cutR q n).1 := by
  rw [cutR_in (by omega), cutR_in (by omega)]
  simp only [mx_def, mn_def]
  rcases (by omega : n = 0 ∨ n = 1 ∨ n = 2 ∨ n = 3) with rfl | rfl | rfl | rfl <;> simp only [if_true, show ((1 : Int) = 0) = False by decide, show ((2 : Int) = 0) = False by decide, show ((3 : Int) = 0) = False by decide, show ((2 : Int) = 1) = False by decide, show ((3 : Int) = 1) = False by decide, show ((3 : Int) = 2) = False by decide, if_false] <;> repeat' split
  all_goals omega
theorem cut_none {p n : Int} (h0 : 0 ≤ p) (h1 : p ≤ 1000000000) (hn : 0 ≤ n ∧ n ≤ 3) : (cutR p n).1 ≤ (cutR p 0).1 := by
  rw [cutR_in (by omega), cutR_in (by omega)]
  simp only [mx_def, mn_def]
  rcases (by omega : n = 0 ∨ n = 1 ∨ n = 2 ∨ n = 3) with rfl | rfl | rfl | rfl <;> simp only [if_true, show ((1 : Int) = 0) = False by decide, show ((2 : Int) = 0) = False by decide, show ((3 : Int) = 0) = False by decide, show ((2 : Int) = 1) = False by decide, show ((3 : Int) = 1) = False by decide, show ((3 : Int) = 2) = False by decide, if_false] <;> repeat' split
  all_goals omega
theorem cut_least {p n : Int} (h0 : 180 ≤ p) (h1 : p ≤ 1000000000) (hn : 0 ≤ n ∧ n ≤ 3) : 100 ≤ (cutR p n).1 := by
  rw [cutR_in (by omega)]
  show 100 ≤ mx _ (mn p 100)
  rw [mx_def, mn_def]
  repeat' split
  all_goals omega
theorem cut_ok {p n : Int} (h : (cutR p n).2 = 0) : 0 ≤ n ∧ n ≤ 3 := by
  by_cases c : p < 0 ∨ p > 1000000000 ∨ n < 0 ∨ n > 3
  · rw [cutR_out c] at h
    exact absurd h (by decide)
  · omega
theorem cut_fine {p n : Int} (h0 : 0 ≤ p) (h1 : p ≤ 1000000000) (hn : 0 ≤ n ∧ n ≤ 3) : (cutR p n).2 = 0 := by rw [cutR_in (by omega)]
theorem singleR_in {a b c n : Int} (h : (0 ≤ a ∧ a < 40 ∧ 0 ≤ b ∧ b < 40) ∧ (c = 1 ∨ c = 2)) : singleR a b c n = cutR (priceOf (1 + highZ a b - lowZ a b) c) n := if_pos h
theorem singleR_ok {a b c n : Int} (h : (singleR a b c n).2 = 0) : ((0 ≤ a ∧ a < 40 ∧ 0 ≤ b ∧ b < 40) ∧ (c = 1 ∨ c = 2)) ∧ 0 ≤ n ∧ n ≤ 3 := by
  by_cases hh : (0 ≤ a ∧ a < 40 ∧ 0 ≤ b ∧ b < 40) ∧ (c = 1 ∨ c = 2)
  · rw [singleR_in hh] at h
    exact ⟨hh, cut_ok h⟩
  · unfold singleR at h
    rw [if_neg hh] at h
    exact absurd h (by decide)
end Go.Proofs.Ytikaonejpbaikaa.Pure
