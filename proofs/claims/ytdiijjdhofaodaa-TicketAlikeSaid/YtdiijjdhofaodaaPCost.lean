/- Plain laws of layers 8 and 9: what a way and a ticket cost. -/
import Derived.Test.YtdiijjdhofaodaaPTick
import Derived.Test.YtdiijjdhofaodaaPLx8
namespace Go.Proofs.Ytdiijjdhofaodaa.Pure
open Go Go.RowKit Go.Proofs.Ytdiijjdhofaodaa.G Go.Proofs.Ytdiijjdhofaodaa.PL Go.Proofs.YtdiijjdhofaodaaW.PrintWords Go.Proofs.YtdiijjdhofaodaaW.PrintLast Go.Proofs.YtdiijjdhofaodaaW.PrintMore
theorem zonesR_in {a b : Int} (h : 0 ≤ a ∧ a < 40 ∧ 0 ≤ b ∧ b < 40) : zonesR a b = (lowZ a b, highZ a b, 0) := if_pos h
theorem zonesR_out {a b : Int} (h : ¬ (0 ≤ a ∧ a < 40 ∧ 0 ≤ b ∧ b < 40)) : zonesR a b = (0, 0, 1) := if_neg h
def baseR (z : Int) : Int × Int := if z < 1 ∨ z > 6 then (0, 1) else (85 + 95 * z, 0)
theorem baseR_in {z : Int} (h : 1 ≤ z ∧ z ≤ 6) : baseR z = (85 + 95 * z, 0) := if_neg (by omega)
theorem baseR_out {z : Int} (h : ¬ (1 ≤ z ∧ z ≤ 6)) : baseR z = (0, 1) := if_pos (by omega)
theorem base_f (z : Int) : fare_Base.f z = some (baseR z) := by
  unfold fare_Base.f
  by_cases h1 : z < 1
  · rw [if_pos h1, baseR_out (by omega)]
  · rw [if_neg h1]
    by_cases h2 : z > 6
    · rw [if_pos h2, baseR_out (by omega)]
    · rw [if_neg h2, baseR_in (by omega), w64 (x := 95 * z) (by omega) (by omega), w64 (by omega) (by omega)]
theorem cutR_out {p n : Int} (h : p < 0 ∨ p > 1000000000 ∨ n < 0 ∨ n > 3) : cutR p n = (0, 1) := if_pos h
theorem cutR_in {p n : Int} (h : ¬ (p < 0 ∨ p > 1000000000 ∨ n < 0 ∨ n > 3)) : cutR p n = (mx (p - (if n = 0 then 0 else if n = 1 then p / 3 else if n = 2 then p / 2 else p / 10)) (mn p 100), 0) := if_neg h
theorem tdiv_pos (p c : Int) (h : 0 ≤ p) : Int.tdiv p c = p / c := Int.tdiv_eq_ediv_of_nonneg h
def priceOf (z c : Int) : Int := if c = 1 then 85 + 95 * z + (85 + 95 * z) / 2 else 85 + 95 * z
def singleR (a b c n : Int) : Int × Int := if (0 ≤ a ∧ a < 40 ∧ 0 ≤ b ∧ b < 40) ∧ (c = 1 ∨ c = 2) then cutR (priceOf (1 + highZ a b - lowZ a b) c) n else (0, 1)
theorem zone_bounds {a b : Int} (h : 0 ≤ a ∧ a < 40 ∧ 0 ≤ b ∧ b < 40) : 1 ≤ lowZ a b ∧ lowZ a b ≤ highZ a b ∧ highZ a b ≤ 6 := by
  unfold lowZ highZ
  simp only [zv_def, mn_def, mx_def] at *
  repeat' split at *
  all_goals omega
theorem priceOf_one (z : Int) : priceOf z 1 = 85 + 95 * z + (85 + 95 * z) / 2 := if_pos rfl
theorem priceOf_not {z c : Int} (h : c ≠ 1) : priceOf z c = 85 + 95 * z := if_neg h
theorem priceOf_bounds {z c : Int} (h0 : 1 ≤ z) (h1 : z ≤ 6) : 180 ≤ priceOf z c ∧ priceOf z c ≤ 1000 := by
  unfold priceOf
  split <;> omega
theorem single_j_true (k : Nat) (c n lo hi : Int) : fare_Single.j0 (k + 1) c n lo hi true = some (0, 1) := by
  rw [fare_Single.j0, if_pos rfl]
theorem single_j (k : Nat) (c n lo hi : Int) (h0 : 1 ≤ lo) (h1 : lo ≤ hi) (h2 : hi ≤ 6) : fare_Single.j0 (k + 1) c n lo hi false = some (cutR (priceOf (1 + hi - lo) c) n) := by
  rw [fare_Single.j0, if_neg (by decide), w64 (x := 1 + hi) (by omega) (by omega), w64 (x := 1 + hi - lo) (by omega) (by omega), base_f, Option.bind_some, baseR_in (by omega), if_pos rfl]
  by_cases hc : c = 1
  · subst hc
    rw [if_pos rfl, tdiv_pos _ _ (by show 0 ≤ 85 + 95 * (1 + hi - lo); omega), priceOf_one]
    show (fare_Cut.f (wrap64 (85 + 95 * (1 + hi - lo) + wrap64 ((85 + 95 * (1 + hi - lo)) / 2))) n).bind _ = _
    rw [w64 (x := (85 + 95 * (1 + hi - lo)) / 2) (by omega) (by omega), w64 (by omega) (by omega)]
    rfl
  · rw [if_neg hc, priceOf_not hc]
    rfl
theorem single_f (k : Nat) (a b c n : Int) : fare_Single.f (k + 1) a b c n = some (singleR a b c n) := by
  unfold fare_Single.f singleR
  rw [show line_Zones.f a b = some (zonesR a b) from rfl, Option.bind_some]
  by_cases h : 0 ≤ a ∧ a < 40 ∧ 0 ≤ b ∧ b < 40
  · obtain ⟨z0, z1, z2⟩ := zone_bounds h
    rw [zonesR_in h, if_pos rfl]
    by_cases hc : c = 1
    · rw [if_pos hc, if_pos ⟨h, .inl hc⟩]
      exact single_j k c n _ _ z0 z1 z2
    · rw [if_neg hc]
      by_cases hc2 : c = 2
      · rw [if_pos ⟨h, .inr hc2⟩, show (c != 2) = false by simp [hc2]]
        exact single_j k c n _ _ z0 z1 z2
      · rw [if_neg (by omega), show (c != 2) = true by simp [hc2]]
        exact single_j_true k _ _ _ _
  · rw [zonesR_out h, if_neg (by decide), if_neg (by omega)]
    exact single_j_true k _ _ _ _
/-! what a railcard leaves -/
theorem cut_mono {p q n : Int} (h0 : 0 ≤ p) (h : p ≤ q) (h1 : q ≤ 1000000000) (hn : 0 ≤ n ∧ n ≤ 3) : (cutR p n).1 ≤ (cutR q n).1 := by
  rw [cutR_in (by omega), cutR_in (by omega)]
  simp only [mx_def, mn_def]
  rcases (by omega : n = 0 ∨ n = 1 ∨ n = 2 ∨ n = 3) with rfl | rfl | rfl | rfl <;> simp only [if_true, show ((1 : Int) = 0) = False by decide, show ((2 : Int) = 0) = False by decide, show ((3 : Int) = 0) = False by decide, show ((2 : Int) = 1) = False by decide, show ((3 : Int) = 1) = False by decide, show ((3 : Int) = 2) = False by decide, if_false] <;> repeat' split
  all_goals omega
theorem cut_none {p n : Int} (h0 : 0 ≤ p) (h1 : p ≤ 1000000000) (hn : 0 ≤ n ∧ n ≤ 3) : (cutR p n).1 ≤ (cutR p 0).1 := by
  rw [cutR_in (by omega), cutR_in (by omega)]
  simp only [mx_def, mn_def]
  rcases (by omega : n = 0 ∨ n = 1 ∨ n = 2 ∨ n = 3) with rfl | rfl | rfl | rfl <;> simp only [if_true, show ((1 : Int) = 0) = False by decide, show ((2 : Int) = 0) = False by decide, show ((3 : Int) = 0) = False by decide, show ((2 : Int) = 1) = False by decide, show ((3 : Int) = 1) = False by decide, show ((3 : Int) = 2) = False by decide, if_false] <;> repeat' split
  all_goals omega
theorem cut_least {p n : Int} (h0 : 180 ≤ p) (h1 : p ≤ 1000000000) (hn : 0 ≤ n ∧ n ≤ 3) : 100 ≤ (cutR p n).1 := by
  rw [cutR_in (by omega)]
  show 100 ≤ mx _ (mn p 100)
  rw [mx_def, mn_def]
  repeat' split
  all_goals omega
theorem cut_ok {p n : Int} (h : (cutR p n).2 = 0) : 0 ≤ n ∧ n ≤ 3 := by
  by_cases c : p < 0 ∨ p > 1000000000 ∨ n < 0 ∨ n > 3
  · rw [cutR_out c] at h
    exact absurd h (by decide)
  · omega
theorem cut_fine {p n : Int} (h0 : 0 ≤ p) (h1 : p ≤ 1000000000) (hn : 0 ≤ n ∧ n ≤ 3) : (cutR p n).2 = 0 := by rw [cutR_in (by omega)]
theorem singleR_in {a b c n : Int} (h : (0 ≤ a ∧ a < 40 ∧ 0 ≤ b ∧ b < 40) ∧ (c = 1 ∨ c = 2)) : singleR a b c n = cutR (priceOf (1 + highZ a b - lowZ a b) c) n := if_pos h
theorem singleR_ok {a b c n : Int} (h : (singleR a b c n).2 = 0) : ((0 ≤ a ∧ a < 40 ∧ 0 ≤ b ∧ b < 40) ∧ (c = 1 ∨ c = 2)) ∧ 0 ≤ n ∧ n ≤ 3 := by
  by_cases hh : (0 ≤ a ∧ a < 40 ∧ 0 ≤ b ∧ b < 40) ∧ (c = 1 ∨ c = 2)
  · rw [singleR_in hh] at h
    exact ⟨hh, cut_ok h⟩
  · unfold singleR at h
    rw [if_neg hh] at h
    exact absurd h (by decide)
/-- What a right ticket costs: its parts that play a part. -/
def core (k : Nat) (x1 x2 x3 x4 x5 x8 x9 : Int) : Option (Int × Int) := if x1 = 3 then ((ticket_season.f 0 x1 x2 x3 x4 x5 0 0 x8 x9 0).bind fun b => some (b.1, b.2)) else ((fare_Single.f k x2 x3 x4 x5).bind fun b => (if b.2 = 0 then (if x1 = 2 then (some (wrap64 ((wrap64 (b.1 * x9)) - (wrap64 (Int.tdiv (wrap64 (b.1 * x9)) 10))), 0)) else (if x1 = 4 then (some (wrap64 ((wrap64 (b.1 * x9)) - (wrap64 (Int.tdiv (wrap64 (b.1 * x9)) 5))), 0)) else (some (wrap64 (b.1 * x9), 0)))) else (some (0, b.2))))
theorem price_core (k : Nat) (x0 x1 x2 x3 x4 x5 x6 x7 x8 x9 x10 : Int) : ticket_Price.f k x0 x1 x2 x3 x4 x5 x6 x7 x8 x9 x10 = if isB x0 x1 x2 x3 x4 x5 x6 x7 x8 x9 x10 = true then core k x1 x2 x3 x4 x5 x8 x9 else some (0, 1) := rfl
theorem cutR_zero (p n : Int) : (cutR p n).2 = 0 ∨ (cutR p n).1 = 0 := by
  by_cases c : p < 0 ∨ p > 1000000000 ∨ n < 0 ∨ n > 3
  · rw [cutR_out c]
    exact .inr rfl
  · rw [cutR_in c]
    exact .inl rfl
theorem season_some (x0 x1 x2 x3 x4 x5 x6 x7 x8 x9 x10 : Int) : ∃ c : Int × Int, ticket_season.f x0 x1 x2 x3 x4 x5 x6 x7 x8 x9 x10 = some c ∧ (c.2 = 0 ∨ c.1 = 0) := by
  unfold ticket_season.f
  rw [base_f, Option.bind_some]
  split
  · split
    · exact ⟨_, rfl, cutR_zero _ _⟩
    · exact ⟨_, rfl, cutR_zero _ _⟩
  · exact ⟨_, rfl, .inr rfl⟩
theorem core_some (k : Nat) (x1 x2 x3 x4 x5 x8 x9 : Int) : ∃ c : Int × Int, core (k + 1) x1 x2 x3 x4 x5 x8 x9 = some c ∧ (c.2 = 0 ∨ c.1 = 0) := by
  unfold core
  split
  · obtain ⟨c, hc, h⟩ := season_some 0 x1 x2 x3 x4 x5 0 0 x8 x9 0
    rw [hc]
    exact ⟨c, rfl, h⟩
  · rw [single_f, Option.bind_some]
    split
    · split
      · exact ⟨_, rfl, .inl rfl⟩
      · split
        · exact ⟨_, rfl, .inl rfl⟩
        · exact ⟨_, rfl, .inl rfl⟩
    · exact ⟨_, rfl, .inr rfl⟩
end Go.Proofs.Ytdiijjdhofaodaa.Pure
