/- No railcard makes a ticket cost more, and it costs no more than singles: for any ticket. -/
import Derived.Test.YtdiijjdhofaodaaPCost
import Derived.Test.YtdiijjdhofaodaaGCosts
namespace Go.Proofs.Ytdiijjdhofaodaa.Pure
open Go Go.RowKit Go.Proofs.Ytdiijjdhofaodaa.G Go.Proofs.Ytdiijjdhofaodaa.PL Go.Proofs.YtdiijjdhofaodaaW.PrintWords Go.Proofs.YtdiijjdhofaodaaW.PrintLast Go.Proofs.YtdiijjdhofaodaaW.PrintMore
/-- The price of a season, ahead of the railcard. -/
def seasonP (x2 x3 x4 x8 : Int) : Int := priceOf (x3 - x2 + 1) x4 * x8
theorem season_f {x2 x3 x4 x8 : Int} (x0 x1 x5 x6 x7 x9 x10 : Int) (h2 : 1 ≤ x2) (h3 : x2 ≤ x3) (h6 : x3 ≤ 6) (d0 : 1 ≤ x8) (d1 : x8 ≤ 999) : ticket_season.f x0 x1 x2 x3 x4 x5 x6 x7 x8 x9 x10 = some (cutR (seasonP x2 x3 x4 x8) x5) := by
  obtain ⟨p0, p1⟩ := priceOf_bounds (z := x3 - x2 + 1) (c := x4) (by omega) (by omega)
  have m0 : 0 ≤ priceOf (x3 - x2 + 1) x4 * x8 := Int.mul_nonneg (by omega) (by omega)
  have m1 : priceOf (x3 - x2 + 1) x4 * x8 ≤ 1000 * 999 := Int.mul_le_mul p1 d1 (by omega) (by omega)
  unfold ticket_season.f seasonP
  rw [w64 (x := x3 - x2) (by omega) (by omega), w64 (x := x3 - x2 + 1) (by omega) (by omega), base_f, Option.bind_some, baseR_in (by omega), if_pos rfl]
  by_cases hc : x4 = 1
  · subst hc
    rw [if_pos rfl, tdiv_pos _ _ (by show 0 ≤ 85 + 95 * (x3 - x2 + 1); omega)]
    show (fare_Cut.f (wrap64 (wrap64 (85 + 95 * (x3 - x2 + 1) + wrap64 ((85 + 95 * (x3 - x2 + 1)) / 2)) * x8)) x5).bind _ = _
    rw [w64 (x := (85 + 95 * (x3 - x2 + 1)) / 2) (by omega) (by omega), w64 (x := 85 + 95 * (x3 - x2 + 1) + (85 + 95 * (x3 - x2 + 1)) / 2) (by omega) (by omega), ← priceOf_one, w64 (by omega) (by omega)]
    rfl
  · rw [if_neg hc]
    show (fare_Cut.f (wrap64 ((85 + 95 * (x3 - x2 + 1)) * x8)) x5).bind _ = _
    rw [← priceOf_not hc, w64 (by omega) (by omega)]
    rfl
theorem season_bounds {x2 x3 x8 : Int} (x4 : Int) (h2 : 1 ≤ x2) (h3 : x2 ≤ x3) (h6 : x3 ≤ 6) (d0 : 1 ≤ x8) (d1 : x8 ≤ 999) : 180 ≤ seasonP x2 x3 x4 x8 ∧ seasonP x2 x3 x4 x8 ≤ 1000000 := by
  obtain ⟨p0, p1⟩ := priceOf_bounds (z := x3 - x2 + 1) (c := x4) (by omega) (by omega)
  have m1 : priceOf (x3 - x2 + 1) x4 * x8 ≤ 1000 * 999 := Int.mul_le_mul p1 d1 (by omega) (by omega)
  have m2 : 180 * 1 ≤ priceOf (x3 - x2 + 1) x4 * x8 := Int.mul_le_mul p0 d0 (by omega) (by omega)
  unfold seasonP
  omega
/-- All legs' price out of one's. -/
def legsP (x1 x9 n : Int) : Int := if x1 = 2 then n * x9 - n * x9 / 10 else if x1 = 4 then n * x9 - n * x9 / 5 else n * x9
theorem cut_most {p n : Int} (h0 : 0 ≤ p) (h1 : p ≤ 1000) : (cutR p n).1 ≤ 1000 := by
  by_cases c : p < 0 ∨ p > 1000000000 ∨ n < 0 ∨ n > 3
  · rw [cutR_out c]
    decide
  · have := cut_none (n := n) h0 (by omega) (by omega)
    have h2 : (cutR p 0).1 ≤ 1000 := by
      rw [cutR_in (by omega), if_pos rfl, mx_def, mn_def]
      show (if p - 0 < (if 100 < p then 100 else p) then (if 100 < p then 100 else p) else p - 0) ≤ 1000
      split <;> omega
    omega
theorem core_other {x1 x2 x3 x4 x5 x9 : Int} (k : Nat) (x8 : Int) (hk : x1 ≠ 3) (hin : (0 ≤ x2 ∧ x2 < 40 ∧ 0 ≤ x3 ∧ x3 < 40) ∧ (x4 = 1 ∨ x4 = 2)) (h5 : 0 ≤ x5 ∧ x5 ≤ 3) (u0 : 1 ≤ x9) (u1 : x9 ≤ 20) :
    core (k + 1) x1 x2 x3 x4 x5 x8 x9 = some (legsP x1 x9 (singleR x2 x3 x4 x5).1, 0) ∧ (singleR x2 x3 x4 x5).2 = 0 ∧ 100 ≤ (singleR x2 x3 x4 x5).1 ∧ (singleR x2 x3 x4 x5).1 ≤ 1000 := by
  obtain ⟨z0, z1, z2⟩ := zone_bounds hin.1
  obtain ⟨p0, p1⟩ := priceOf_bounds (z := 1 + highZ x2 x3 - lowZ x2 x3) (c := x4) (by omega) (by omega)
  have e2 : (singleR x2 x3 x4 x5).2 = 0 := by
    rw [singleR_in hin]
    exact cut_fine (by omega) (by omega) h5
  have e3 : 100 ≤ (singleR x2 x3 x4 x5).1 := by
    rw [singleR_in hin]
    exact cut_least p0 (by omega) h5
  have e4 : (singleR x2 x3 x4 x5).1 ≤ 1000 := by
    rw [singleR_in hin]
    exact cut_most (by omega) p1
  refine ⟨?_, e2, e3, e4⟩
  unfold core legsP
  rw [if_neg hk, single_f, Option.bind_some, if_pos e2]
  generalize (singleR x2 x3 x4 x5).1 = n at *
  have m0 : 0 ≤ n * x9 := Int.mul_nonneg (by omega) (by omega)
  have m1 : n * x9 ≤ 1000 * 20 := Int.mul_le_mul e4 u1 (by omega) (by omega)
  rw [w64 (x := n * x9) (by omega) (by omega), tdiv_pos _ _ m0, tdiv_pos _ _ m0]
  generalize n * x9 = q at *
  by_cases h1 : x1 = 2
  · rw [if_pos h1, if_pos h1, w64 (x := q / 10) (by omega) (by omega), w64 (by omega) (by omega)]
  · rw [if_neg h1, if_neg h1]
    by_cases h2 : x1 = 4
    · rw [if_pos h2, if_pos h2, w64 (x := q / 5) (by omega) (by omega), w64 (by omega) (by omega)]
    · rw [if_neg h2, if_neg h2]
theorem legs_mono {x1 x9 n m : Int} (h : n ≤ m) (u0 : 1 ≤ x9) : legsP x1 x9 n ≤ legsP x1 x9 m := by
  have hm : n * x9 ≤ m * x9 := Int.mul_le_mul_of_nonneg_right h (by omega)
  unfold legsP
  generalize n * x9 = p at *
  generalize m * x9 = q at *
  split
  · omega
  · split <;> omega
theorem legs_least {x1 x9 n : Int} (h : 100 ≤ n) (u0 : 1 ≤ x9) : 1 ≤ legsP x1 x9 n := by
  have hm : 100 * 1 ≤ n * x9 := Int.mul_le_mul h u0 (by omega) (by omega)
  unfold legsP
  generalize n * x9 = p at *
  split
  · omega
  · split <;> omega
theorem legs_most {x1 x9 n : Int} (h : 100 ≤ n) (u0 : 1 ≤ x9) : legsP x1 x9 n ≤ x9 * n := by
  have hm : 100 * 1 ≤ n * x9 := Int.mul_le_mul h u0 (by omega) (by omega)
  rw [Int.mul_comm x9 n]
  unfold legsP
  generalize n * x9 = p at *
  split
  · omega
  · split <;> omega
theorem TicketCosts_walk (x0 x1 x2 x3 x4 x5 x6 x7 x8 x9 x10 : Int) (w : World) :
    Calls Try.prog 8 #[.agg #[.int .i64 x0, .int .i64 x1, .int .i64 x2, .int .i64 x3, .int .i64 x4, .int .i64 x5, .int .i64 x6, .int .i64 x7, .int .i64 x8, .int .i64 x9, .int .i64 x10]] w fun e w' => e = .returned (.bool true) ∧ Below w.heap.size w w' := by
  obtain ⟨K, e⟩ := sold_ev
  have e0 := e K (Nat.le_refl _)
  by_cases hB : isB x0 x1 x2 x3 x4 x5 x6 x7 x8 x9 x10 = true
  · obtain ⟨hP, hpl, hu⟩ := (isB_iff x0 x1 x2 x3 x4 x5 x6 x7 x8 x9 x10).1 hB
    have hB0 : isB x0 x1 x2 x3 x4 0 x6 x7 x8 x9 x10 = true := (isB_iff x0 x1 x2 x3 x4 0 x6 x7 x8 x9 x10).2 ⟨by unfold plainP at *; omega, hpl, hu⟩
    unfold plainP at hP
    by_cases hk : x1 = 3
    · subst hk
      have hz : 1 ≤ x2 ∧ x2 ≤ x3 ∧ x3 ≤ 6 := by
        unfold placeB zonesB betw at hpl
        rw [if_pos rfl] at hpl
        simp only [Bool.and_eq_true, decide_eq_true_eq] at hpl
        omega
      obtain ⟨s0, s1⟩ := season_bounds (x2 := x2) (x3 := x3) (x8 := x8) x4 hz.1 hz.2.1 hz.2.2 (by omega) (by omega)
      have ec : ∀ c : Int, 0 ≤ c ∧ c ≤ 3 → core 1 3 x2 x3 x4 c x8 x9 = some ((cutR (seasonP x2 x3 x4 x8) c).1, 0) := fun c hc => by
        unfold core
        rw [if_pos rfl, season_f 0 3 c 0 0 x9 0 hz.1 hz.2.1 hz.2.2 (by omega) (by omega), Option.bind_some, cut_fine (by omega) (by omega) hc]
      have l1 := cut_least (p := seasonP x2 x3 x4 x8) (n := x5) s0 (by omega) (by omega)
      have l2 := cut_none (p := seasonP x2 x3 x4 x8) (n := x5) (by omega) (by omega) (by omega)
      exact costs_season_walk x0 x2 x3 x4 x5 x6 x7 x8 x9 x10 _ _ w (by rw [price_core, if_pos hB]; exact ec x5 (by omega)) (by rw [price_core, if_pos hB0]; exact ec 0 (by omega)) l2 (by omega) K e0
    · have hw : (0 ≤ x2 ∧ x2 < 40 ∧ 0 ≤ x3 ∧ x3 < 40) := by
        obtain ⟨l2, l3⟩ := isB_way hB hk
        have a2 := of_decide_eq_true l2
        have a3 := of_decide_eq_true l3
        omega
      have hus : 1 ≤ x9 ∧ x9 ≤ 20 ∧ (x1 = 1 → x9 = 1) := by
        unfold usesB betw at hu
        split at hu
        · have := beq_iff_eq.1 hu
          omega
        · split at hu
          · have := beq_iff_eq.1 hu
            omega
          · have := of_decide_eq_true hu
            omega
      have hin : (0 ≤ x2 ∧ x2 < 40 ∧ 0 ≤ x3 ∧ x3 < 40) ∧ (x4 = 1 ∨ x4 = 2) := ⟨hw, by omega⟩
      obtain ⟨c1, c2, c3, c4⟩ := core_other (x1 := x1) (x5 := x5) 0 x8 hk hin (by omega) hus.1 hus.2.1
      obtain ⟨d1, d2, d3, d4⟩ := core_other (x1 := x1) (x5 := 0) 0 x8 hk hin (by omega) hus.1 hus.2.1
      have hle : (singleR x2 x3 x4 x5).1 ≤ (singleR x2 x3 x4 0).1 := by
        obtain ⟨z0, z1, z2⟩ := zone_bounds hin.1
        obtain ⟨p0, p1⟩ := priceOf_bounds (z := 1 + highZ x2 x3 - lowZ x2 x3) (c := x4) (by omega) (by omega)
        rw [singleR_in (n := x5) hin, singleR_in (n := 0) hin]
        exact cut_none (by omega) (by omega) (by omega)
      have g1 := legs_mono (x1 := x1) hle hus.1
      have g2 := legs_least (x1 := x1) c3 hus.1
      have g3 := legs_most (x1 := x1) c3 hus.1
      have g4 : x9 * (singleR x2 x3 x4 x5).1 ≤ 20 * 1000 := Int.mul_le_mul hus.2.1 c4 (by omega) (by omega)
      have g5 : 0 ≤ x9 * (singleR x2 x3 x4 x5).1 := Int.mul_nonneg (by omega) (by omega)
      have hs : fare_Single.f 1 x2 x3 x4 x5 = some ((singleR x2 x3 x4 x5).1, 0) := by
        rw [single_f 0 x2 x3 x4 x5]
        exact congrArg some (Prod.ext rfl c2)
      have hwr : wrap64 (x9 * (singleR x2 x3 x4 x5).1) = x9 * (singleR x2 x3 x4 x5).1 := w64 (by omega) (by omega)
      have hp : ticket_Price.f 1 x0 x1 x2 x3 x4 x5 x6 x7 x8 x9 x10 = some (legsP x1 x9 (singleR x2 x3 x4 x5).1, 0) := by
        rw [price_core, if_pos hB]
        exact c1
      have hp0 : ticket_Price.f 1 x0 x1 x2 x3 x4 0 x6 x7 x8 x9 x10 = some (legsP x1 x9 (singleR x2 x3 x4 0).1, 0) := by
        rw [price_core, if_pos hB0]
        exact d1
      by_cases h1 : x1 = 1
      · subst h1
        have hn : legsP 1 x9 (singleR x2 x3 x4 x5).1 = (singleR x2 x3 x4 x5).1 := by
          rw [hus.2.2 rfl]
          unfold legsP
          rw [if_neg (by decide), if_neg (by decide), Int.mul_one]
        rw [hn] at hp g1 g2 g3
        exact costs_one_walk x0 x2 x3 x4 x5 x6 x7 x8 x9 x10 _ _ w hp hp0 hs g1 g2 hwr g3 K e0
      · exact costs_more_walk x0 x1 x2 x3 x4 x5 x6 x7 x8 x9 x10 _ _ _ w hp hp0 hs g1 g2 hwr g3 h1 hk K e0
  · rw [Bool.not_eq_true] at hB
    exact costs_bad x0 x1 x2 x3 x4 x5 x6 x7 x8 x9 x10 w hB K e0
end Go.Proofs.Ytdiijjdhofaodaa.Pure
