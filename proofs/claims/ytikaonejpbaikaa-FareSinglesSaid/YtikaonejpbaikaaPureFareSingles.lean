/- A way has just the reference's price, or is refused: for any four ints. -/
import Derived.Test.YtikaonejpbaikaaPSingle
import Derived.Test.YtikaonejpbaikaaPLineZ
import Derived.Test.YtikaonejpbaikaaPLx5
import Derived.Test.YtikaonejpbaikaaPLx6
namespace Go.Proofs.Ytikaonejpbaikaa.Pure
open Go Go.RowKit Go.Proofs.Ytikaonejpbaikaa.G Go.Proofs.Ytikaonejpbaikaa.PL Go.Proofs.YtikaonejpbaikaaW.PrintWords Go.Proofs.YtikaonejpbaikaaW.PrintLast Go.Proofs.YtikaonejpbaikaaW.PrintMore
theorem refZones_evF (a b : Int) : Ev (fun k => gatelineref07_Zones.f k a b) (zonesR a b) := by
  by_cases h : 0 ≤ a ∧ a < 40 ∧ 0 ≤ b ∧ b < 40
  · have hs := refZones_fin ⟨a.toNat, by omega⟩ ⟨b.toNat, by omega⟩
    have ea : ((a.toNat : Nat) : Int) = a := by omega
    have eb : ((b.toNat : Nat) : Int) = b := by omega
    simp only [ea, eb] at hs
    exact Ev.of (fun k => gatelineref07_Zones.mono a b k) hs
  · refine Ev.of (fun k => gatelineref07_Zones.mono a b k) (k := 1) ?_
    rw [zonesR_out h]
    unfold gatelineref07_Zones.f
    rw [refIs_f, refIs_f]
    simp only [Option.bind_some]
    by_cases ha : 0 ≤ a ∧ a < 40
    · rw [stB_in ha, if_pos rfl, stB_out (s := b) (by omega)]
      rfl
    · rw [stB_out ha, if_neg (by decide)]
      rfl
theorem refSingle_j_true (k : Nat) (c n lo hi : Int) : gatelineref08_Single.j0 (k + 1) c n lo hi true = some (0, 1) := by
  rw [gatelineref08_Single.j0, if_pos rfl]
theorem refSingle_j (k : Nat) (c n lo hi : Int) (h0 : 1 ≤ lo) (h1 : lo ≤ hi) (h2 : hi ≤ 6) : gatelineref08_Single.j0 (k + 1) c n lo hi false = some (cutR (priceOf (1 + hi - lo) c) n) := by
  rw [gatelineref08_Single.j0, if_neg (by decide), w64 (x := hi - lo) (by omega) (by omega), w64 (x := hi - lo + 1) (by omega) (by omega), refBase_f, Option.bind_some, baseR_in (by omega), show hi - lo + 1 = 1 + hi - lo by omega]
  by_cases hc : c = 1
  · subst hc
    rw [if_pos rfl, tdiv_pos _ _ (by show 0 ≤ 85 + 95 * (1 + hi - lo); omega), priceOf_one]
    show (gatelineref08_Cut.f (wrap64 (85 + 95 * (1 + hi - lo) + wrap64 ((85 + 95 * (1 + hi - lo)) / 2))) n).bind _ = _
    rw [w64 (x := (85 + 95 * (1 + hi - lo)) / 2) (by omega) (by omega), w64 (by omega) (by omega), refCut_f]
    rfl
  · rw [if_neg hc, priceOf_not hc]
    show (gatelineref08_Cut.f (85 + 95 * (1 + hi - lo)) n).bind _ = _
    rw [refCut_f]
    rfl
theorem refSingle_ev (a b c n : Int) : Ev (fun k => gatelineref08_Single.f k a b c n) (singleR a b c n) := by
  obtain ⟨K, e⟩ := refZones_evF a b
  refine ⟨K + 1, fun k hk => ?_⟩
  obtain ⟨j, rfl⟩ : ∃ j, k = j + 1 := ⟨k - 1, by omega⟩
  have e1 : gatelineref07_Zones.f (j + 1) a b = _ := e (j + 1) (by omega)
  show gatelineref08_Single.f (j + 1) a b c n = _
  unfold gatelineref08_Single.f
  rw [e1, Option.bind_some]
  by_cases h : 0 ≤ a ∧ a < 40 ∧ 0 ≤ b ∧ b < 40
  · obtain ⟨z0, z1, z2⟩ := zone_bounds h
    have hp := priceOf_bounds (z := 1 + highZ a b - lowZ a b) (c := c) (by omega) (by omega)
    rw [zonesR_in h, if_pos rfl]
    by_cases c1 : c < 1
    · rw [if_pos c1, show singleR a b c n = (0, 1) from if_neg (by omega)]
      exact refSingle_j_true j _ _ _ _
    rw [if_neg c1]
    by_cases c2 : c > 2
    · rw [if_pos c2, show singleR a b c n = (0, 1) from if_neg (by omega)]
      exact refSingle_j_true j _ _ _ _
    rw [if_neg c2, singleR_in ⟨h, by omega⟩]
    by_cases c3 : n < 0
    · rw [if_pos c3, cutR_out (by omega)]
      exact refSingle_j_true j _ _ _ _
    rw [if_neg c3]
    by_cases c4 : n > 3
    · rw [decide_eq_true c4, cutR_out (by omega)]
      exact refSingle_j_true j _ _ _ _
    · rw [decide_eq_false c4]
      exact refSingle_j j c n _ _ z0 z1 z2
  · rw [zonesR_out h, if_neg (by decide), show singleR a b c n = (0, 1) from if_neg (by omega)]
    exact refSingle_j_true j _ _ _ _
theorem FareSingles : gatelinelaw08_FareSingles.Pure := by
  intro a b c n _ _ _ _
  obtain ⟨K, e⟩ := priced_ev
  obtain ⟨K1, e1⟩ := refSingle_ev a b c n
  refine ⟨K + K1 + 1, ?_⟩
  have f1 : gatelineref08_Single.f (K + K1 + 1) a b c n = _ := e1 (K + K1 + 1) (by omega)
  unfold gatelinelaw08_FareSingles.f
  rw [single_f, Option.bind_some, f1, Option.bind_some, e (K + K1 + 1) (by omega), Option.bind_some, if_pos rfl, if_pos rfl]
  simp
end Go.Proofs.Ytikaonejpbaikaa.Pure
