/- A way goes through just the reference's zones, and zones have just its stations: for any two ints. -/
import Derived.Test.YtikaonejpbaikaaPLineZ
import Derived.Test.YtikaonejpbaikaaPLineS
import Derived.Test.YtikaonejpbaikaaPLx2
namespace Go.Proofs.Ytikaonejpbaikaa.Pure
open Go Go.RowKit Go.Proofs.Ytikaonejpbaikaa.G Go.Proofs.Ytikaonejpbaikaa.PL Go.Proofs.YtikaonejpbaikaaW.PrintWords Go.Proofs.YtikaonejpbaikaaW.PrintLast Go.Proofs.YtikaonejpbaikaaW.PrintMore
theorem refZones_ev (a b : Int) : Ev (fun k => gatelineref07_Zones.f k a b) (zonesR a b) := by
  by_cases h : 0 ≤ a ∧ a < 40 ∧ 0 ≤ b ∧ b < 40
  · have hs := refZones_fin ⟨a.toNat, by omega⟩ ⟨b.toNat, by omega⟩
    have ea : ((a.toNat : Nat) : Int) = a := by omega
    have eb : ((b.toNat : Nat) : Int) = b := by omega
    simp only [ea, eb] at hs
    exact Ev.of (fun k => gatelineref07_Zones.mono a b k) hs
  · refine Ev.of (fun k => gatelineref07_Zones.mono a b k) (k := 1) ?_
    rw [zonesR_out h]
    unfold gatelineref07_Zones.f
    rw [refIs_f, refIs_f]
    simp only [Option.bind_some]
    by_cases ha : 0 ≤ a ∧ a < 40
    · rw [stB_in ha, if_pos rfl, stB_out (s := b) (by omega)]
      rfl
    · rw [stB_out ha, if_neg (by decide)]
      rfl
theorem stationsR_in {a b : Int} (h : 1 ≤ a ∧ a ≤ b ∧ b ≤ 6) : stationsR a b = (stOf a b (List.range 40), 0) := if_pos h
theorem stationsR_out {a b : Int} (h : ¬ (1 ≤ a ∧ a ≤ b ∧ b ≤ 6)) : stationsR a b = ([], 1) := if_neg h
theorem same_nil : gatelineref07_Same.f 44 [] [] = some true := by decide +kernel
theorem stations_ev (a b : Int) : Ev (fun k => gatelineref07_Stations.f k a b) (stationsR a b) ∧ Ev (fun k => gatelineref07_Same.f k (stationsR a b).1 (stationsR a b).1) true := by
  by_cases h : 1 ≤ a ∧ a ≤ b ∧ b ≤ 6
  · have hs := refStations_fin ⟨a.toNat, by omega⟩ ⟨b.toNat, by omega⟩ (by show 1 ≤ a.toNat; omega) (by show a.toNat ≤ b.toNat; omega)
    have ea : ((a.toNat : Nat) : Int) = a := by omega
    have eb : ((b.toNat : Nat) : Int) = b := by omega
    simp only [ea, eb] at hs
    exact ⟨Ev.of (fun k => gatelineref07_Stations.mono a b k) hs.1, Ev.of (fun k => gatelineref07_Same.mono _ _ k) hs.2⟩
  · rw [stationsR_out h]
    refine ⟨Ev.of (fun k => gatelineref07_Stations.mono a b k) (k := 1) ?_, Ev.of (fun k => gatelineref07_Same.mono _ _ k) same_nil⟩
    unfold gatelineref07_Stations.f
    by_cases h1 : a < 1
    · rw [if_pos h1]
      rfl
    · rw [if_neg h1]
      by_cases h2 : a > b
      · rw [if_pos h2]
        rfl
      · rw [if_neg h2, decide_eq_true (by omega)]
        rfl
theorem LineZones : gatelinelaw07_LineZones.Pure := by
  intro a b _ _
  obtain ⟨K, e⟩ := lined_ev
  obtain ⟨K1, e1⟩ := refZones_ev a b
  obtain ⟨⟨K2, e2⟩, ⟨K3, e3⟩⟩ := stations_ev a b
  refine ⟨K + K1 + K2 + K3, ?_⟩
  generalize hk : K + K1 + K2 + K3 = k
  have f1 : gatelineref07_Zones.f k a b = _ := e1 k (by omega)
  have f2 : gatelineref07_Stations.f k a b = _ := e2 k (by omega)
  have f3 : gatelineref07_Same.f k (stationsR a b).1 (stationsR a b).1 = _ := e3 k (by omega)
  unfold gatelinelaw07_LineZones.f
  rw [show line_Zones.f a b = some (zonesR a b) from rfl, Option.bind_some, f1, Option.bind_some, show line_Stations.f a b = some (stationsR a b) from rfl, Option.bind_some, f2, Option.bind_some, e k (by omega), Option.bind_some, if_pos rfl, if_pos rfl, if_pos rfl, if_pos rfl, f3, Option.bind_some, if_pos rfl]
  simp
end Go.Proofs.Ytikaonejpbaikaa.Pure
