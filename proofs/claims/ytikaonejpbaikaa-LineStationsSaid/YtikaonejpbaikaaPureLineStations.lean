/- A station is one of those of its zone, once, and they rise: for any three ints. -/
import Derived.Test.YtikaonejpbaikaaPLine
import Derived.Test.YtikaonejpbaikaaPLx4
namespace Go.Proofs.Ytikaonejpbaikaa.Pure
open Go Go.RowKit Go.Proofs.Ytikaonejpbaikaa.G Go.Proofs.Ytikaonejpbaikaa.PL Go.Proofs.YtikaonejpbaikaaW.PrintWords Go.Proofs.YtikaonejpbaikaaW.PrintLast Go.Proofs.YtikaonejpbaikaaW.PrintMore
theorem stat_fin : ∀ a b : Fin 7, 1 ≤ a.val → a ≤ b → ∀ s : Fin 40, gatelinelaw07_LineStations.f 120 a.val b.val s.val = some true := by decide +kernel
theorem lined119 : gatelinelaw07_lined.f 119 = some true := by decide +kernel
theorem stat_true (k : Nat) (a b s : Int) (l : List Int) (e z : Int) (h : gatelinelaw07_lined.f k = some true) (hl : l = [] ∨ e = 0) : gatelinelaw07_LineStations.j0 (k + 1) a b s l e z true = some true := by
  rw [gatelinelaw07_LineStations.j0, if_pos rfl, h, Option.bind_some, if_pos rfl]
  by_cases c : (l.length : Int) = 0
  · rw [if_pos c]
  · rw [if_neg c]
    rcases hl with rfl | rfl
    · exact absurd rfl c
    · rfl
theorem LineStations : gatelinelaw07_LineStations.Pure := by
  intro a b s _ _ hs
  refine ⟨120, ?_⟩
  by_cases h : 1 ≤ a ∧ a ≤ b ∧ b ≤ 6
  · by_cases hz : 0 ≤ s ∧ s < 40
    · have hs := stat_fin ⟨a.toNat, by omega⟩ ⟨b.toNat, by omega⟩ (by show 1 ≤ a.toNat; omega) (by show a.toNat ≤ b.toNat; omega) ⟨s.toNat, by omega⟩
      have ea : ((a.toNat : Nat) : Int) = a := by omega
      have eb : ((b.toNat : Nat) : Int) = b := by omega
      have es : ((s.toNat : Nat) : Int) = s := by omega
      simp only [ea, eb, es] at hs
      exact hs
    · unfold gatelinelaw07_LineStations.f
      rw [show line_Stations.f a b = some (stationsR a b) from rfl, Option.bind_some, zone_f s (i64_of hs), Option.bind_some, show stationsR a b = (stOf a b (List.range 40), 0) from if_pos h, if_pos rfl, zoneR_out hz]
      exact stat_true 119 _ _ _ _ _ _ lined119 (.inr rfl)
  · unfold gatelinelaw07_LineStations.f
    rw [show line_Stations.f a b = some (stationsR a b) from rfl, Option.bind_some, zone_f s (i64_of hs), Option.bind_some, show stationsR a b = ([], 1) from if_neg h, if_neg (by decide)]
    exact stat_true 119 _ _ _ _ _ _ lined119 (.inl rfl)
end Go.Proofs.Ytikaonejpbaikaa.Pure
