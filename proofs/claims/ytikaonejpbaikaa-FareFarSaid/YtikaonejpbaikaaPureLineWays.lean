/- The way back has the same stations and zones, and who is on the way is within them: for any three ints. -/
import Derived.Test.YtikaonejpbaikaaPLine
import Derived.Test.YtikaonejpbaikaaPLx3
namespace Go.Proofs.Ytikaonejpbaikaa.Pure
open Go Go.RowKit Go.Proofs.Ytikaonejpbaikaa.G Go.Proofs.Ytikaonejpbaikaa.PL Go.Proofs.YtikaonejpbaikaaW.PrintWords Go.Proofs.YtikaonejpbaikaaW.PrintLast Go.Proofs.YtikaonejpbaikaaW.PrintMore
theorem mn_comm (a b : Int) : mn a b = mn b a := by
  rw [mn_def, mn_def]
  split <;> split <;> omega
theorem mx_comm (a b : Int) : mx a b = mx b a := by
  rw [mx_def, mx_def]
  split <;> split <;> omega
theorem betR_comm (a b s : Int) : betR a b s = betR b a s := by
  unfold betR
  rw [mn_comm a b, mx_comm a b, Bool.and_comm (stB a)]
theorem zonesR_comm (a b : Int) : zonesR a b = zonesR b a := by
  by_cases h : 0 ≤ a ∧ a < 40 ∧ 0 ≤ b ∧ b < 40
  · rw [zonesR_in h, zonesR_in (by omega)]
    unfold lowZ highZ
    rw [mn_comm a b, mx_comm a b, mn_comm (zv a), mx_comm (zv a)]
  · rw [zonesR_out h, zonesR_out (by omega)]
theorem on_way {a b s : Int} (h : betR a b s = (true, 0)) : (0 ≤ a ∧ a < 40 ∧ 0 ≤ b ∧ b < 40) ∧ (0 ≤ s ∧ s < 40) ∧ mn a b ≤ s ∧ s ≤ mx a b := by
  unfold betR at h
  by_cases c : (stB a && stB b && stB s) = true
  · rw [if_pos c] at h
    simp only [Bool.and_eq_true] at c
    obtain ⟨⟨ca, cb⟩, cs⟩ := c
    have ha := of_decide_eq_true ca
    have hb := of_decide_eq_true cb
    have hs := of_decide_eq_true cs
    have hd : decide (mn a b ≤ s ∧ s ≤ mx a b) = true := congrArg Prod.fst h
    exact ⟨⟨ha.1, ha.2, hb.1, hb.2⟩, hs, of_decide_eq_true hd⟩
  · rw [if_neg c] at h
    exact absurd (congrArg Prod.snd h) (by decide)
theorem within {a b s : Int} (h : 0 ≤ a ∧ a < 40 ∧ 0 ≤ b ∧ b < 40) (h1 : mn a b ≤ s) (h2 : s ≤ mx a b) : lowZ a b ≤ zv s ∧ zv s ≤ highZ a b := by
  unfold lowZ highZ
  simp only [zv_def, mn_def, mx_def] at *
  repeat' split at *
  all_goals omega
theorem LineWays : gatelinelaw07_LineWays.Pure := by
  intro a b s _ _ hs
  obtain ⟨K, e⟩ := lined_ev
  refine ⟨K + 3, ?_⟩
  have e0 := e K (Nat.le_refl _)
  have hz := i64_of hs
  unfold gatelinelaw07_LineWays.f
  rw [bet_f, Option.bind_some, bet_f, Option.bind_some, betR_comm b a, if_pos rfl, show ((betR a b s).1 != (betR a b s).1) = false by simp, gatelinelaw07_LineWays.j0, if_neg (by decide), show line_Zones.f a b = some (zonesR a b) from rfl, Option.bind_some, show line_Zones.f b a = some (zonesR b a) from rfl, Option.bind_some, zone_f s hz, Option.bind_some, zonesR_comm b a, if_pos rfl, if_pos rfl, show ((zonesR a b).2.1 != (zonesR a b).2.1) = false by simp, gatelinelaw07_LineWays.j1, if_neg (by decide)]
  have ht : gatelinelaw07_LineWays.j2 (K + 1) (zonesR a b).1 (zonesR a b).2.1 (zonesR a b).2.2 (zoneR s).1 (zoneR s).2 true = some true := by
    rw [gatelinelaw07_LineWays.j2, if_pos rfl, e0]
    rfl
  by_cases c0 : (betR a b s).2 = 0
  · rw [if_pos c0]
    by_cases c1 : (betR a b s).1 = true
    · obtain ⟨hab, hs', h1, h2⟩ := on_way (a := a) (b := b) (s := s) (Prod.ext c1 c0)
      obtain ⟨l1, l2⟩ := within hab h1 h2
      rw [c1, zonesR_in hab, zoneR_in hs', gatelinelaw07_LineWays.j2, if_neg (by decide), e0, Option.bind_some, if_pos rfl, if_pos rfl, if_pos rfl, if_pos l1, decide_eq_true l2]
    · rw [Bool.not_eq_true] at c1
      rw [c1]
      exact ht
  · rw [if_neg c0]
    exact ht
end Go.Proofs.Ytikaonejpbaikaa.Pure
