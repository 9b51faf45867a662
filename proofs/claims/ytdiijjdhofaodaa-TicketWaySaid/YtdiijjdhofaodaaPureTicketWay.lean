/- A right ticket covers the stations of its zones, or of its way, with both ends: for any ticket. -/
import Derived.Test.YtdiijjdhofaodaaPWay
import Derived.Test.YtdiijjdhofaodaaPdefTicketWay
namespace Go.Proofs.Ytdiijjdhofaodaa.Pure
open Go Go.RowKit Go.Proofs.Ytdiijjdhofaodaa.G Go.Proofs.Ytdiijjdhofaodaa.PL Go.Proofs.YtdiijjdhofaodaaW.PrintWords Go.Proofs.YtdiijjdhofaodaaW.PrintLast Go.Proofs.YtdiijjdhofaodaaW.PrintMore
theorem way_loop (k x0 x1 x2 x3 x4 x5 x6 x7 x8 x9 x10 : Int) (K : Nat) (P : Nat → Bool) (hc : ∀ s : Nat, s < 40 → ticket_Covers.f x0 x1 x2 x3 x4 x5 x6 x7 x8 x9 x10 (s : Int) = some (P s, 0)) :
    ∀ (j s n : Nat), s + j = 40 → n ≤ s → k = 0 → gatelinelaw09_TicketWay.l0 (K + 1 + j) (n : Int) (s : Int) x0 x1 x2 x3 x4 x5 x6 x7 x8 x9 x10 = gatelinelaw09_TicketWay.l0 (K + 1) ((n + cnt P s j : Nat) : Int) 40 x0 x1 x2 x3 x4 x5 x6 x7 x8 x9 x10
  | 0, s, n, h, _, _ => by
    have e : s = 40 := by omega
    subst e
    rfl
  | j + 1, s, n, h, hn, hk => by
    rw [show K + 1 + (j + 1) = (K + 1 + j) + 1 by omega, gatelinelaw09_TicketWay.l0, if_pos (by omega), hc s (by omega), Option.bind_some, if_pos rfl]
    have e1 : wrap64 ((s : Int) + 1) = ((s + 1 : Nat) : Int) := by rw [w64 (by omega) (by omega)]; omega
    have e2 : wrap64 ((n : Int) + 1) = ((n + 1 : Nat) : Int) := by rw [w64 (by omega) (by omega)]; omega
    rw [e1, e2]
    cases hp : P s
    · rw [if_neg (by decide), way_loop k x0 x1 x2 x3 x4 x5 x6 x7 x8 x9 x10 K P hc j (s + 1) n (by omega) (by omega) hk]
      rw [show cnt P s (j + 1) = cnt P (s + 1) j by rw [cnt, hp, if_neg (by decide)]; omega]
    · rw [if_pos rfl, way_loop k x0 x1 x2 x3 x4 x5 x6 x7 x8 x9 x10 K P hc j (s + 1) (n + 1) (by omega) (by omega) hk]
      rw [show n + cnt P s (j + 1) = n + 1 + cnt P (s + 1) j by rw [cnt, hp, if_pos rfl]; omega]
theorem TicketWay : gatelinelaw09_TicketWay.Pure := by
  intro x0 x1 x2 x3 x4 x5 x6 x7 x8 x9 x10 _ _ _ _ _ _ _ _ _ _ _
  obtain ⟨K, e⟩ := sold_ev
  refine ⟨K + 1 + 40, ?_⟩
  have e0 := e K (Nat.le_refl _)
  unfold gatelinelaw09_TicketWay.f
  rw [show ticket_Is.f x0 x1 x2 x3 x4 x5 x6 x7 x8 x9 x10 = some (isB x0 x1 x2 x3 x4 x5 x6 x7 x8 x9 x10) from rfl, Option.bind_some]
  by_cases hB : isB x0 x1 x2 x3 x4 x5 x6 x7 x8 x9 x10 = true
  · obtain ⟨hP, hpl, hu⟩ := (isB_iff x0 x1 x2 x3 x4 x5 x6 x7 x8 x9 x10).1 hB
    rw [if_pos hB]
    by_cases hk : x1 = 3
    · subst hk
      have hz : 1 ≤ x2 ∧ x2 ≤ x3 ∧ x3 ≤ 6 := by
        unfold placeB zonesB betw at hpl
        rw [if_pos rfl] at hpl
        simp only [Bool.and_eq_true, decide_eq_true_eq] at hpl
        omega
      have hl := way_loop 0 x0 3 x2 x3 x4 x5 x6 x7 x8 x9 x10 K (fun s => betw (zv s) x2 x3) (fun s hs => by
        rw [covers_f _ _ _ _ _ _ _ _ _ _ _ _ (by omega), coversR_in _ _ _ _ _ _ _ _ _ _ _ _ hB (by omega), if_pos rfl]) 40 0 0 rfl (Nat.le_refl _) rfl
      have hf := season_fin ⟨x2.toNat, by omega⟩ ⟨x3.toNat, by omega⟩ (by show 1 ≤ x2.toNat; omega) (by show x2.toNat ≤ x3.toNat; omega)
      have ea : ((x2.toNat : Nat) : Int) = x2 := by omega
      have eb : ((x3.toNat : Nat) : Int) = x3 := by omega
      simp only [ea, eb] at hf
      refine hl.trans ?_
      rw [gatelinelaw09_TicketWay.l0, if_neg (by decide), if_pos rfl, show line_Stations.f x2 x3 = some (stationsR x2 x3) from rfl, Option.bind_some, e0, Option.bind_some, if_pos rfl, stationsR_in hz, if_pos rfl, hf]
      simp
    · obtain ⟨l2, l3⟩ := isB_way hB hk
      have a2 := of_decide_eq_true l2
      have a3 := of_decide_eq_true l3
      have hl := way_loop 0 x0 x1 x2 x3 x4 x5 x6 x7 x8 x9 x10 K (fun s => decide (mn x2 x3 ≤ s ∧ (s : Int) ≤ mx x2 x3)) (fun s hs => by
        rw [covers_f _ _ _ _ _ _ _ _ _ _ _ _ (by omega), coversR_in _ _ _ _ _ _ _ _ _ _ _ _ hB (by omega), if_neg hk]) 40 0 0 rfl (Nat.le_refl _) rfl
      have hf := way_fin ⟨x2.toNat, by omega⟩ ⟨x3.toNat, by omega⟩
      have ea : ((x2.toNat : Nat) : Int) = x2 := by omega
      have eb : ((x3.toNat : Nat) : Int) = x3 := by omega
      simp only [ea, eb] at hf
      have t2 : decide (mn x2 x3 ≤ x2 ∧ x2 ≤ mx x2 x3) = true := decide_eq_true (by rw [mn_def, mx_def]; split <;> split <;> omega)
      have t3 : decide (mn x2 x3 ≤ x3 ∧ x3 ≤ mx x2 x3) = true := decide_eq_true (by rw [mn_def, mx_def]; split <;> split <;> omega)
      refine hl.trans ?_
      rw [gatelinelaw09_TicketWay.l0, if_neg (by decide), if_neg hk, covers_f _ _ _ _ _ _ _ _ _ _ _ x2 (by omega), Option.bind_some, covers_f _ _ _ _ _ _ _ _ _ _ _ x3 (by omega), Option.bind_some, e0, Option.bind_some, if_pos rfl, coversR_in _ _ _ _ _ _ _ _ _ _ _ x2 hB (by omega), coversR_in _ _ _ _ _ _ _ _ _ _ _ x3 hB (by omega), if_neg hk, if_neg hk, t2, t3, if_pos rfl, if_pos rfl, if_pos rfl, if_pos rfl, w64 (x := x3 - x2) (by omega) (by omega), w64 (x := x3 - x2 + 1) (by omega) (by omega), w64 (x := x2 - x3) (by omega) (by omega), w64 (x := x2 - x3 + 1) (by omega) (by omega), Nat.zero_add]
      rcases hf with hf | hf
      · rw [if_pos hf]
      · rw [hf]
        split
        · rfl
        · simp
  · rw [if_neg hB, e (K + 1 + 40) (by omega)]
    rfl
end Go.Proofs.Ytdiijjdhofaodaa.Pure
