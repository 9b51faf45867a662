/- Plain laws of layer 23: what comes of entering or leaving is a journey of the ticket. -/
import Derived.Test.YtdiijjdhofaodaaP64
import Derived.Test.YtdiijjdhofaodaaGLeaveAny
set_option linter.unusedSimpArgs false
namespace Go.Proofs.Ytdiijjdhofaodaa.Pure
open Go Go.RowKit Go.Proofs.Ytdiijjdhofaodaa.G Go.Proofs.Ytdiijjdhofaodaa.PL Go.Proofs.YtdiijjdhofaodaaW.PrintWords Go.Proofs.YtdiijjdhofaodaaW.PrintLast Go.Proofs.YtdiijjdhofaodaaW.PrintMore
section
variable (x0 x1 x2 x3 x4 x5 x6 x7 x8 x9 x10 l i : Int)
/-- What comes of entering or leaving is a journey of the ticket. -/
theorem enter_jis (s : Int) (h : (enterR x0 x1 x2 x3 x4 x5 x6 x7 x8 x9 x10 l i s).2.2.2 = 0) : jisB x0 x1 x2 x3 x4 x5 x6 x7 x8 x9 x10 l i = true ∧ 0 ≤ s ∧ s < 40 ∧ jisB x0 x1 x2 x3 x4 x5 x6 x7 x8 x9 x10 (enterR x0 x1 x2 x3 x4 x5 x6 x7 x8 x9 x10 l i s).1 (enterR x0 x1 x2 x3 x4 x5 x6 x7 x8 x9 x10 l i s).2.1 = true ∧ ((enterR x0 x1 x2 x3 x4 x5 x6 x7 x8 x9 x10 l i s).2.2.1 = 0 → i = 0 ∧ (enterR x0 x1 x2 x3 x4 x5 x6 x7 x8 x9 x10 l i s).2.1 = s + 1 ∧ (x1 ≠ 3 → (enterR x0 x1 x2 x3 x4 x5 x6 x7 x8 x9 x10 l i s).1 = l - 1 ∧ 0 < l)) ∧ ((enterR x0 x1 x2 x3 x4 x5 x6 x7 x8 x9 x10 l i s).2.2.1 ≠ 0 → (enterR x0 x1 x2 x3 x4 x5 x6 x7 x8 x9 x10 l i s).1 = l ∧ (enterR x0 x1 x2 x3 x4 x5 x6 x7 x8 x9 x10 l i s).2.1 = i) := by
  unfold enterR at h ⊢
  rcases coversR_cases x0 x1 x2 x3 x4 x5 x6 x7 x8 x9 x10 s with hc | ⟨hc2, hs, hs2⟩
  · rw [hc, if_neg (by simp)] at h
    exact absurd h (by decide)
  · cases hJ : jisB x0 x1 x2 x3 x4 x5 x6 x7 x8 x9 x10 l i
    · rw [hJ, if_neg (by simp)] at h
      exact absurd h (by decide)
    · have hj := jisB_facts hJ
      have ec : (coversR x0 x1 x2 x3 x4 x5 x6 x7 x8 x9 x10 (s + 1 - 1)) = coversR x0 x1 x2 x3 x4 x5 x6 x7 x8 x9 x10 s := by rw [Int.add_sub_cancel]
      rw [if_pos ⟨hc2, rfl⟩]
      cases hb : (coversR x0 x1 x2 x3 x4 x5 x6 x7 x8 x9 x10 s).1
      · rw [if_neg (by decide)]
        exact ⟨rfl, hs, hs2, hJ, fun h => absurd h (by simp), fun _ => ⟨rfl, rfl⟩⟩
      · rw [if_pos rfl]
        by_cases hi : i = 0
        · rw [if_pos hi]
          by_cases h3 : x1 = 3
          · rw [if_pos h3]
            refine ⟨rfl, hs, hs2, ?_, fun _ => ⟨hi, rfl, fun h => absurd h3 h⟩, fun h => absurd rfl h⟩
            show jisB x0 x1 x2 x3 x4 x5 x6 x7 x8 x9 x10 0 (s + 1) = true
            unfold jisB suitsB
            rw [hj.1, ec, hb, decide_eq_true h3, decide_eq_true (show (0 : Int) ≤ 0 by omega), decide_eq_true (show 0 ≤ x9 by omega), decide_eq_true (show 0 ≤ s + 1 by omega), decide_eq_true (show s + 1 ≤ 40 by omega)]
            simp
          · rw [if_neg h3]
            by_cases hl : 0 < l
            · rw [if_pos hl]
              refine ⟨rfl, hs, hs2, ?_, fun _ => ⟨hi, rfl, fun _ => ⟨rfl, hl⟩⟩, fun h => absurd rfl h⟩
              show jisB x0 x1 x2 x3 x4 x5 x6 x7 x8 x9 x10 (l - 1) (s + 1) = true
              unfold jisB suitsB
              rw [hj.1, ec, hb, decide_eq_true (show 0 ≤ l - 1 by omega), decide_eq_true (show l - 1 ≤ x9 by omega), decide_eq_true (show 0 ≤ s + 1 by omega), decide_eq_true (show s + 1 ≤ 40 by omega), decide_eq_true (show l - 1 < x9 by omega)]
              simp
            · rw [if_neg hl]
              exact ⟨rfl, hs, hs2, hJ, fun h => absurd h (by simp), fun _ => ⟨rfl, rfl⟩⟩
        · rw [if_neg hi]
          exact ⟨rfl, hs, hs2, hJ, fun h => absurd h (by simp), fun _ => ⟨rfl, rfl⟩⟩
theorem leave_jis (s : Int) (h : (leaveR x0 x1 x2 x3 x4 x5 x6 x7 x8 x9 x10 l i s).2.2.2 = 0) : jisB x0 x1 x2 x3 x4 x5 x6 x7 x8 x9 x10 l i = true ∧ 0 ≤ s ∧ s < 40 ∧ jisB x0 x1 x2 x3 x4 x5 x6 x7 x8 x9 x10 (leaveR x0 x1 x2 x3 x4 x5 x6 x7 x8 x9 x10 l i s).1 (leaveR x0 x1 x2 x3 x4 x5 x6 x7 x8 x9 x10 l i s).2.1 = true ∧ ((leaveR x0 x1 x2 x3 x4 x5 x6 x7 x8 x9 x10 l i s).2.2.1 = 0 → i ≠ 0 ∧ (leaveR x0 x1 x2 x3 x4 x5 x6 x7 x8 x9 x10 l i s).2.1 = 0 ∧ (leaveR x0 x1 x2 x3 x4 x5 x6 x7 x8 x9 x10 l i s).1 = l) ∧ ((leaveR x0 x1 x2 x3 x4 x5 x6 x7 x8 x9 x10 l i s).2.2.1 ≠ 0 → (leaveR x0 x1 x2 x3 x4 x5 x6 x7 x8 x9 x10 l i s).1 = l ∧ (leaveR x0 x1 x2 x3 x4 x5 x6 x7 x8 x9 x10 l i s).2.1 = i) := by
  unfold leaveR at h ⊢
  rcases coversR_cases x0 x1 x2 x3 x4 x5 x6 x7 x8 x9 x10 s with hc | ⟨hc2, hs, hs2⟩
  · rw [hc, if_neg (by simp)] at h
    exact absurd h (by decide)
  · cases hJ : jisB x0 x1 x2 x3 x4 x5 x6 x7 x8 x9 x10 l i
    · rw [hJ, if_neg (by simp)] at h
      exact absurd h (by decide)
    · have hj := jisB_facts hJ
      rw [if_pos ⟨hc2, rfl⟩]
      cases hb : (coversR x0 x1 x2 x3 x4 x5 x6 x7 x8 x9 x10 s).1
      · rw [if_neg (by decide)]
        exact ⟨rfl, hs, hs2, hJ, fun h => absurd h (by simp), fun _ => ⟨rfl, rfl⟩⟩
      · rw [if_pos rfl]
        by_cases hi : i = 0
        · rw [if_pos hi]
          exact ⟨rfl, hs, hs2, hJ, fun h => absurd h (by simp), fun _ => ⟨rfl, rfl⟩⟩
        · rw [if_neg hi]
          by_cases hd : (x1 = 1 ∨ x1 = 2) ∧ ¬ (mn (i - 1) (toR x1 x2 x3 l) ≤ s ∧ s ≤ mx (i - 1) (toR x1 x2 x3 l))
          · rw [if_pos hd]
            exact ⟨rfl, hs, hs2, hJ, fun h => absurd h (by simp), fun _ => ⟨rfl, rfl⟩⟩
          · rw [if_neg hd]
            refine ⟨rfl, hs, hs2, ?_, fun _ => ⟨hi, rfl, rfl⟩, fun h => absurd rfl h⟩
            show jisB x0 x1 x2 x3 x4 x5 x6 x7 x8 x9 x10 l 0 = true
            unfold jisB suitsB
            rw [hj.1, decide_eq_true (show 0 ≤ l by omega), decide_eq_true (show l ≤ x9 by omega)]
            simp
theorem enter_code (s : Int) : (enterR x0 x1 x2 x3 x4 x5 x6 x7 x8 x9 x10 l i s).2.2.2 = if jisB x0 x1 x2 x3 x4 x5 x6 x7 x8 x9 x10 l i = true ∧ 0 ≤ s ∧ s < 40 then 0 else 1 := by
  unfold enterR
  rcases coversR_cases x0 x1 x2 x3 x4 x5 x6 x7 x8 x9 x10 s with hc | ⟨hc2, hs, hs2⟩
  · rw [hc, if_neg (by simp)]
    rw [if_neg]
    rintro ⟨h1, h2⟩
    rw [coversR_in x0 x1 x2 x3 x4 x5 x6 x7 x8 x9 x10 s (jisB_facts h1).1 h2] at hc
    exact absurd (Prod.mk.inj hc).2 (by decide)
  · cases hJ : jisB x0 x1 x2 x3 x4 x5 x6 x7 x8 x9 x10 l i
    · rw [if_neg (by simp), if_neg (by simp)]
    · rw [if_pos ⟨hc2, rfl⟩, if_pos (⟨rfl, hs, hs2⟩ : true = true ∧ 0 ≤ s ∧ s < 40)]
      split
      · split
        · split
          · rfl
          · split <;> rfl
        · rfl
      · rfl
theorem leave_code (s : Int) : (leaveR x0 x1 x2 x3 x4 x5 x6 x7 x8 x9 x10 l i s).2.2.2 = if jisB x0 x1 x2 x3 x4 x5 x6 x7 x8 x9 x10 l i = true ∧ 0 ≤ s ∧ s < 40 then 0 else 1 := by
  unfold leaveR
  rcases coversR_cases x0 x1 x2 x3 x4 x5 x6 x7 x8 x9 x10 s with hc | ⟨hc2, hs, hs2⟩
  · rw [hc, if_neg (by simp)]
    rw [if_neg]
    rintro ⟨h1, h2⟩
    rw [coversR_in x0 x1 x2 x3 x4 x5 x6 x7 x8 x9 x10 s (jisB_facts h1).1 h2] at hc
    exact absurd (Prod.mk.inj hc).2 (by decide)
  · cases hJ : jisB x0 x1 x2 x3 x4 x5 x6 x7 x8 x9 x10 l i
    · rw [if_neg (by simp), if_neg (by simp)]
    · rw [if_pos ⟨hc2, rfl⟩, if_pos (⟨rfl, hs, hs2⟩ : true = true ∧ 0 ≤ s ∧ s < 40)]
      split
      · split
        · rfl
        · split <;> rfl
      · rfl
end
end Go.Proofs.Ytdiijjdhofaodaa.Pure
