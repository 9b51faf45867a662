/- What the functions that this claim reaches do and answer: printed words and walks, walks by hand and plain laws, packed together, each with its own remark; printed rows are by the kit's print program, turned by this session. Conditions: those that each theorem states. -/
import Derived.Test.YtdiijjdhofaodaaKRARDRPRS12
section
set_option linter.unusedSimpArgs false
namespace Go.Proofs.Ytdiijjdhofaodaa.Pure
open Go Go.RowKit Go.Proofs.Ytdiijjdhofaodaa.G Go.Proofs.Ytdiijjdhofaodaa.PL Go.Proofs.YtdiijjdhofaodaaW.PrintWords Go.Proofs.YtdiijjdhofaodaaW.PrintLast Go.Proofs.YtdiijjdhofaodaaW.PrintMore
section
variable (y0 y1 y2 y3 y4 y5 y6 y7 y8 y9 y10 l i : Int) (bk : Bool) (x0 x1 x2 x3 x4 x5 x6 x7 x8 x9 x10 : Int)
theorem same_zero (hS : (sameR y0 y1 y2 y3 y4 y5 y6 y7 y8 y9 y10 l i bk x0 x1 x2 x3 x4 x5 x6 x7 x8 x9 x10).1 = 0) (hJ : jisB y0 y1 y2 y3 y4 y5 y6 y7 y8 y9 y10 l i = true) : bk = false ∧ sameT y0 y1 y2 y3 y4 y5 y6 y7 y8 y9 y10 x0 x1 x2 x3 x4 x5 x6 x7 x8 x9 x10 = true := by
  unfold sameR at hS
  rw [hJ, if_pos rfl] at hS
  cases bk
  · refine ⟨rfl, ?_⟩
    cases h : sameT y0 y1 y2 y3 y4 y5 y6 y7 y8 y9 y10 x0 x1 x2 x3 x4 x5 x6 x7 x8 x9 x10
    · rw [h, if_neg (by decide), if_neg (by decide)] at hS
      exact absurd hS (by decide)
    · rfl
  · rw [if_pos rfl] at hS
    exact absurd hS (by decide)
theorem day_vals (day : Int) (out : Bool) : (dayR x0 x1 x2 x3 x4 x5 x6 x7 x8 x9 x10 day out).1 = 0 ∨ (dayR x0 x1 x2 x3 x4 x5 x6 x7 x8 x9 x10 day out).1 = 7 ∨ (dayR x0 x1 x2 x3 x4 x5 x6 x7 x8 x9 x10 day out).1 = 8 := by
  unfold dayR
  split
  · split
    · exact Or.inl rfl
    · split
      · exact Or.inr (Or.inl rfl)
      · split
        · exact Or.inr (Or.inr rfl)
        · exact Or.inl rfl
  · exact Or.inl rfl
variable (s : Int) (out : Bool)
theorem pass_code (day : Int) : (passR y0 y1 y2 y3 y4 y5 y6 y7 y8 y9 y10 l i bk x0 x1 x2 x3 x4 x5 x6 x7 x8 x9 x10 day s out).2.2.2 = if jisB y0 y1 y2 y3 y4 y5 y6 y7 y8 y9 y10 l i = true ∧ lisB s = true then 0 else 1 := by
  unfold passR
  by_cases h : jisB y0 y1 y2 y3 y4 y5 y6 y7 y8 y9 y10 l i = true ∧ lisB s = true
  · rw [if_pos h, if_pos h]
    by_cases hS : (sameR y0 y1 y2 y3 y4 y5 y6 y7 y8 y9 y10 l i bk x0 x1 x2 x3 x4 x5 x6 x7 x8 x9 x10).1 = 0
    · rw [if_pos hS]
      obtain ⟨hb, hT⟩ := same_zero y0 y1 y2 y3 y4 y5 y6 y7 y8 y9 y10 l i bk x0 x1 x2 x3 x4 x5 x6 x7 x8 x9 x10 hS h.1
      by_cases hD : (dayR x0 x1 x2 x3 x4 x5 x6 x7 x8 x9 x10 day out).1 = 0
      · rw [if_pos hD]
        obtain ⟨rfl, rfl, rfl, rfl, rfl, rfl, rfl, rfl, rfl, rfl, rfl⟩ := sameT_eq hT
        have hst : 0 ≤ s ∧ s < 40 := by simpa [lisB] using h.2
        cases out
        · rw [if_neg (by decide), enter_code, if_pos ⟨h.1, hst⟩]
        · rw [if_pos rfl, leave_code, if_pos ⟨h.1, hst⟩]
      · rw [if_neg hD]
    · rw [if_neg hS]
  · rw [if_neg h, if_neg h]
theorem pass_days (a b : Int) : (passR y0 y1 y2 y3 y4 y5 y6 y7 y8 y9 y10 l i bk x0 x1 x2 x3 x4 x5 x6 x7 x8 x9 x10 a s out).2.2.1 = 7 ∨ (passR y0 y1 y2 y3 y4 y5 y6 y7 y8 y9 y10 l i bk x0 x1 x2 x3 x4 x5 x6 x7 x8 x9 x10 a s out).2.2.1 = 8 ∨ (passR y0 y1 y2 y3 y4 y5 y6 y7 y8 y9 y10 l i bk x0 x1 x2 x3 x4 x5 x6 x7 x8 x9 x10 b s out).2.2.1 = 7 ∨ (passR y0 y1 y2 y3 y4 y5 y6 y7 y8 y9 y10 l i bk x0 x1 x2 x3 x4 x5 x6 x7 x8 x9 x10 b s out).2.2.1 = 8 ∨ passR y0 y1 y2 y3 y4 y5 y6 y7 y8 y9 y10 l i bk x0 x1 x2 x3 x4 x5 x6 x7 x8 x9 x10 a s out = passR y0 y1 y2 y3 y4 y5 y6 y7 y8 y9 y10 l i bk x0 x1 x2 x3 x4 x5 x6 x7 x8 x9 x10 b s out := by
  unfold passR
  by_cases h : jisB y0 y1 y2 y3 y4 y5 y6 y7 y8 y9 y10 l i = true ∧ lisB s = true
  · rw [if_pos h, if_pos h]
    by_cases hS : (sameR y0 y1 y2 y3 y4 y5 y6 y7 y8 y9 y10 l i bk x0 x1 x2 x3 x4 x5 x6 x7 x8 x9 x10).1 = 0
    · rw [if_pos hS, if_pos hS]
      rcases day_vals x0 x1 x2 x3 x4 x5 x6 x7 x8 x9 x10 a out with hA | hA | hA
      · rcases day_vals x0 x1 x2 x3 x4 x5 x6 x7 x8 x9 x10 b out with hB | hB | hB
        · rw [if_pos hA, if_pos hB]
          exact Or.inr (Or.inr (Or.inr (Or.inr rfl)))
        · rw [if_neg (c := (dayR x0 x1 x2 x3 x4 x5 x6 x7 x8 x9 x10 b out).1 = 0) (by rw [hB]; decide)]
          exact Or.inr (Or.inr (Or.inl hB))
        · rw [if_neg (c := (dayR x0 x1 x2 x3 x4 x5 x6 x7 x8 x9 x10 b out).1 = 0) (by rw [hB]; decide)]
          exact Or.inr (Or.inr (Or.inr (Or.inl hB)))
      · rw [if_neg (c := (dayR x0 x1 x2 x3 x4 x5 x6 x7 x8 x9 x10 a out).1 = 0) (by rw [hA]; decide)]
        exact Or.inl hA
      · rw [if_neg (c := (dayR x0 x1 x2 x3 x4 x5 x6 x7 x8 x9 x10 a out).1 = 0) (by rw [hA]; decide)]
        exact Or.inr (Or.inl hA)
    · rw [if_neg hS, if_neg hS]
      exact Or.inr (Or.inr (Or.inr (Or.inr rfl)))
  · rw [if_neg h, if_neg h]
    exact Or.inr (Or.inr (Or.inr (Or.inr rfl)))
theorem pass_facts (day : Int) (h : jisB y0 y1 y2 y3 y4 y5 y6 y7 y8 y9 y10 l i = true ∧ lisB s = true) : ((passR y0 y1 y2 y3 y4 y5 y6 y7 y8 y9 y10 l i bk x0 x1 x2 x3 x4 x5 x6 x7 x8 x9 x10 day s out).2.2.1 = 0 → bk = false ∧ sameT y0 y1 y2 y3 y4 y5 y6 y7 y8 y9 y10 x0 x1 x2 x3 x4 x5 x6 x7 x8 x9 x10 = true ∧ (dayR x0 x1 x2 x3 x4 x5 x6 x7 x8 x9 x10 day out).1 = 0 ∧ passR y0 y1 y2 y3 y4 y5 y6 y7 y8 y9 y10 l i bk x0 x1 x2 x3 x4 x5 x6 x7 x8 x9 x10 day s out = (if out = true then leaveR x0 x1 x2 x3 x4 x5 x6 x7 x8 x9 x10 l i s else enterR x0 x1 x2 x3 x4 x5 x6 x7 x8 x9 x10 l i s)) ∧
    ((passR y0 y1 y2 y3 y4 y5 y6 y7 y8 y9 y10 l i bk x0 x1 x2 x3 x4 x5 x6 x7 x8 x9 x10 day s out).2.2.1 ≠ 0 → (passR y0 y1 y2 y3 y4 y5 y6 y7 y8 y9 y10 l i bk x0 x1 x2 x3 x4 x5 x6 x7 x8 x9 x10 day s out).1 = l ∧ (passR y0 y1 y2 y3 y4 y5 y6 y7 y8 y9 y10 l i bk x0 x1 x2 x3 x4 x5 x6 x7 x8 x9 x10 day s out).2.1 = i) := by
  unfold passR
  rw [if_pos h]
  by_cases hS : (sameR y0 y1 y2 y3 y4 y5 y6 y7 y8 y9 y10 l i bk x0 x1 x2 x3 x4 x5 x6 x7 x8 x9 x10).1 = 0
  · rw [if_pos hS]
    obtain ⟨hb, hT⟩ := same_zero y0 y1 y2 y3 y4 y5 y6 y7 y8 y9 y10 l i bk x0 x1 x2 x3 x4 x5 x6 x7 x8 x9 x10 hS h.1
    by_cases hD : (dayR x0 x1 x2 x3 x4 x5 x6 x7 x8 x9 x10 day out).1 = 0
    · rw [if_pos hD]
      refine ⟨fun _ => ⟨hb, hT, hD, rfl⟩, fun hn => ?_⟩
      obtain ⟨rfl, rfl, rfl, rfl, rfl, rfl, rfl, rfl, rfl, rfl, rfl⟩ := sameT_eq hT
      have hst : 0 ≤ s ∧ s < 40 := by simpa [lisB] using h.2
      cases out
      · rw [if_neg (by decide)] at hn ⊢
        exact (enter_jis x0 x1 x2 x3 x4 x5 x6 x7 x8 x9 x10 l i s (by rw [enter_code, if_pos ⟨h.1, hst⟩])).2.2.2.2.2 hn
      · rw [if_pos rfl] at hn ⊢
        exact (leave_jis x0 x1 x2 x3 x4 x5 x6 x7 x8 x9 x10 l i s (by rw [leave_code, if_pos ⟨h.1, hst⟩])).2.2.2.2.2 hn
    · rw [if_neg hD]
      exact ⟨fun h0 => absurd h0 hD, fun _ => ⟨rfl, rfl⟩⟩
  · rw [if_neg hS]
    exact ⟨fun h0 => absurd h0 hS, fun _ => ⟨rfl, rfl⟩⟩
end
end Go.Proofs.Ytdiijjdhofaodaa.Pure
end
