/- journey.Enter, all outcomes. (Written by gen_enter.py.) -/
import Derived.Test.YtdiijjdhofaodaaGEnter
namespace Go.Proofs.Ytdiijjdhofaodaa.G
open Go Go.RowKit Go.Proofs.YtdiijjdhofaodaaW.PrintWords Go.Proofs.YtdiijjdhofaodaaW.PrintLast Go.Proofs.YtdiijjdhofaodaaW.PrintMore
theorem isB_usesB {x0 x1 x2 x3 x4 x5 x6 x7 x8 x9 x10 : Int} (h : isB x0 x1 x2 x3 x4 x5 x6 x7 x8 x9 x10 = true) : usesB x1 x9 = true := by
  unfold isB at h
  simp only [Bool.and_eq_true] at h
  exact h.2
theorem isB_uses {x0 x1 x2 x3 x4 x5 x6 x7 x8 x9 x10 : Int} (h : isB x0 x1 x2 x3 x4 x5 x6 x7 x8 x9 x10 = true) : 0 ≤ x9 ∧ x9 ≤ 20 := by
  have hu : usesB x1 x9 = true := isB_usesB h
  unfold usesB at hu
  by_cases h1 : x1 = 1
  · rw [if_pos h1] at hu; have := beq_iff_eq.1 hu; omega
  by_cases h2 : x1 = 2
  · rw [if_neg h1, if_pos h2] at hu; have := beq_iff_eq.1 hu; omega
  by_cases h3 : x1 = 3
  · rw [if_neg h1, if_neg h2, if_pos h3] at hu; have := beq_iff_eq.1 hu; omega
  · rw [if_neg h1, if_neg h2, if_neg h3] at hu; unfold betw at hu; have := of_decide_eq_true hu; omega
theorem jisB_facts {x0 x1 x2 x3 x4 x5 x6 x7 x8 x9 x10 l i : Int} (h : jisB x0 x1 x2 x3 x4 x5 x6 x7 x8 x9 x10 l i = true) : isB x0 x1 x2 x3 x4 x5 x6 x7 x8 x9 x10 = true ∧ 0 ≤ l ∧ l ≤ x9 ∧ 0 ≤ i ∧ i ≤ 40 ∧ x9 ≤ 20 := by
  unfold jisB suitsB at h
  simp only [Bool.and_eq_true, decide_eq_true_eq] at h
  have := isB_uses h.1.1
  exact ⟨h.1.1, h.1.2.1.1.1, h.1.2.1.1.2, h.1.2.1.2, h.1.2.2, this.2⟩
theorem coversR_cases (x0 x1 x2 x3 x4 x5 x6 x7 x8 x9 x10 s : Int) : coversR x0 x1 x2 x3 x4 x5 x6 x7 x8 x9 x10 s = (false, 1) ∨ ((coversR x0 x1 x2 x3 x4 x5 x6 x7 x8 x9 x10 s).2 = 0 ∧ 0 ≤ s ∧ s < 40) := by
  unfold coversR
  by_cases h : isB x0 x1 x2 x3 x4 x5 x6 x7 x8 x9 x10 = true ∧ 0 ≤ s ∧ s < 40
  · rw [if_pos h]; exact .inr ⟨rfl, h.2⟩
  · rw [if_neg h]; exact .inl rfl
def enterR (x0 x1 x2 x3 x4 x5 x6 x7 x8 x9 x10 l i s : Int) : Int × Int × Int × Int :=
  if (coversR x0 x1 x2 x3 x4 x5 x6 x7 x8 x9 x10 s).2 = 0 ∧ jisB x0 x1 x2 x3 x4 x5 x6 x7 x8 x9 x10 l i = true then (if (coversR x0 x1 x2 x3 x4 x5 x6 x7 x8 x9 x10 s).1 = true then (if i = 0 then (if x1 = 3 then (0, s + 1, 0, 0) else (if 0 < l then (l - 1, s + 1, 0, 0) else (l, i, 10, 0))) else (l, i, 11, 0)) else (l, i, 9, 0)) else (0, 0, 0, 1)
theorem enter_any (x0 x1 x2 x3 x4 x5 x6 x7 x8 x9 x10 l i s : Int) (w : World) (hw : -9223372036854775808 ≤ s ∧ s ≤ 9223372036854775807) :
    Calls Try.prog 15 #[.agg #[.int .i64 x0, .int .i64 x1, .int .i64 x2, .int .i64 x3, .int .i64 x4, .int .i64 x5, .int .i64 x6, .int .i64 x7, .int .i64 x8, .int .i64 x9, .int .i64 x10], .agg #[.int .i64 l, .int .i64 i], .int .i64 s] w fun e w' => e = .returned (.tuple #[.agg #[.int .i64 (enterR x0 x1 x2 x3 x4 x5 x6 x7 x8 x9 x10 l i s).1, .int .i64 (enterR x0 x1 x2 x3 x4 x5 x6 x7 x8 x9 x10 l i s).2.1], .int .i64 (enterR x0 x1 x2 x3 x4 x5 x6 x7 x8 x9 x10 l i s).2.2.1, .int .i64 (enterR x0 x1 x2 x3 x4 x5 x6 x7 x8 x9 x10 l i s).2.2.2]) ∧ Below w.heap.size w w' := by
  unfold enterR
  rcases coversR_cases x0 x1 x2 x3 x4 x5 x6 x7 x8 x9 x10 s with hc | ⟨hc2, hs, hs2⟩
  · rw [hc, if_neg (by simp)]
    exact enter_off x0 x1 x2 x3 x4 x5 x6 x7 x8 x9 x10 l i s w hw hc
  · cases hJ : jisB x0 x1 x2 x3 x4 x5 x6 x7 x8 x9 x10 l i
    · rw [if_neg (by simp)]
      exact enter_bad x0 x1 x2 x3 x4 x5 x6 x7 x8 x9 x10 l i s w hw (coversR x0 x1 x2 x3 x4 x5 x6 x7 x8 x9 x10 s).1 (Prod.ext rfl hc2) hJ
    · rw [if_pos ⟨hc2, rfl⟩]
      cases hb : (coversR x0 x1 x2 x3 x4 x5 x6 x7 x8 x9 x10 s).1
      · rw [if_neg (by simp)]
        exact enter_place x0 x1 x2 x3 x4 x5 x6 x7 x8 x9 x10 l i s w hw (Prod.ext hb hc2) hJ
      · rw [if_pos rfl]
        have hc : coversR x0 x1 x2 x3 x4 x5 x6 x7 x8 x9 x10 s = (true, 0) := Prod.ext hb hc2
        have hj := jisB_facts hJ
        by_cases hi : i = 0
        · subst hi
          rw [if_pos rfl]
          by_cases h3 : x1 = 3
          · subst h3
            rw [if_pos rfl]
            exact enter_ok_season x0 x2 x3 x4 x5 x6 x7 x8 x9 x10 l s w hw hc hJ hs hs2
          · rw [if_neg h3]
            by_cases hl : 0 < l
            · rw [if_pos hl]
              by_cases h1 : x1 = 1
              · subst h1
                exact enter_ok_single x0 x2 x3 x4 x5 x6 x7 x8 x9 x10 l s w hw hc hJ hl (by omega) hs hs2
              · by_cases h2 : x1 = 2
                · subst h2
                  exact enter_ok_there x0 x2 x3 x4 x5 x6 x7 x8 x9 x10 l s w hw hc hJ hl (by omega) hs hs2
                · exact enter_ok_legs x0 x1 x2 x3 x4 x5 x6 x7 x8 x9 x10 l s w hw hc hJ hl (by omega) hs hs2 h1 h2 h3
            · rw [if_neg hl]
              by_cases h1 : x1 = 1
              · subst h1
                exact enter_used_single x0 x2 x3 x4 x5 x6 x7 x8 x9 x10 l s w hw hc hJ (by omega)
              · by_cases h2 : x1 = 2
                · subst h2
                  exact enter_used_there x0 x2 x3 x4 x5 x6 x7 x8 x9 x10 l s w hw hc hJ (by omega)
                · exact enter_used_legs x0 x1 x2 x3 x4 x5 x6 x7 x8 x9 x10 l s w hw hc hJ (by omega) h1 h2 h3
        · rw [if_neg hi]
          exact enter_inside x0 x1 x2 x3 x4 x5 x6 x7 x8 x9 x10 l i s w hw hc hJ hi
end Go.Proofs.Ytdiijjdhofaodaa.G
