/- Plain laws of layer 23: what the reference calls a journey is what the program calls one. -/
import Derived.Test.YtdiijjdhofaodaaPTickB
import Derived.Test.YtdiijjdhofaodaaGJIs
import Derived.Test.YtdiijjdhofaodaaPLyB
import Derived.Test.YtdiijjdhofaodaaPLyC
set_option linter.unusedSimpArgs false
namespace Go.Proofs.Ytdiijjdhofaodaa.Pure
open Go Go.RowKit Go.Proofs.Ytdiijjdhofaodaa.G Go.Proofs.Ytdiijjdhofaodaa.PL Go.Proofs.YtdiijjdhofaodaaW.PrintWords Go.Proofs.YtdiijjdhofaodaaW.PrintLast Go.Proofs.YtdiijjdhofaodaaW.PrintMore
section
variable (x0 x1 x2 x3 x4 x5 x6 x7 x8 x9 x10 l i : Int)
theorem refSuits_f : gatelineref13_Suits.f x0 x1 x2 x3 x4 x5 x6 x7 x8 x9 x10 l i = some (suitsB l i x9) := by
  unfold gatelineref13_Suits.f suitsB
  by_cases h1 : 0 ≤ l
  · by_cases h2 : l ≤ x9
    · by_cases h3 : 0 ≤ i
      · rw [if_pos h1, if_pos h2, if_pos h3, decide_eq_true h1, decide_eq_true h2, decide_eq_true h3]
        rfl
      · rw [if_pos h1, if_pos h2, if_neg h3, decide_eq_false h3]
        simp
    · rw [if_pos h1, if_neg h2, decide_eq_false h2]
      simp
  · rw [if_neg h1, decide_eq_false h1]
    simp
theorem refJis_f (k : Nat) : gatelineref23_Is.f (k + 3) x0 x1 x2 x3 x4 x5 x6 x7 x8 x9 x10 l i = some (jisB x0 x1 x2 x3 x4 x5 x6 x7 x8 x9 x10 l i) := by
  unfold gatelineref23_Is.f jisB
  rw [refIs_f (k + 1) x0 x1 x2 x3 x4 x5 x6 x7 x8 x9 x10, Option.bind_some]
  cases hI : isB x0 x1 x2 x3 x4 x5 x6 x7 x8 x9 x10
  · rw [if_neg (by decide), gatelineref23_Is.j0, if_pos rfl]
    rfl
  · rw [if_pos rfl, refSuits_f, Option.bind_some]
    cases hS : suitsB l i x9
    · rw [gatelineref23_Is.j0, if_pos (show (!false) = true from rfl)]
      rfl
    · have hr : 0 ≤ i ∧ i ≤ 40 := by simp only [suitsB, Bool.and_eq_true, decide_eq_true_eq] at hS; omega
      rw [gatelineref23_Is.j0, if_neg (by decide)]
      by_cases hi : i = 0
      · rw [if_pos hi, decide_eq_true hi]
        rfl
      · rw [if_neg hi, decide_eq_false hi, w64 (x := i - 1) (by omega) (by omega), refCovers_f k x0 x1 x2 x3 x4 x5 x6 x7 x8 x9 x10 (i - 1), Option.bind_some, coversR_in x0 x1 x2 x3 x4 x5 x6 x7 x8 x9 x10 (i - 1) hI ⟨by omega, by omega⟩, if_pos rfl]
        generalize (if x1 = 3 then betw (zv (i - 1)) x2 x3 else decide (mn x2 x3 ≤ i - 1 ∧ i - 1 ≤ mx x2 x3)) = b
        cases b
        · rw [if_neg (by decide)]
          rfl
        · rw [if_pos rfl]
          by_cases h3 : x1 = 3
          · rw [if_pos h3, decide_eq_true h3]
            rfl
          · rw [if_neg h3, decide_eq_false h3]
            simp
end
end Go.Proofs.Ytdiijjdhofaodaa.Pure
