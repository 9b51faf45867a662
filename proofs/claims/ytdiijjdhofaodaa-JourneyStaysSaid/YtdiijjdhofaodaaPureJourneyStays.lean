/- What comes of a journey is one of the ticket; who may enter may not leave; without Admit it is as it was: for any ticket, journey and int. -/
import Derived.Test.YtdiijjdhofaodaaPJourX
import Derived.Test.YtdiijjdhofaodaaPLyF
import Derived.Test.YtdiijjdhofaodaaPLyH
import Derived.Test.YtdiijjdhofaodaaPLyI
import Derived.Test.YtdiijjdhofaodaaPLyK
namespace Go.Proofs.Ytdiijjdhofaodaa.Pure
open Go Go.RowKit Go.Proofs.Ytdiijjdhofaodaa.G Go.Proofs.Ytdiijjdhofaodaa.PL Go.Proofs.YtdiijjdhofaodaaW.PrintWords Go.Proofs.YtdiijjdhofaodaaW.PrintLast Go.Proofs.YtdiijjdhofaodaaW.PrintMore
theorem gone_f : gatelinelaw23_gone.f = some true := by decide +kernel
theorem suits_f (a0_0 a0_1 a0_2 a0_3 a0_4 a0_5 a0_6 a0_7 a0_8 a0_9 a0_10 l i : Int) : layout_Suits.f a0_0 a0_1 a0_2 a0_3 a0_4 a0_5 a0_6 a0_7 a0_8 a0_9 a0_10 l i = some (suitsB l i a0_9) := by
  unfold layout_Suits.f suitsB
  by_cases h1 : 0 ≤ l
  · by_cases h2 : l ≤ a0_9
    · by_cases h3 : 0 ≤ i
      · rw [if_pos h1, if_pos h2, if_pos h3, decide_eq_true h1, decide_eq_true h2, decide_eq_true h3]
        rfl
      · rw [if_pos h1, if_pos h2, if_neg h3, decide_eq_false h3]
        simp
    · rw [if_pos h1, if_neg h2, decide_eq_false h2]
      simp
  · rw [if_neg h1, decide_eq_false h1]
    simp
theorem JourneyStays (a0_0 a0_1 a0_2 a0_3 a0_4 a0_5 a0_6 a0_7 a0_8 a0_9 a0_10 : Int) (_ : (Lit.int .i64 a0_0).wf = true) (_ : (Lit.int .i64 a0_1).wf = true) (_ : (Lit.int .i64 a0_2).wf = true) (_ : (Lit.int .i64 a0_3).wf = true) (_ : (Lit.int .i64 a0_4).wf = true) (_ : (Lit.int .i64 a0_5).wf = true) (_ : (Lit.int .i64 a0_6).wf = true) (_ : (Lit.int .i64 a0_7).wf = true) (_ : (Lit.int .i64 a0_8).wf = true) (_ : (Lit.int .i64 a0_9).wf = true) (_ : (Lit.int .i64 a0_10).wf = true) (l i : Int) (_ : (Lit.int .i64 l).wf = true) (_ : (Lit.int .i64 i).wf = true) (s : Int) (ws : (Lit.int .i64 s).wf = true) : ∃ k, gatelinelaw23_JourneyStays.f k a0_0 a0_1 a0_2 a0_3 a0_4 a0_5 a0_6 a0_7 a0_8 a0_9 a0_10 l i s = some true := by
  have hw := i64_of ws
  refine ⟨1, ?_⟩
  have e1 : journey_Enter.f a0_0 a0_1 a0_2 a0_3 a0_4 a0_5 a0_6 a0_7 a0_8 a0_9 a0_10 l i s = some (enterR a0_0 a0_1 a0_2 a0_3 a0_4 a0_5 a0_6 a0_7 a0_8 a0_9 a0_10 l i s) := if_pos hw
  have e2 : journey_Leave.f a0_0 a0_1 a0_2 a0_3 a0_4 a0_5 a0_6 a0_7 a0_8 a0_9 a0_10 l i s = some (leaveR a0_0 a0_1 a0_2 a0_3 a0_4 a0_5 a0_6 a0_7 a0_8 a0_9 a0_10 l i s) := if_pos hw
  have e3 : ∀ l i, journey_Is.f a0_0 a0_1 a0_2 a0_3 a0_4 a0_5 a0_6 a0_7 a0_8 a0_9 a0_10 l i = some (jisB a0_0 a0_1 a0_2 a0_3 a0_4 a0_5 a0_6 a0_7 a0_8 a0_9 a0_10 l i) := fun _ _ => rfl
  have cE := enter_code a0_0 a0_1 a0_2 a0_3 a0_4 a0_5 a0_6 a0_7 a0_8 a0_9 a0_10 l i s
  have cL := leave_code a0_0 a0_1 a0_2 a0_3 a0_4 a0_5 a0_6 a0_7 a0_8 a0_9 a0_10 l i s
  have hE := enter_jis a0_0 a0_1 a0_2 a0_3 a0_4 a0_5 a0_6 a0_7 a0_8 a0_9 a0_10 l i s
  have hL := leave_jis a0_0 a0_1 a0_2 a0_3 a0_4 a0_5 a0_6 a0_7 a0_8 a0_9 a0_10 l i s
  unfold gatelinelaw23_JourneyStays.f
  rw [e1, Option.bind_some, e2, Option.bind_some, if_pos (by rw [cE, cL]), e3, Option.bind_some]
  by_cases h : jisB a0_0 a0_1 a0_2 a0_3 a0_4 a0_5 a0_6 a0_7 a0_8 a0_9 a0_10 l i = true ∧ 0 ≤ s ∧ s < 40
  · rw [if_pos h] at cE cL
    obtain ⟨_, _, _, jE, aE, nE⟩ := hE cE
    obtain ⟨_, _, _, jL, aL, nL⟩ := hL cL
    clear hE hL e1 e2
    have sE : suitsB (enterR a0_0 a0_1 a0_2 a0_3 a0_4 a0_5 a0_6 a0_7 a0_8 a0_9 a0_10 l i s).1 (enterR a0_0 a0_1 a0_2 a0_3 a0_4 a0_5 a0_6 a0_7 a0_8 a0_9 a0_10 l i s).2.1 a0_9 = true := by
      have := jE
      unfold jisB at this
      simp only [Bool.and_eq_true] at this
      exact this.1.2
    rw [h.1, if_pos rfl, if_pos h.2.1, decide_eq_true h.2.2, cE]
    rw [gatelinelaw23_JourneyStays.j0, if_neg (by decide), if_pos rfl, e3, jE, Option.bind_some, if_pos rfl, e3, jL, Option.bind_some, if_pos rfl, suits_f, sE, Option.bind_some, if_pos rfl]
    generalize hEr : enterR a0_0 a0_1 a0_2 a0_3 a0_4 a0_5 a0_6 a0_7 a0_8 a0_9 a0_10 l i s = E at *
    generalize hLr : leaveR a0_0 a0_1 a0_2 a0_3 a0_4 a0_5 a0_6 a0_7 a0_8 a0_9 a0_10 l i s = F at *
    by_cases x0 : E.2.2.1 = 0
    · by_cases y0 : F.2.2.1 = 0
      · exact absurd (aE x0).1 (aL y0).1
      · have := nL y0
        rw [if_pos x0, if_neg y0, gone_f, Option.bind_some, if_pos rfl, this.1, this.2]
        simp
    · have h1 := nE x0
      rw [if_neg x0, gone_f, Option.bind_some, if_pos rfl, h1.1, h1.2, if_pos (by simp)]
      by_cases y0 : F.2.2.1 = 0
      · rw [if_pos y0]
      · have := nL y0
        rw [if_neg y0, this.1, this.2]
        simp
  · rw [if_neg h] at cE cL
    have fin : gatelinelaw23_JourneyStays.j0 1 (enterR a0_0 a0_1 a0_2 a0_3 a0_4 a0_5 a0_6 a0_7 a0_8 a0_9 a0_10 l i s).2.2.1 (enterR a0_0 a0_1 a0_2 a0_3 a0_4 a0_5 a0_6 a0_7 a0_8 a0_9 a0_10 l i s).2.2.2 (leaveR a0_0 a0_1 a0_2 a0_3 a0_4 a0_5 a0_6 a0_7 a0_8 a0_9 a0_10 l i s).2.2.1 false a0_0 a0_1 a0_2 a0_3 a0_4 a0_5 a0_6 a0_7 a0_8 a0_9 a0_10 l i (enterR a0_0 a0_1 a0_2 a0_3 a0_4 a0_5 a0_6 a0_7 a0_8 a0_9 a0_10 l i s).1 (enterR a0_0 a0_1 a0_2 a0_3 a0_4 a0_5 a0_6 a0_7 a0_8 a0_9 a0_10 l i s).2.1 (leaveR a0_0 a0_1 a0_2 a0_3 a0_4 a0_5 a0_6 a0_7 a0_8 a0_9 a0_10 l i s).1 (leaveR a0_0 a0_1 a0_2 a0_3 a0_4 a0_5 a0_6 a0_7 a0_8 a0_9 a0_10 l i s).2.1 = some true := by
      rw [gatelinelaw23_JourneyStays.j0, if_neg (by decide), cE, if_neg (by decide), gone_f, Option.bind_some]
    have hb : ((enterR a0_0 a0_1 a0_2 a0_3 a0_4 a0_5 a0_6 a0_7 a0_8 a0_9 a0_10 l i s).2.2.2 == 0) = false := by rw [cE]; rfl
    rw [hb]
    by_cases hj : jisB a0_0 a0_1 a0_2 a0_3 a0_4 a0_5 a0_6 a0_7 a0_8 a0_9 a0_10 l i = true
    · rw [if_pos hj]
      by_cases h0 : s ≥ 0
      · have h1 : ¬ s < 40 := fun h1 => h ⟨hj, h0, h1⟩
        rw [if_pos h0, decide_eq_false h1]
        exact fin
      · rw [if_neg h0]
        exact fin
    · rw [if_neg hj]
      exact fin
end Go.Proofs.Ytdiijjdhofaodaa.Pure
