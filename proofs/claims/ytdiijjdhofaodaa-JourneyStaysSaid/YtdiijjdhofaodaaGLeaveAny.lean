/- journey.Leave, all outcomes. -/
import Derived.Test.YtdiijjdhofaodaaGLeave
import Derived.Test.YtdiijjdhofaodaaGEnterAny
namespace Go.Proofs.Ytdiijjdhofaodaa.G
open Go Go.RowKit Go.Proofs.YtdiijjdhofaodaaW.PrintWords Go.Proofs.YtdiijjdhofaodaaW.PrintLast Go.Proofs.YtdiijjdhofaodaaW.PrintMore
def toR (x1 x2 x3 l : Int) : Int := if x1 = 2 ∧ l = 0 then x2 else x3
def leaveR (x0 x1 x2 x3 x4 x5 x6 x7 x8 x9 x10 l i s : Int) : Int × Int × Int × Int :=
  if (coversR x0 x1 x2 x3 x4 x5 x6 x7 x8 x9 x10 s).2 = 0 ∧ jisB x0 x1 x2 x3 x4 x5 x6 x7 x8 x9 x10 l i = true then (if (coversR x0 x1 x2 x3 x4 x5 x6 x7 x8 x9 x10 s).1 = true then (if i = 0 then (l, i, 12, 0) else (if (x1 = 1 ∨ x1 = 2) ∧ ¬ (mn (i - 1) (toR x1 x2 x3 l) ≤ s ∧ s ≤ mx (i - 1) (toR x1 x2 x3 l)) then (l, i, 9, 0) else (l, 0, 0, 0))) else (l, i, 9, 0)) else (0, 0, 0, 1)
theorem leave_any (x0 x1 x2 x3 x4 x5 x6 x7 x8 x9 x10 l i s : Int) (w : World) (hw : -9223372036854775808 ≤ s ∧ s ≤ 9223372036854775807) :
    Calls Try.prog 17 #[.agg #[.int .i64 x0, .int .i64 x1, .int .i64 x2, .int .i64 x3, .int .i64 x4, .int .i64 x5, .int .i64 x6, .int .i64 x7, .int .i64 x8, .int .i64 x9, .int .i64 x10], .agg #[.int .i64 l, .int .i64 i], .int .i64 s] w fun e w' => e = .returned (.tuple #[.agg #[.int .i64 (leaveR x0 x1 x2 x3 x4 x5 x6 x7 x8 x9 x10 l i s).1, .int .i64 (leaveR x0 x1 x2 x3 x4 x5 x6 x7 x8 x9 x10 l i s).2.1], .int .i64 (leaveR x0 x1 x2 x3 x4 x5 x6 x7 x8 x9 x10 l i s).2.2.1, .int .i64 (leaveR x0 x1 x2 x3 x4 x5 x6 x7 x8 x9 x10 l i s).2.2.2]) ∧ Below w.heap.size w w' := by
  unfold leaveR
  rcases coversR_cases x0 x1 x2 x3 x4 x5 x6 x7 x8 x9 x10 s with hc | ⟨hc2, hs, hs2⟩
  · rw [hc, if_neg (by simp)]
    exact leave_off x0 x1 x2 x3 x4 x5 x6 x7 x8 x9 x10 l i s w hw hc
  · cases hJ : jisB x0 x1 x2 x3 x4 x5 x6 x7 x8 x9 x10 l i
    · rw [if_neg (by simp)]
      exact leave_bad x0 x1 x2 x3 x4 x5 x6 x7 x8 x9 x10 l i s w hw (coversR x0 x1 x2 x3 x4 x5 x6 x7 x8 x9 x10 s).1 (Prod.ext rfl hc2) hJ
    · rw [if_pos ⟨hc2, rfl⟩]
      cases hb : (coversR x0 x1 x2 x3 x4 x5 x6 x7 x8 x9 x10 s).1
      · rw [if_neg (by simp)]
        exact leave_place x0 x1 x2 x3 x4 x5 x6 x7 x8 x9 x10 l i s w hw (Prod.ext hb hc2) hJ
      · rw [if_pos rfl]
        have hc : coversR x0 x1 x2 x3 x4 x5 x6 x7 x8 x9 x10 s = (true, 0) := Prod.ext hb hc2
        have hj := jisB_facts hJ
        by_cases hi : i = 0
        · subst hi
          rw [if_pos rfl]
          exact leave_outside x0 x1 x2 x3 x4 x5 x6 x7 x8 x9 x10 l s w hw hc hJ
        · rw [if_neg hi]
          have la : lisB (i - 1) = true := decide_eq_true (by omega)
          have ls : lisB s = true := decide_eq_true (by omega)
          have hwi : wrap64 (i - 1) = i - 1 := tw64 (by omega) (by omega)
          by_cases h3 : x1 = 3
          · subst h3
            rw [if_neg (by omega)]
            exact leave_season x0 x2 x3 x4 x5 x6 x7 x8 x9 x10 l i s w hw hc hJ hi
          · have hway := isB_way hj.1 h3
            have g2 := of_decide_eq_true hway.1
            have g3 := of_decide_eq_true hway.2
            by_cases h1 : x1 = 1
            · subst h1
              have ht : toR 1 x2 x3 l = x3 := by unfold toR; rw [if_neg (by omega)]
              rw [ht]
              by_cases hd : mn (i - 1) x3 ≤ s ∧ s ≤ mx (i - 1) x3
              · rw [if_neg (fun h => h.2 hd)]
                exact leave_single_ok x0 x2 x3 x4 x5 x6 x7 x8 x9 x10 l i s w hw hc hJ hi g3.1 la hway.2 ls hwi (decide_eq_true hd)
              · rw [if_pos ⟨.inl rfl, hd⟩]
                exact leave_single_no x0 x2 x3 x4 x5 x6 x7 x8 x9 x10 l i s w hw hc hJ hi g3.1 la hway.2 ls hwi (decide_eq_false hd)
            · by_cases h2 : x1 = 2
              · subst h2
                by_cases hl : l = 0
                · subst hl
                  have ht : toR 2 x2 x3 0 = x2 := by unfold toR; rw [if_pos ⟨rfl, rfl⟩]
                  rw [ht]
                  by_cases hd : mn (i - 1) x2 ≤ s ∧ s ≤ mx (i - 1) x2
                  · rw [if_neg (fun h => h.2 hd)]
                    exact leave_there_0_ok x0 x2 x3 x4 x5 x6 x7 x8 x9 x10 i s w hw hc hJ hi g2.1 la hway.1 ls hwi (decide_eq_true hd)
                  · rw [if_pos ⟨.inr rfl, hd⟩]
                    exact leave_there_0_no x0 x2 x3 x4 x5 x6 x7 x8 x9 x10 i s w hw hc hJ hi g2.1 la hway.1 ls hwi (decide_eq_false hd)
                · have ht : toR 2 x2 x3 l = x3 := by unfold toR; rw [if_neg (fun h => hl h.2)]
                  rw [ht]
                  by_cases hd : mn (i - 1) x3 ≤ s ∧ s ≤ mx (i - 1) x3
                  · rw [if_neg (fun h => h.2 hd)]
                    exact leave_there_n_ok x0 x2 x3 x4 x5 x6 x7 x8 x9 x10 l i s w hw hc hJ hi hl g3.1 la hway.2 ls hwi (decide_eq_true hd)
                  · rw [if_pos ⟨.inr rfl, hd⟩]
                    exact leave_there_n_no x0 x2 x3 x4 x5 x6 x7 x8 x9 x10 l i s w hw hc hJ hi hl g3.1 la hway.2 ls hwi (decide_eq_false hd)
              · rw [if_neg (by omega)]
                exact leave_legs x0 x1 x2 x3 x4 x5 x6 x7 x8 x9 x10 l i s w hw hc hJ hi h1 h2 h3
end Go.Proofs.Ytdiijjdhofaodaa.G
