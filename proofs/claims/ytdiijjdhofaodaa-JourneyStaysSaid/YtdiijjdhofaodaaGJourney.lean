/- The walks of journey.Is, Enter and Leave: begun. -/
import Derived.Test.YtdiijjdhofaodaaGCovers
namespace Go.Proofs.Ytdiijjdhofaodaa.G
open Go Go.RowKit Go.Proofs.YtdiijjdhofaodaaW.PrintWords Go.Proofs.YtdiijjdhofaodaaW.PrintLast Go.Proofs.YtdiijjdhofaodaaW.PrintMore
/-- Which of the four rules a kind has. -/
def ruleT (kd : Int) : TypeId := if kd = 1 then 85 else if kd = 2 then 86 else if kd = 3 then 87 else 83
theorem of_any (kd : Int) (w : World) : Calls Try.prog 44 #[.int .i64 kd] w fun e w' => e = .returned (.iface (ruleT kd) (.agg #[])) ∧ w = w' := by
  unfold ruleT
  by_cases h1 : kd = 1
  · subst h1
    go_enter Try.func44, Try.ntmps44
    go_wp2
    go_ret
    exact ⟨rfl, rfl⟩
  by_cases h2 : kd = 2
  · subst h2
    go_enter Try.func44, Try.ntmps44
    go_wp2
    go_ret
    exact ⟨rfl, rfl⟩
  by_cases h3 : kd = 3
  · subst h3
    go_enter Try.func44, Try.ntmps44
    go_wp2
    go_ret
    exact ⟨rfl, rfl⟩
  rw [if_neg h1, if_neg h2, if_neg h3]
  have e1 : (kd == 1) = false := beq_eq_false_iff_ne.2 h1
  have e2 : (kd == 2) = false := beq_eq_false_iff_ne.2 h2
  have e3 : (kd == 3) = false := beq_eq_false_iff_ne.2 h3
  go_enter Try.func44, Try.ntmps44
  go_wp2
  go_ret
  exact ⟨rfl, rfl⟩
end Go.Proofs.Ytdiijjdhofaodaa.G
