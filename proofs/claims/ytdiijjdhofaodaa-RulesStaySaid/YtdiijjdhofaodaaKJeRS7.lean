/- What the functions that this claim reaches do and answer: printed words and walks, walks by hand and plain laws, packed together, each with its own remark; printed rows are by the kit's print program, turned by this session. Conditions: those that each theorem states. -/
import Derived.Test.YtdiijjdhofaodaaKA0
import Derived.Test.YtdiijjdhofaodaaKA2
import Derived.Test.YtdiijjdhofaodaaKA1
section
namespace Go.Proofs.Ytdiijjdhofaodaa.PL
open Go.RowKit Go.Proofs.YtdiijjdhofaodaaW.PrintWords Go.Proofs.YtdiijjdhofaodaaW.PrintLast Go.Proofs.YtdiijjdhofaodaaW.PrintMore
attribute [local go_sem] max2_int min2_int max_two min_two max_three min_three max_four min_four   -- for this text's walks alone
set_option linter.unusedVariables false
set_option linter.unusedSimpArgs false
attribute [local go_sem high] eqA25

/-! ### journey_Enter: function 15 (a contract proved by hand) -/
def journey_Enter.f (a0_0 : Int) (a0_1 : Int) (a0_2 : Int) (a0_3 : Int) (a0_4 : Int) (a0_5 : Int) (a0_6 : Int) (a0_7 : Int) (a0_8 : Int) (a0_9 : Int) (a0_10 : Int) (a1_0 : Int) (a1_1 : Int) (a2 : Int) : Option (Int × Int × Int × Int) := if -9223372036854775808 ≤ a2 ∧ a2 ≤ 9223372036854775807 then some (G.enterR a0_0 a0_1 a0_2 a0_3 a0_4 a0_5 a0_6 a0_7 a0_8 a0_9 a0_10 a1_0 a1_1 a2) else none
theorem journey_Enter.calls (a0_0 : Int) (a0_1 : Int) (a0_2 : Int) (a0_3 : Int) (a0_4 : Int) (a0_5 : Int) (a0_6 : Int) (a0_7 : Int) (a0_8 : Int) (a0_9 : Int) (a0_10 : Int) (a1_0 : Int) (a1_1 : Int) (a2 : Int) (r1 r2 r3 r4 : Int) (w : World) (h : journey_Enter.f a0_0 a0_1 a0_2 a0_3 a0_4 a0_5 a0_6 a0_7 a0_8 a0_9 a0_10 a1_0 a1_1 a2 = some (r1, r2, r3, r4)) : Calls Try.prog 15 #[.agg #[.int .i64 a0_0, .int .i64 a0_1, .int .i64 a0_2, .int .i64 a0_3, .int .i64 a0_4, .int .i64 a0_5, .int .i64 a0_6, .int .i64 a0_7, .int .i64 a0_8, .int .i64 a0_9, .int .i64 a0_10], .agg #[.int .i64 a1_0, .int .i64 a1_1], .int .i64 a2] w fun e w' => e = .returned (.tuple #[.agg #[.int .i64 r1, .int .i64 r2], .int .i64 r3, .int .i64 r4]) ∧ Below w.heap.size w w' := by
  unfold journey_Enter.f at h
  by_cases hw : -9223372036854775808 ≤ a2 ∧ a2 ≤ 9223372036854775807
  · rw [if_pos hw, Option.some.injEq] at h
    have hc := G.enter_any a0_0 a0_1 a0_2 a0_3 a0_4 a0_5 a0_6 a0_7 a0_8 a0_9 a0_10 a1_0 a1_1 a2 w hw
    rw [h] at hc
    exact hc
  · rw [if_neg hw] at h
    exact absurd h (by simp)

/-! ### journey_Leave: function 17 (a contract proved by hand) -/
def journey_Leave.f (a0_0 : Int) (a0_1 : Int) (a0_2 : Int) (a0_3 : Int) (a0_4 : Int) (a0_5 : Int) (a0_6 : Int) (a0_7 : Int) (a0_8 : Int) (a0_9 : Int) (a0_10 : Int) (a1_0 : Int) (a1_1 : Int) (a2 : Int) : Option (Int × Int × Int × Int) := if -9223372036854775808 ≤ a2 ∧ a2 ≤ 9223372036854775807 then some (G.leaveR a0_0 a0_1 a0_2 a0_3 a0_4 a0_5 a0_6 a0_7 a0_8 a0_9 a0_10 a1_0 a1_1 a2) else none
theorem journey_Leave.calls (a0_0 : Int) (a0_1 : Int) (a0_2 : Int) (a0_3 : Int) (a0_4 : Int) (a0_5 : Int) (a0_6 : Int) (a0_7 : Int) (a0_8 : Int) (a0_9 : Int) (a0_10 : Int) (a1_0 : Int) (a1_1 : Int) (a2 : Int) (r1 r2 r3 r4 : Int) (w : World) (h : journey_Leave.f a0_0 a0_1 a0_2 a0_3 a0_4 a0_5 a0_6 a0_7 a0_8 a0_9 a0_10 a1_0 a1_1 a2 = some (r1, r2, r3, r4)) : Calls Try.prog 17 #[.agg #[.int .i64 a0_0, .int .i64 a0_1, .int .i64 a0_2, .int .i64 a0_3, .int .i64 a0_4, .int .i64 a0_5, .int .i64 a0_6, .int .i64 a0_7, .int .i64 a0_8, .int .i64 a0_9, .int .i64 a0_10], .agg #[.int .i64 a1_0, .int .i64 a1_1], .int .i64 a2] w fun e w' => e = .returned (.tuple #[.agg #[.int .i64 r1, .int .i64 r2], .int .i64 r3, .int .i64 r4]) ∧ Below w.heap.size w w' := by
  unfold journey_Leave.f at h
  by_cases hw : -9223372036854775808 ≤ a2 ∧ a2 ≤ 9223372036854775807
  · rw [if_pos hw, Option.some.injEq] at h
    have hc := G.leave_any a0_0 a0_1 a0_2 a0_3 a0_4 a0_5 a0_6 a0_7 a0_8 a0_9 a0_10 a1_0 a1_1 a2 w hw
    rw [h] at hc
    exact hc
  · rw [if_neg hw] at h
    exact absurd h (by simp)

/-! ### journey_Is: function 22 (a contract proved by hand) -/
def journey_Is.f (a0_0 : Int) (a0_1 : Int) (a0_2 : Int) (a0_3 : Int) (a0_4 : Int) (a0_5 : Int) (a0_6 : Int) (a0_7 : Int) (a0_8 : Int) (a0_9 : Int) (a0_10 : Int) (a1_0 : Int) (a1_1 : Int) : Option (Bool) := some (G.jisB a0_0 a0_1 a0_2 a0_3 a0_4 a0_5 a0_6 a0_7 a0_8 a0_9 a0_10 a1_0 a1_1)
theorem journey_Is.calls (a0_0 : Int) (a0_1 : Int) (a0_2 : Int) (a0_3 : Int) (a0_4 : Int) (a0_5 : Int) (a0_6 : Int) (a0_7 : Int) (a0_8 : Int) (a0_9 : Int) (a0_10 : Int) (a1_0 : Int) (a1_1 : Int) (r : Bool) (w : World) (h : journey_Is.f a0_0 a0_1 a0_2 a0_3 a0_4 a0_5 a0_6 a0_7 a0_8 a0_9 a0_10 a1_0 a1_1 = some r) : Calls Try.prog 22 #[.agg #[.int .i64 a0_0, .int .i64 a0_1, .int .i64 a0_2, .int .i64 a0_3, .int .i64 a0_4, .int .i64 a0_5, .int .i64 a0_6, .int .i64 a0_7, .int .i64 a0_8, .int .i64 a0_9, .int .i64 a0_10], .agg #[.int .i64 a1_0, .int .i64 a1_1]] w fun e w' => e = .returned (.bool r) ∧ Below w.heap.size w w' := by
  unfold journey_Is.f at h
  rw [Option.some.injEq] at h
  have hc := G.jis_any a0_0 a0_1 a0_2 a0_3 a0_4 a0_5 a0_6 a0_7 a0_8 a0_9 a0_10 a1_0 a1_1 w
  rw [h] at hc
  exact hc

/-! ### ticket_Is: function 30 (a contract proved by hand) -/
def ticket_Is.f (a0_0 : Int) (a0_1 : Int) (a0_2 : Int) (a0_3 : Int) (a0_4 : Int) (a0_5 : Int) (a0_6 : Int) (a0_7 : Int) (a0_8 : Int) (a0_9 : Int) (a0_10 : Int) : Option (Bool) := some (G.isB a0_0 a0_1 a0_2 a0_3 a0_4 a0_5 a0_6 a0_7 a0_8 a0_9 a0_10)
theorem ticket_Is.calls (a0_0 : Int) (a0_1 : Int) (a0_2 : Int) (a0_3 : Int) (a0_4 : Int) (a0_5 : Int) (a0_6 : Int) (a0_7 : Int) (a0_8 : Int) (a0_9 : Int) (a0_10 : Int) (r : Bool) (w : World) (h : ticket_Is.f a0_0 a0_1 a0_2 a0_3 a0_4 a0_5 a0_6 a0_7 a0_8 a0_9 a0_10 = some r) : Calls Try.prog 30 #[.agg #[.int .i64 a0_0, .int .i64 a0_1, .int .i64 a0_2, .int .i64 a0_3, .int .i64 a0_4, .int .i64 a0_5, .int .i64 a0_6, .int .i64 a0_7, .int .i64 a0_8, .int .i64 a0_9, .int .i64 a0_10]] w fun e w' => e = .returned (.bool r) ∧ Below w.heap.size w w' := by
  unfold ticket_Is.f at h
  rw [Option.some.injEq] at h
  have hc := G.is_any a0_0 a0_1 a0_2 a0_3 a0_4 a0_5 a0_6 a0_7 a0_8 a0_9 a0_10 w
  rw [h] at hc
  exact hc

end Go.Proofs.Ytdiijjdhofaodaa.PL
end
