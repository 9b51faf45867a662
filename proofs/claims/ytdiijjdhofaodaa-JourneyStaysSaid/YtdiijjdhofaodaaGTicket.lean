/- The walk of ticket.Is: for any eleven numbers. -/
import Derived.Test.YtdiijjdhofaodaaGTable
import Derived.WalkKit
namespace Go.Proofs.Ytdiijjdhofaodaa.G
open Go Go.RowKit Go.Proofs.YtdiijjdhofaodaaW.PrintWords Go.Proofs.YtdiijjdhofaodaaW.PrintLast Go.Proofs.YtdiijjdhofaodaaW.PrintMore
def betw (n l m : Int) : Bool := decide (l ≤ n ∧ n ≤ m)
theorem within_any (n l m : Int) (w : World) : Calls Try.prog 53 #[.int .i64 n, .int .i64 l, .int .i64 m] w fun e w' => e = .returned (.bool (betw n l m)) ∧ w = w' := by
  by_cases h : l ≤ n
  · rw [show betw n l m = decide (n ≤ m) by unfold betw; exact decide_eq_decide.2 (by omega)]
    go_enter Try.func53, Try.ntmps53
    go_wp2
    go_ret
    exact ⟨rfl, rfl⟩
  · rw [show betw n l m = false by unfold betw; exact decide_eq_false (by omega)]
    go_enter Try.func53, Try.ntmps53
    go_wp2
    go_ret
    exact ⟨rfl, rfl⟩
def lisB (s : Int) : Bool := decide (0 ≤ s ∧ s < 40)
theorem lis_any (s : Int) (w : World) : Calls Try.prog 43 #[.int .i64 s] w fun e w' => e = .returned (.bool (lisB s)) ∧ w = w' := by
  by_cases h : 0 ≤ s
  · rw [show lisB s = decide (s < 40) by unfold lisB; exact decide_eq_decide.2 (by omega)]
    go_enter Try.func43, Try.ntmps43
    go_wp2
    go_ret
    exact ⟨rfl, rfl⟩
  · rw [show lisB s = false by unfold lisB; exact decide_eq_false (by omega)]
    go_enter Try.func43, Try.ntmps43
    go_wp2
    go_ret
    exact ⟨rfl, rfl⟩
theorem zones_call (x0 x1 x2 x3 x4 x5 x6 x7 x8 x9 x10 : Int) (w : World) : Calls Try.prog 57 #[.agg #[.int .i64 x0, .int .i64 x1, .int .i64 x2, .int .i64 x3, .int .i64 x4, .int .i64 x5, .int .i64 x6, .int .i64 x7, .int .i64 x8, .int .i64 x9, .int .i64 x10]] w fun e w' => e = .returned (.bool (betw x2 1 6 && betw x3 x2 6)) ∧ w' = w.alloc (.cells #[.int .i64 x0, .int .i64 x1, .int .i64 x2, .int .i64 x3, .int .i64 x4, .int .i64 x5, .int .i64 x6, .int .i64 x7, .int .i64 x8, .int .i64 x9, .int .i64 x10] 68) := by
  cases hb : betw x2 1 6
  · go_enter Try.func57, Try.ntmps57
    go_wp2_with (go_at_call 53; refine (within_any _ _ _ _).mono ?_; rintro e w' ⟨rfl, rfl⟩; (try rw [hb]))
    go_ret
    exact ⟨rfl, rfl⟩
  · go_enter Try.func57, Try.ntmps57
    go_wp2_with (go_at_call 53; refine (within_any _ _ _ _).mono ?_; rintro e w' ⟨rfl, rfl⟩; (try rw [hb]))
    go_ret
    exact ⟨rfl, rfl⟩
theorem way_call (x0 x1 x2 x3 x4 x5 x6 x7 x8 x9 x10 : Int) (w : World) : Calls Try.prog 58 #[.agg #[.int .i64 x0, .int .i64 x1, .int .i64 x2, .int .i64 x3, .int .i64 x4, .int .i64 x5, .int .i64 x6, .int .i64 x7, .int .i64 x8, .int .i64 x9, .int .i64 x10]] w fun e w' => e = .returned (.bool (lisB x2 && lisB x3 && (x2 != x3))) ∧ w' = w.alloc (.cells #[.int .i64 x0, .int .i64 x1, .int .i64 x2, .int .i64 x3, .int .i64 x4, .int .i64 x5, .int .i64 x6, .int .i64 x7, .int .i64 x8, .int .i64 x9, .int .i64 x10] 68) := by
  cases hb : lisB x2 <;> cases hc : lisB x3
  all_goals
    go_enter Try.func58, Try.ntmps58
    go_wp2_with (go_at_call 43; refine (lis_any _ _).mono ?_; rintro e w' ⟨rfl, rfl⟩; (try rw [hb]); (try rw [hc]))
    go_ret
    exact ⟨rfl, rfl⟩
def usesB (x1 x9 : Int) : Bool := if x1 = 1 then x9 == 1 else if x1 = 2 then x9 == 2 else if x1 = 3 then x9 == 0 else betw x9 2 20
theorem uses_call (x0 x1 x2 x3 x4 x5 x6 x7 x8 x9 x10 : Int) (w : World) : Calls Try.prog 59 #[.agg #[.int .i64 x0, .int .i64 x1, .int .i64 x2, .int .i64 x3, .int .i64 x4, .int .i64 x5, .int .i64 x6, .int .i64 x7, .int .i64 x8, .int .i64 x9, .int .i64 x10]] w fun e w' => e = .returned (.bool (usesB x1 x9)) ∧ w' = w.alloc (.cells #[.int .i64 x0, .int .i64 x1, .int .i64 x2, .int .i64 x3, .int .i64 x4, .int .i64 x5, .int .i64 x6, .int .i64 x7, .int .i64 x8, .int .i64 x9, .int .i64 x10] 68) := by
  unfold usesB
  by_cases h1 : x1 = 1
  · rw [if_pos h1]
    subst h1
    go_enter Try.func59, Try.ntmps59
    go_wp2
    go_ret
    exact ⟨rfl, rfl⟩
  rw [if_neg h1]
  by_cases h2 : x1 = 2
  · rw [if_pos h2]
    subst h2
    go_enter Try.func59, Try.ntmps59
    go_wp2
    go_ret
    exact ⟨rfl, rfl⟩
  rw [if_neg h2]
  by_cases h3 : x1 = 3
  · rw [if_pos h3]
    subst h3
    go_enter Try.func59, Try.ntmps59
    go_wp2
    go_ret
    exact ⟨rfl, rfl⟩
  rw [if_neg h3]
  have e1 : (x1 == 1) = false := beq_eq_false_iff_ne.2 h1
  have e2 : (x1 == 2) = false := beq_eq_false_iff_ne.2 h2
  have e3 : (x1 == 3) = false := beq_eq_false_iff_ne.2 h3
  go_enter Try.func59, Try.ntmps59
  go_wp2_with (go_at_call 53; refine (within_any _ _ _ _).mono ?_; rintro e w' ⟨rfl, rfl⟩)
  go_ret
  exact ⟨rfl, rfl⟩
end Go.Proofs.Ytdiijjdhofaodaa.G
