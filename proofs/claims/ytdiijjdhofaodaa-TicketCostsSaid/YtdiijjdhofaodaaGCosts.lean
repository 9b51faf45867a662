/- The walk of the law TicketCosts by hand (the print's cut runs out of heartbeats here). -/
import Derived.Test.YtdiijjdhofaodaaGCovers
import Derived.Test.YtdiijjdhofaodaaPCost
namespace Go.Proofs.Ytdiijjdhofaodaa.G
open Go Go.RowKit Go.Proofs.Ytdiijjdhofaodaa.PL Go.Proofs.Ytdiijjdhofaodaa.Pure Go.Proofs.YtdiijjdhofaodaaW.PrintWords Go.Proofs.YtdiijjdhofaodaaW.PrintLast Go.Proofs.YtdiijjdhofaodaaW.PrintMore
set_option maxRecDepth 100000 in
set_option maxHeartbeats 1000000 in
theorem costs_bad (x0 x1 x2 x3 x4 x5 x6 x7 x8 x9 x10 : Int) (w : World) (hB : isB x0 x1 x2 x3 x4 x5 x6 x7 x8 x9 x10 = false) (K : Nat) (hK : gatelinelaw09_sold.f K = some true) :
    Calls Try.prog 8 #[.agg #[.int .i64 x0, .int .i64 x1, .int .i64 x2, .int .i64 x3, .int .i64 x4, .int .i64 x5, .int .i64 x6, .int .i64 x7, .int .i64 x8, .int .i64 x9, .int .i64 x10]] w fun e w' => e = .returned (.bool true) ∧ Below w.heap.size w w' := by
  have hp : ticket_Price.f 1 x0 x1 x2 x3 x4 x5 x6 x7 x8 x9 x10 = some (0, 1) := by rw [price_core, hB]; rfl
  go_enter Try.func8, Try.ntmps8
  go_wp2_with (first
    | (go_at_call 32; refine (ticket_Price.calls 1 _ _ _ _ _ _ _ _ _ _ _ 0 1 _ hp).mono ?_; rintro e w1 ⟨rfl, hb⟩; have bt : Blk w1 w.heap.size (tkA x0 x1 x2 x3 x4 x5 x6 x7 x8 x9 x10) 23 := Blk.below (Blk.new w _ _) hb (by simp); have HB : Below w.heap.size w w1 := ((Below.refl _ w).alloc (Nat.le_refl _) _).trans (hb.mono (by simp)))
    | (go_at_call 29; refine (gatelinelaw09_sold.calls K true _ hK).mono ?_; rintro e w2 ⟨rfl, hb2⟩; have ct := bt.below hb2 bt.lt; have HC := HB.trans (hb2.mono HB.size); obtain ⟨q0, q1, q2, q3, q4, q5, q6, q7, q8, q9, q10⟩ := ct.all)
    | (go_at_call 30; refine (is_any _ _ _ _ _ _ _ _ _ _ _ _).mono ?_; rintro e w3 ⟨rfl, hb3⟩; rw [hB]))
  go_ret
  exact ⟨rfl, HC.trans (hb3.mono HC.size)⟩
set_option maxRecDepth 100000 in
set_option maxHeartbeats 1000000 in
theorem costs_season_walk (x0 x2 x3 x4 x5 x6 x7 x8 x9 x10 n m : Int) (w : World) (hp : ticket_Price.f 1 x0 3 x2 x3 x4 x5 x6 x7 x8 x9 x10 = some (n, 0)) (hp0 : ticket_Price.f 1 x0 3 x2 x3 x4 0 x6 x7 x8 x9 x10 = some (m, 0)) (h1 : n ≤ m) (h2 : 1 ≤ n) (K : Nat) (hK : gatelinelaw09_sold.f K = some true) :
    Calls Try.prog 8 #[.agg #[.int .i64 x0, .int .i64 3, .int .i64 x2, .int .i64 x3, .int .i64 x4, .int .i64 x5, .int .i64 x6, .int .i64 x7, .int .i64 x8, .int .i64 x9, .int .i64 x10]] w fun e w' => e = .returned (.bool true) ∧ Below w.heap.size w w' := by
  go_enter Try.func8, Try.ntmps8
  go_wp2_with (first
    | (go_at_call 32; refine (ticket_Price.calls 1 _ _ _ _ _ _ _ _ _ _ _ n 0 _ hp).mono ?_; rintro e w1 ⟨rfl, hb⟩; have bt : Blk w1 w.heap.size (tkA x0 3 x2 x3 x4 x5 x6 x7 x8 x9 x10) 23 := Blk.below (Blk.new w _ _) hb (by simp); have HB : Below w.heap.size w w1 := ((Below.refl _ w).alloc (Nat.le_refl _) _).trans (hb.mono (by simp)); obtain ⟨q0, q1, q2, q3, q4, q5, q6, q7, q8, q9, q10⟩ := bt.all; clear hp)
    | (go_at_call 32; refine (ticket_Price.calls 1 _ _ _ _ _ _ _ _ _ _ _ m 0 _ hp0).mono ?_; rintro e w2 ⟨rfl, hb2⟩; have ct : Blk w2 w.heap.size (tkA x0 3 x2 x3 x4 x5 x6 x7 x8 x9 x10) 23 := Blk.below (Blk.alloc bt _) hb2 (by have := bt.lt; simp; omega); have HC : Below w.heap.size w w2 := (HB.alloc HB.size _).trans (hb2.mono (by have := HB.size; simp; omega)); clear q0 q1 q2 q3 q4 q5 q6 q7 q8 q9 q10; obtain ⟨q0, q1, q2, q3, q4, q5, q6, q7, q8, q9, q10⟩ := ct.all)
    | (go_at_call 29; refine (gatelinelaw09_sold.calls K true _ hK).mono ?_; rintro e w3 ⟨rfl, hb3⟩))
  go_ret
  exact ⟨rfl, HC.trans (hb3.mono HC.size)⟩
set_option maxRecDepth 100000 in
set_option maxHeartbeats 1000000 in
theorem costs_one_walk (x0 x2 x3 x4 x5 x6 x7 x8 x9 x10 n m : Int) (w : World) (hp : ticket_Price.f 1 x0 1 x2 x3 x4 x5 x6 x7 x8 x9 x10 = some (n, 0)) (hp0 : ticket_Price.f 1 x0 1 x2 x3 x4 0 x6 x7 x8 x9 x10 = some (m, 0)) (hs : fare_Single.f 1 x2 x3 x4 x5 = some (n, 0)) (h1 : n ≤ m) (h2 : 1 ≤ n) (hw : wrap64 (x9 * n) = x9 * n) (h3 : n ≤ x9 * n) (K : Nat) (hK : gatelinelaw09_sold.f K = some true) :
    Calls Try.prog 8 #[.agg #[.int .i64 x0, .int .i64 1, .int .i64 x2, .int .i64 x3, .int .i64 x4, .int .i64 x5, .int .i64 x6, .int .i64 x7, .int .i64 x8, .int .i64 x9, .int .i64 x10]] w fun e w' => e = .returned (.bool true) ∧ Below w.heap.size w w' := by
  go_enter Try.func8, Try.ntmps8
  go_wp2_with (first
    | (go_at_call 32; refine (ticket_Price.calls 1 _ _ _ _ _ _ _ _ _ _ _ n 0 _ hp).mono ?_; rintro e w1 ⟨rfl, hb⟩; have bt : Blk w1 w.heap.size (tkA x0 1 x2 x3 x4 x5 x6 x7 x8 x9 x10) 23 := Blk.below (Blk.new w _ _) hb (by simp); have HB : Below w.heap.size w w1 := ((Below.refl _ w).alloc (Nat.le_refl _) _).trans (hb.mono (by simp)); obtain ⟨q0, q1, q2, q3, q4, q5, q6, q7, q8, q9, q10⟩ := bt.all; clear hp)
    | (go_at_call 32; refine (ticket_Price.calls 1 _ _ _ _ _ _ _ _ _ _ _ m 0 _ hp0).mono ?_; rintro e w2 ⟨rfl, hb2⟩; have ct : Blk w2 w.heap.size (tkA x0 1 x2 x3 x4 x5 x6 x7 x8 x9 x10) 23 := Blk.below (Blk.alloc bt _) hb2 (by have := bt.lt; simp; omega); have HC : Below w.heap.size w w2 := (HB.alloc HB.size _).trans (hb2.mono (by have := HB.size; simp; omega)); clear q0 q1 q2 q3 q4 q5 q6 q7 q8 q9 q10; obtain ⟨q0, q1, q2, q3, q4, q5, q6, q7, q8, q9, q10⟩ := ct.all; clear hp0)
    | (go_at_call 33; refine (fare_Single.calls 1 _ _ _ _ n 0 _ hs).mono ?_; rintro e w3 ⟨rfl, hb3⟩; have dt := ct.below hb3 ct.lt; have HD := HC.trans (hb3.mono HC.size); clear q0 q1 q2 q3 q4 q5 q6 q7 q8 q9 q10; obtain ⟨q0, q1, q2, q3, q4, q5, q6, q7, q8, q9, q10⟩ := dt.all)
    | (go_at_call 29; refine (gatelinelaw09_sold.calls K true _ hK).mono ?_; rintro e w4 ⟨rfl, hb4⟩; have et := dt.below hb4 dt.lt; have HE := HD.trans (hb4.mono HD.size); clear q0 q1 q2 q3 q4 q5 q6 q7 q8 q9 q10; obtain ⟨q0, q1, q2, q3, q4, q5, q6, q7, q8, q9, q10⟩ := et.all))
  go_ret
  exact ⟨by simp [*], HE⟩
set_option maxRecDepth 100000 in
set_option maxHeartbeats 1000000 in
theorem costs_more_walk (x0 x1 x2 x3 x4 x5 x6 x7 x8 x9 x10 n m one : Int) (w : World) (hp : ticket_Price.f 1 x0 x1 x2 x3 x4 x5 x6 x7 x8 x9 x10 = some (n, 0)) (hp0 : ticket_Price.f 1 x0 x1 x2 x3 x4 0 x6 x7 x8 x9 x10 = some (m, 0)) (hs : fare_Single.f 1 x2 x3 x4 x5 = some (one, 0)) (h1 : n ≤ m) (h2 : 1 ≤ n) (hw : wrap64 (x9 * one) = x9 * one) (h3 : n ≤ x9 * one) (k1 : x1 ≠ 1) (k3 : x1 ≠ 3) (K : Nat) (hK : gatelinelaw09_sold.f K = some true) :
    Calls Try.prog 8 #[.agg #[.int .i64 x0, .int .i64 x1, .int .i64 x2, .int .i64 x3, .int .i64 x4, .int .i64 x5, .int .i64 x6, .int .i64 x7, .int .i64 x8, .int .i64 x9, .int .i64 x10]] w fun e w' => e = .returned (.bool true) ∧ Below w.heap.size w w' := by
  have e1 : (x1 == 1) = false := beq_eq_false_iff_ne.2 k1
  have e1' : (x1 != 1) = true := by simp [k1]
  have e3 : (x1 == 3) = false := beq_eq_false_iff_ne.2 k3
  go_enter Try.func8, Try.ntmps8
  go_wp2_with (first
    | (go_at_call 32; refine (ticket_Price.calls 1 _ _ _ _ _ _ _ _ _ _ _ n 0 _ hp).mono ?_; rintro e w1 ⟨rfl, hb⟩; have bt : Blk w1 w.heap.size (tkA x0 x1 x2 x3 x4 x5 x6 x7 x8 x9 x10) 23 := Blk.below (Blk.new w _ _) hb (by simp); have HB : Below w.heap.size w w1 := ((Below.refl _ w).alloc (Nat.le_refl _) _).trans (hb.mono (by simp)); obtain ⟨q0, q1, q2, q3, q4, q5, q6, q7, q8, q9, q10⟩ := bt.all; clear hp)
    | (go_at_call 32; refine (ticket_Price.calls 1 _ _ _ _ _ _ _ _ _ _ _ m 0 _ hp0).mono ?_; rintro e w2 ⟨rfl, hb2⟩; have ct : Blk w2 w.heap.size (tkA x0 x1 x2 x3 x4 x5 x6 x7 x8 x9 x10) 23 := Blk.below (Blk.alloc bt _) hb2 (by have := bt.lt; simp; omega); have HC : Below w.heap.size w w2 := (HB.alloc HB.size _).trans (hb2.mono (by have := HB.size; simp; omega)); clear q0 q1 q2 q3 q4 q5 q6 q7 q8 q9 q10; obtain ⟨q0, q1, q2, q3, q4, q5, q6, q7, q8, q9, q10⟩ := ct.all; clear hp0)
    | (go_at_call 33; refine (fare_Single.calls 1 _ _ _ _ one 0 _ hs).mono ?_; rintro e w3 ⟨rfl, hb3⟩; have dt := ct.below hb3 ct.lt; have HD := HC.trans (hb3.mono HC.size); clear q0 q1 q2 q3 q4 q5 q6 q7 q8 q9 q10; obtain ⟨q0, q1, q2, q3, q4, q5, q6, q7, q8, q9, q10⟩ := dt.all)
    | (go_at_call 29; refine (gatelinelaw09_sold.calls K true _ hK).mono ?_; rintro e w4 ⟨rfl, hb4⟩; have et := dt.below hb4 dt.lt; have HE := HD.trans (hb4.mono HD.size); clear q0 q1 q2 q3 q4 q5 q6 q7 q8 q9 q10; obtain ⟨q0, q1, q2, q3, q4, q5, q6, q7, q8, q9, q10⟩ := et.all))
  go_ret
  exact ⟨by simp [*], HE⟩
end Go.Proofs.Ytdiijjdhofaodaa.G
