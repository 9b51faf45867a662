/- What the functions that this claim reaches do and answer: printed words and walks, walks by hand and plain laws, packed together, each with its own remark; printed rows are by the kit's print program, turned by this session. Conditions: those that each theorem states. -/
import Derived.Test.YtdiijjdhofaodaaKA0
import Derived.Test.YtdiijjdhofaodaaKJeRARP3
import Derived.Test.YtdiijjdhofaodaaKJeRP5
import Derived.Test.YtdiijjdhofaodaaKRARP14
import Derived.Test.YtdiijjdhofaodaaKRARDRPRS10
import Derived.Test.YtdiijjdhofaodaaKJeRP6
import Derived.Test.YtdiijjdhofaodaaKRARDRPRS12
section
namespace Go.Proofs.Ytdiijjdhofaodaa.PL
open Go.RowKit Go.Proofs.YtdiijjdhofaodaaW.PrintWords Go.Proofs.YtdiijjdhofaodaaW.PrintLast Go.Proofs.YtdiijjdhofaodaaW.PrintMore
attribute [local go_sem] max2_int min2_int max_two min_two max_three min_three max_four min_four   -- for this text's walks alone
set_option linter.unusedVariables false
set_option linter.unusedSimpArgs false
attribute [local go_sem high] eqA23

/-! ### gatelineref25_Pass: function 36 -/
def gatelineref25_Pass.j0 : Nat → Int → Int → Bool → Int → Bool → Int → Int → Int → Int → Int → Int → Int → Int → Int → Int → Int → Int → Int → Bool → Int → Int → Int → Int → Int → Int → Int → Int → Int → Int → Int → Option (Int × Int × Int × Int)
  | 0, _, _, _, _, _, _, _, _, _, _, _, _, _, _, _, _, _, _, _, _, _, _, _, _, _, _, _, _, _, _ => none
  | k + 1, x2, x3, x4, x13, x35, x302000, x302001, x302002, x302003, x302004, x302005, x302006, x302007, x302008, x302009, x302010, x302011, x302012, x302013, x303000, x303001, x303002, x303003, x303004, x303005, x303006, x303007, x303008, x303009, x303010 => if x35 = true then (some (0, 0, 0, 1)) else (if x13 = 0 then ((gatelineref25_Day.f k x303000 x303001 x303002 x303003 x303004 x303005 x303006 x303007 x303008 x303009 x303010 x2 x4).bind fun bt307 => (if bt307.1 = 0 then (if x4 = true then ((gatelineref23_Leave.f k x303000 x303001 x303002 x303003 x303004 x303005 x303006 x303007 x303008 x303009 x303010 x302011 x302012 x3).bind fun bt309 => (some (bt309.1, bt309.2.1, bt309.2.2.1, bt309.2.2.2))) else ((gatelineref23_Enter.f k x303000 x303001 x303002 x303003 x303004 x303005 x303006 x303007 x303008 x303009 x303010 x302011 x302012 x3).bind fun bt314 => (some (bt314.1, bt314.2.1, bt314.2.2.1, bt314.2.2.2)))) else (some (x302011, x302012, bt307.1, 0)))) else (some (x302011, x302012, x13, 0)))
def gatelineref25_Pass.f (k : Nat) (a0_0 : Int) (a0_1 : Int) (a0_2 : Int) (a0_3 : Int) (a0_4 : Int) (a0_5 : Int) (a0_6 : Int) (a0_7 : Int) (a0_8 : Int) (a0_9 : Int) (a0_10 : Int) (a0_11 : Int) (a0_12 : Int) (a0_13 : Bool) (a1_0 : Int) (a1_1 : Int) (a1_2 : Int) (a1_3 : Int) (a1_4 : Int) (a1_5 : Int) (a1_6 : Int) (a1_7 : Int) (a1_8 : Int) (a1_9 : Int) (a1_10 : Int) (a2 : Int) (a3 : Int) (a4 : Bool) : Option (Int × Int × Int × Int) := (gatelineref25_Same.f k a0_0 a0_1 a0_2 a0_3 a0_4 a0_5 a0_6 a0_7 a0_8 a0_9 a0_10 a0_11 a0_12 a0_13 a1_0 a1_1 a1_2 a1_3 a1_4 a1_5 a1_6 a1_7 a1_8 a1_9 a1_10).bind fun bt304 => (if bt304.2 = 0 then ((gatelineref07_Is.f a3).bind fun t306 => (gatelineref25_Pass.j0 k a2 a3 a4 bt304.1 (!t306) a0_0 a0_1 a0_2 a0_3 a0_4 a0_5 a0_6 a0_7 a0_8 a0_9 a0_10 a0_11 a0_12 a0_13 a1_0 a1_1 a1_2 a1_3 a1_4 a1_5 a1_6 a1_7 a1_8 a1_9 a1_10)) else (gatelineref25_Pass.j0 k a2 a3 a4 bt304.1 true a0_0 a0_1 a0_2 a0_3 a0_4 a0_5 a0_6 a0_7 a0_8 a0_9 a0_10 a0_11 a0_12 a0_13 a1_0 a1_1 a1_2 a1_3 a1_4 a1_5 a1_6 a1_7 a1_8 a1_9 a1_10))
theorem gatelineref25_Pass.mono_l : ∀ k, (∀ y0 y1 y2 y3 y4 y5 y6 y7 y8 y9 y10 y11 y12 y13 y14 y15 y16 y17 y18 y19 y20 y21 y22 y23 y24 y25 y26 y27 y28 y29, LeO (gatelineref25_Pass.j0 k y0 y1 y2 y3 y4 y5 y6 y7 y8 y9 y10 y11 y12 y13 y14 y15 y16 y17 y18 y19 y20 y21 y22 y23 y24 y25 y26 y27 y28 y29) (gatelineref25_Pass.j0 (k + 1) y0 y1 y2 y3 y4 y5 y6 y7 y8 y9 y10 y11 y12 y13 y14 y15 y16 y17 y18 y19 y20 y21 y22 y23 y24 y25 y26 y27 y28 y29))
  | 0 => fun _ _ _ _ _ _ _ _ _ _ _ _ _ _ _ _ _ _ _ _ _ _ _ _ _ _ _ _ _ _ r h => by simp [gatelineref25_Pass.j0] at h
  | k + 1 => by
    have ih0 := gatelineref25_Pass.mono_l k
    · intro y0 y1 y2 y3 y4 y5 y6 y7 y8 y9 y10 y11 y12 y13 y14 y15 y16 y17 y18 y19 y20 y21 y22 y23 y24 y25 y26 y27 y28 y29
      unfold gatelineref25_Pass.j0
      repeat' first
      | (with_reducible exact ih0 _ _ _ _ _ _ _ _ _ _ _ _ _ _ _ _ _ _ _ _ _ _ _ _ _ _ _ _ _ _)
      | (with_reducible exact gatelineref23_Enter.mono _ _ _ _ _ _ _ _ _ _ _ _ _ _ _)
      | (with_reducible exact gatelineref23_Leave.mono _ _ _ _ _ _ _ _ _ _ _ _ _ _ _)
      | (with_reducible exact gatelineref25_Day.mono _ _ _ _ _ _ _ _ _ _ _ _ _ _)
      | (with_reducible exact gatelineref25_Same.mono _ _ _ _ _ _ _ _ _ _ _ _ _ _ _ _ _ _ _ _ _ _ _ _ _ _)
      | (with_reducible exact LeO.refl _)
      | (with_reducible exact LeO.none _)
      | (with_reducible refine LeO.ite ?_ ?_)
      | (with_reducible refine LeO.bind ?_ (fun _ => ?_))
      | exact ih0 _ _ _ _ _ _ _ _ _ _ _ _ _ _ _ _ _ _ _ _ _ _ _ _ _ _ _ _ _ _
      | exact gatelineref23_Enter.mono _ _ _ _ _ _ _ _ _ _ _ _ _ _ _
      | exact gatelineref23_Leave.mono _ _ _ _ _ _ _ _ _ _ _ _ _ _ _
      | exact gatelineref25_Day.mono _ _ _ _ _ _ _ _ _ _ _ _ _ _
      | exact gatelineref25_Same.mono _ _ _ _ _ _ _ _ _ _ _ _ _ _ _ _ _ _ _ _ _ _ _ _ _ _
      | exact LeO.none _
      | refine LeO.ite ?_ ?_
      | refine LeO.bind ?_ (fun _ => ?_)
theorem gatelineref25_Pass.mono : ∀ a0 a1 a2 a3 a4 a5 a6 a7 a8 a9 a10 a11 a12 a13 a14 a15 a16 a17 a18 a19 a20 a21 a22 a23 a24 a25 a26 a27 k, LeO (gatelineref25_Pass.f k a0 a1 a2 a3 a4 a5 a6 a7 a8 a9 a10 a11 a12 a13 a14 a15 a16 a17 a18 a19 a20 a21 a22 a23 a24 a25 a26 a27) (gatelineref25_Pass.f (k + 1) a0 a1 a2 a3 a4 a5 a6 a7 a8 a9 a10 a11 a12 a13 a14 a15 a16 a17 a18 a19 a20 a21 a22 a23 a24 a25 a26 a27) := by
  intro a0 a1 a2 a3 a4 a5 a6 a7 a8 a9 a10 a11 a12 a13 a14 a15 a16 a17 a18 a19 a20 a21 a22 a23 a24 a25 a26 a27 k
  have ih0 := gatelineref25_Pass.mono_l k
  unfold gatelineref25_Pass.f
  repeat' first
      | (with_reducible exact ih0 _ _ _ _ _ _ _ _ _ _ _ _ _ _ _ _ _ _ _ _ _ _ _ _ _ _ _ _ _ _)
      | (with_reducible exact gatelineref23_Enter.mono _ _ _ _ _ _ _ _ _ _ _ _ _ _ _)
      | (with_reducible exact gatelineref23_Leave.mono _ _ _ _ _ _ _ _ _ _ _ _ _ _ _)
      | (with_reducible exact gatelineref25_Day.mono _ _ _ _ _ _ _ _ _ _ _ _ _ _)
      | (with_reducible exact gatelineref25_Same.mono _ _ _ _ _ _ _ _ _ _ _ _ _ _ _ _ _ _ _ _ _ _ _ _ _ _)
      | (with_reducible exact LeO.refl _)
      | (with_reducible exact LeO.none _)
      | (with_reducible refine LeO.ite ?_ ?_)
      | (with_reducible refine LeO.bind ?_ (fun _ => ?_))
      | exact ih0 _ _ _ _ _ _ _ _ _ _ _ _ _ _ _ _ _ _ _ _ _ _ _ _ _ _ _ _ _ _
      | exact gatelineref23_Enter.mono _ _ _ _ _ _ _ _ _ _ _ _ _ _ _
      | exact gatelineref23_Leave.mono _ _ _ _ _ _ _ _ _ _ _ _ _ _ _
      | exact gatelineref25_Day.mono _ _ _ _ _ _ _ _ _ _ _ _ _ _
      | exact gatelineref25_Same.mono _ _ _ _ _ _ _ _ _ _ _ _ _ _ _ _ _ _ _ _ _ _ _ _ _ _
      | exact LeO.none _
      | refine LeO.ite ?_ ?_
      | refine LeO.bind ?_ (fun _ => ?_)
set_option maxHeartbeats 8000000 in
set_option maxRecDepth 100000 in
theorem gatelineref25_Pass.calls (k : Nat) (a0_0 : Int) (a0_1 : Int) (a0_2 : Int) (a0_3 : Int) (a0_4 : Int) (a0_5 : Int) (a0_6 : Int) (a0_7 : Int) (a0_8 : Int) (a0_9 : Int) (a0_10 : Int) (a0_11 : Int) (a0_12 : Int) (a0_13 : Bool) (a1_0 : Int) (a1_1 : Int) (a1_2 : Int) (a1_3 : Int) (a1_4 : Int) (a1_5 : Int) (a1_6 : Int) (a1_7 : Int) (a1_8 : Int) (a1_9 : Int) (a1_10 : Int) (a2 : Int) (a3 : Int) (a4 : Bool) (r1 : Int) (r2 : Int) (r3 : Int) (r4 : Int) (w : World) (h : gatelineref25_Pass.f k a0_0 a0_1 a0_2 a0_3 a0_4 a0_5 a0_6 a0_7 a0_8 a0_9 a0_10 a0_11 a0_12 a0_13 a1_0 a1_1 a1_2 a1_3 a1_4 a1_5 a1_6 a1_7 a1_8 a1_9 a1_10 a2 a3 a4 = some (r1, r2, r3, r4)) :
    Calls Try.prog 36 #[.agg #[.int .i64 a0_0, .int .i64 a0_1, .int .i64 a0_2, .int .i64 a0_3, .int .i64 a0_4, .int .i64 a0_5, .int .i64 a0_6, .int .i64 a0_7, .int .i64 a0_8, .int .i64 a0_9, .int .i64 a0_10, .int .i64 a0_11, .int .i64 a0_12, .bool a0_13], .agg #[.int .i64 a1_0, .int .i64 a1_1, .int .i64 a1_2, .int .i64 a1_3, .int .i64 a1_4, .int .i64 a1_5, .int .i64 a1_6, .int .i64 a1_7, .int .i64 a1_8, .int .i64 a1_9, .int .i64 a1_10], .int .i64 a2, .int .i64 a3, .bool a4] w fun e w' => e = .returned (.tuple #[.agg #[.int .i64 r1, .int .i64 r2], .int .i64 r3, .int .i64 r4]) ∧ Below w.heap.size w w' := by
  have hu48 := Try.underlying48
  have hu23 := Try.underlying23
  have hu25 := Try.underlying25
  have HB := Aside0.mk (Below.refl w.heap.size w)
  have H : ((gatelineref25_Same.f k a0_0 a0_1 a0_2 a0_3 a0_4 a0_5 a0_6 a0_7 a0_8 a0_9 a0_10 a0_11 a0_12 a0_13 a1_0 a1_1 a1_2 a1_3 a1_4 a1_5 a1_6 a1_7 a1_8 a1_9 a1_10).bind fun bt304 => (if bt304.2 = 0 then ((gatelineref07_Is.f a3).bind fun t306 => (gatelineref25_Pass.j0 k a2 a3 a4 bt304.1 (!t306) a0_0 a0_1 a0_2 a0_3 a0_4 a0_5 a0_6 a0_7 a0_8 a0_9 a0_10 a0_11 a0_12 a0_13 a1_0 a1_1 a1_2 a1_3 a1_4 a1_5 a1_6 a1_7 a1_8 a1_9 a1_10)) else (gatelineref25_Pass.j0 k a2 a3 a4 bt304.1 true a0_0 a0_1 a0_2 a0_3 a0_4 a0_5 a0_6 a0_7 a0_8 a0_9 a0_10 a0_11 a0_12 a0_13 a1_0 a1_1 a1_2 a1_3 a1_4 a1_5 a1_6 a1_7 a1_8 a1_9 a1_10))) = some (r1, r2, r3, r4) := h
  clear h
  replace H := Option.bind_eq_some_iff.mp H
  obtain ⟨⟨t304, t305⟩, A60, H⟩ := H
  replace H : (if t305 = 0 then ((gatelineref07_Is.f a3).bind fun t306 => (gatelineref25_Pass.j0 k a2 a3 a4 t304 (!t306) a0_0 a0_1 a0_2 a0_3 a0_4 a0_5 a0_6 a0_7 a0_8 a0_9 a0_10 a0_11 a0_12 a0_13 a1_0 a1_1 a1_2 a1_3 a1_4 a1_5 a1_6 a1_7 a1_8 a1_9 a1_10)) else (gatelineref25_Pass.j0 k a2 a3 a4 t304 true a0_0 a0_1 a0_2 a0_3 a0_4 a0_5 a0_6 a0_7 a0_8 a0_9 a0_10 a0_11 a0_12 a0_13 a1_0 a1_1 a1_2 a1_3 a1_4 a1_5 a1_6 a1_7 a1_8 a1_9 a1_10)) = some (r1, r2, r3, r4) := H
  have A6 := Aside0.mk A60
  clear A60
  have HC7 := Aside0.mk H
  clear H
  go_enter Try.func36, Try.ntmps36
  go_upto_region 2 with (first | ((with_reducible refine gate_dst (N := 5) rfl ?_); refine box_event ?hg (N := 5) ?hd (cs := #[.int .i64 a0_0, .int .i64 a0_1, .int .i64 a0_2, .int .i64 a0_3, .int .i64 a0_4, .int .i64 a0_5, .int .i64 a0_6, .int .i64 a0_7, .int .i64 a0_8, .int .i64 a0_9, .int .i64 a0_10, .int .i64 a0_11, .int .i64 a0_12, .bool a0_13]) (t := 48) ?hr ?_; (case hd => rfl); (case hg => rfl); (case hr => first | (go_simp; done) | (go_simp; rfl)); intro gb301 hg w8 hbox hb; have n0_ := Aside0.mk (below_step (by repeat (first | (with_reducible first | exact HB.out | apply below_alloc | apply pw_below_drewN | apply below_drew1) | exact HB.out)) hb); have n1_ := Aside0.mk (hbox); have n2_ := Aside0.mk ((by rw [hg]; exact (below_size (by repeat (first | (with_reducible first | exact HB.out | apply below_alloc | apply pw_below_drewN | apply below_drew1) | exact HB.out))) : w.heap.size ≤ gb301)); have n3_ := Aside0.mk ((by rw [hg]; exact (below_size (by repeat (first | (with_reducible first | exact HB.out | apply below_alloc | apply pw_below_drewN | apply below_drew1) | exact HB.out))) : w.heap.size ≤ gb301)); clear HB; have HB := n0_; have BK301 := n1_; have GW301 := n2_; have GE301 := n3_; clear n0_ n1_ n2_ n3_; clear hb hbox hg) | ((with_reducible refine gate_dst (N := 6) rfl ?_); refine box_event ?hg (N := 6) ?hd (cs := #[.int .i64 a1_0, .int .i64 a1_1, .int .i64 a1_2, .int .i64 a1_3, .int .i64 a1_4, .int .i64 a1_5, .int .i64 a1_6, .int .i64 a1_7, .int .i64 a1_8, .int .i64 a1_9, .int .i64 a1_10]) (t := 23) ?hr ?_; (case hd => rfl); (case hg => rfl); (case hr => first | (go_simp; done) | (go_simp; rfl)); intro gb302 hg w9 hbox hb; have n0_ := Aside0.mk (blk_below (g := gb301) (o := .cells #[.int .i64 a0_0, .int .i64 a0_1, .int .i64 a0_2, .int .i64 a0_3, .int .i64 a0_4, .int .i64 a0_5, .int .i64 a0_6, .int .i64 a0_7, .int .i64 a0_8, .int .i64 a0_9, .int .i64 a0_10, .int .i64 a0_11, .int .i64 a0_12, .bool a0_13] 48 (0, 0)) (by (with_reducible repeat (first | refine blk_drewN ?_ _ | refine blk_drew ?_ | refine blk_alloc ?_ _)); exact BK301.out) hb); have n1_ := Aside0.mk (below_step (by repeat (first | (with_reducible first | exact HB.out | apply below_alloc | apply pw_below_drewN | apply below_drew1 | refine below_set ?_ GE301.out) | exact HB.out)) hb); have n2_ := Aside0.mk (hbox); have n3_ := Aside0.mk ((by rw [hg]; exact (below_size (by repeat (first | (with_reducible first | exact HB.out | apply below_alloc | apply pw_below_drewN | apply below_drew1 | refine below_set ?_ GE301.out) | exact HB.out))) : w.heap.size ≤ gb302)); have n4_ := Aside0.mk ((by rw [hg]; exact (below_size (by repeat (first | (with_reducible first | exact HB.out | apply below_alloc | apply pw_below_drewN | apply below_drew1 | refine below_set ?_ GE301.out) | exact HB.out))) : w.heap.size ≤ gb302)); have n5_ := Aside0.mk ((by rw [hg]; exact Nat.ne_of_lt (blk_lt (g := gb301) (o := .cells #[.int .i64 a0_0, .int .i64 a0_1, .int .i64 a0_2, .int .i64 a0_3, .int .i64 a0_4, .int .i64 a0_5, .int .i64 a0_6, .int .i64 a0_7, .int .i64 a0_8, .int .i64 a0_9, .int .i64 a0_10, .int .i64 a0_11, .int .i64 a0_12, .bool a0_13] 48 (0, 0)) (by (with_reducible repeat (first | refine blk_drewN ?_ _ | refine blk_drew ?_ | refine blk_alloc ?_ _)); exact BK301.out)) : gb301 ≠ gb302)); have n6_ := Aside0.mk ((by rw [hg]; exact Nat.ne_of_gt (blk_lt (g := gb301) (o := .cells #[.int .i64 a0_0, .int .i64 a0_1, .int .i64 a0_2, .int .i64 a0_3, .int .i64 a0_4, .int .i64 a0_5, .int .i64 a0_6, .int .i64 a0_7, .int .i64 a0_8, .int .i64 a0_9, .int .i64 a0_10, .int .i64 a0_11, .int .i64 a0_12, .bool a0_13] 48 (0, 0)) (by (with_reducible repeat (first | refine blk_drewN ?_ _ | refine blk_drew ?_ | refine blk_alloc ?_ _)); exact BK301.out)) : gb302 ≠ gb301)); clear BK301; clear HB; have BK301 := n0_; have HB := n1_; have BK302 := n2_; have GW302 := n3_; have GE302 := n4_; have NB301_302 := n5_; have NB302_301 := n6_; clear n0_ n1_ n2_ n3_ n4_ n5_ n6_; clear hb hbox hg) | ((with_reducible refine gate_dst (N := 10) rfl ?_); refine box_event ?hg (N := 10) ?hd (cs := #[.int .i64 0, .int .i64 0]) (t := 25) ?hr ?_; (case hd => rfl); (case hg => rfl); (case hr => first | (go_simp; done) | (go_simp; rfl)); intro gb303 hg w10 hbox hb; have n0_ := Aside0.mk (blk_below (g := gb301) (o := .cells #[.int .i64 a0_0, .int .i64 a0_1, .int .i64 a0_2, .int .i64 a0_3, .int .i64 a0_4, .int .i64 a0_5, .int .i64 a0_6, .int .i64 a0_7, .int .i64 a0_8, .int .i64 a0_9, .int .i64 a0_10, .int .i64 a0_11, .int .i64 a0_12, .bool a0_13] 48 (0, 0)) (by (with_reducible repeat (first | refine blk_drewN ?_ _ | refine blk_drew ?_ | refine blk_alloc ?_ _)); exact BK301.out) hb); have n1_ := Aside0.mk (blk_below (g := gb302) (o := .cells #[.int .i64 a1_0, .int .i64 a1_1, .int .i64 a1_2, .int .i64 a1_3, .int .i64 a1_4, .int .i64 a1_5, .int .i64 a1_6, .int .i64 a1_7, .int .i64 a1_8, .int .i64 a1_9, .int .i64 a1_10] 23 (0, 0)) (by (with_reducible repeat (first | refine blk_drewN ?_ _ | refine blk_drew ?_ | refine blk_alloc ?_ _)); exact BK302.out) hb); have n2_ := Aside0.mk (below_step (by repeat (first | (with_reducible first | exact HB.out | apply below_alloc | apply pw_below_drewN | apply below_drew1 | refine below_set ?_ GE301.out | refine below_set ?_ GE302.out) | exact HB.out)) hb); have n3_ := Aside0.mk (hbox); have n4_ := Aside0.mk ((by rw [hg]; exact (below_size (by repeat (first | (with_reducible first | exact HB.out | apply below_alloc | apply pw_below_drewN | apply below_drew1 | refine below_set ?_ GE301.out | refine below_set ?_ GE302.out) | exact HB.out))) : w.heap.size ≤ gb303)); have n5_ := Aside0.mk ((by rw [hg]; exact (below_size (by repeat (first | (with_reducible first | exact HB.out | apply below_alloc | apply pw_below_drewN | apply below_drew1 | refine below_set ?_ GE301.out | refine below_set ?_ GE302.out) | exact HB.out))) : w.heap.size ≤ gb303)); have n6_ := Aside0.mk ((by rw [hg]; exact Nat.ne_of_lt (blk_lt (g := gb301) (o := .cells #[.int .i64 a0_0, .int .i64 a0_1, .int .i64 a0_2, .int .i64 a0_3, .int .i64 a0_4, .int .i64 a0_5, .int .i64 a0_6, .int .i64 a0_7, .int .i64 a0_8, .int .i64 a0_9, .int .i64 a0_10, .int .i64 a0_11, .int .i64 a0_12, .bool a0_13] 48 (0, 0)) (by (with_reducible repeat (first | refine blk_drewN ?_ _ | refine blk_drew ?_ | refine blk_alloc ?_ _)); exact BK301.out)) : gb301 ≠ gb303)); have n7_ := Aside0.mk ((by rw [hg]; exact Nat.ne_of_gt (blk_lt (g := gb301) (o := .cells #[.int .i64 a0_0, .int .i64 a0_1, .int .i64 a0_2, .int .i64 a0_3, .int .i64 a0_4, .int .i64 a0_5, .int .i64 a0_6, .int .i64 a0_7, .int .i64 a0_8, .int .i64 a0_9, .int .i64 a0_10, .int .i64 a0_11, .int .i64 a0_12, .bool a0_13] 48 (0, 0)) (by (with_reducible repeat (first | refine blk_drewN ?_ _ | refine blk_drew ?_ | refine blk_alloc ?_ _)); exact BK301.out)) : gb303 ≠ gb301)); have n8_ := Aside0.mk ((by rw [hg]; exact Nat.ne_of_lt (blk_lt (g := gb302) (o := .cells #[.int .i64 a1_0, .int .i64 a1_1, .int .i64 a1_2, .int .i64 a1_3, .int .i64 a1_4, .int .i64 a1_5, .int .i64 a1_6, .int .i64 a1_7, .int .i64 a1_8, .int .i64 a1_9, .int .i64 a1_10] 23 (0, 0)) (by (with_reducible repeat (first | refine blk_drewN ?_ _ | refine blk_drew ?_ | refine blk_alloc ?_ _)); exact BK302.out)) : gb302 ≠ gb303)); have n9_ := Aside0.mk ((by rw [hg]; exact Nat.ne_of_gt (blk_lt (g := gb302) (o := .cells #[.int .i64 a1_0, .int .i64 a1_1, .int .i64 a1_2, .int .i64 a1_3, .int .i64 a1_4, .int .i64 a1_5, .int .i64 a1_6, .int .i64 a1_7, .int .i64 a1_8, .int .i64 a1_9, .int .i64 a1_10] 23 (0, 0)) (by (with_reducible repeat (first | refine blk_drewN ?_ _ | refine blk_drew ?_ | refine blk_alloc ?_ _)); exact BK302.out)) : gb303 ≠ gb302)); clear BK301; clear BK302; clear HB; have BK301 := n0_; have BK302 := n1_; have HB := n2_; have BK303 := n3_; have GW303 := n4_; have GE303 := n5_; have NB301_303 := n6_; have NB303_301 := n7_; have NB302_303 := n8_; have NB303_302 := n9_; clear n0_ n1_ n2_ n3_ n4_ n5_ n6_ n7_ n8_ n9_; clear hb hbox hg; have hnb11 := NB301_302.out; have hnc11 := NB302_301.out; have hnb12 := NB301_303.out; have hnc12 := NB303_301.out; have hcz13_0 : w10.cell? ⟨gb301, 0, none⟩ = some (.int .i64 a0_0) := (blk_cell BK301.out 0).trans rfl; have hcz13_1 : w10.cell? ⟨gb301, 1, none⟩ = some (.int .i64 a0_1) := (blk_cell BK301.out 1).trans rfl; have hcz13_2 : w10.cell? ⟨gb301, 2, none⟩ = some (.int .i64 a0_2) := (blk_cell BK301.out 2).trans rfl; have hcz13_3 : w10.cell? ⟨gb301, 3, none⟩ = some (.int .i64 a0_3) := (blk_cell BK301.out 3).trans rfl; have hcz13_4 : w10.cell? ⟨gb301, 4, none⟩ = some (.int .i64 a0_4) := (blk_cell BK301.out 4).trans rfl; have hcz13_5 : w10.cell? ⟨gb301, 5, none⟩ = some (.int .i64 a0_5) := (blk_cell BK301.out 5).trans rfl; have hcz13_6 : w10.cell? ⟨gb301, 6, none⟩ = some (.int .i64 a0_6) := (blk_cell BK301.out 6).trans rfl; have hcz13_7 : w10.cell? ⟨gb301, 7, none⟩ = some (.int .i64 a0_7) := (blk_cell BK301.out 7).trans rfl; have hcz13_8 : w10.cell? ⟨gb301, 8, none⟩ = some (.int .i64 a0_8) := (blk_cell BK301.out 8).trans rfl; have hcz13_9 : w10.cell? ⟨gb301, 9, none⟩ = some (.int .i64 a0_9) := (blk_cell BK301.out 9).trans rfl; have hcz13_10 : w10.cell? ⟨gb301, 10, none⟩ = some (.int .i64 a0_10) := (blk_cell BK301.out 10).trans rfl; have hcz13_11 : w10.cell? ⟨gb301, 11, none⟩ = some (.int .i64 a0_11) := (blk_cell BK301.out 11).trans rfl; have hcz13_12 : w10.cell? ⟨gb301, 12, none⟩ = some (.int .i64 a0_12) := (blk_cell BK301.out 12).trans rfl; have hcz13_13 : w10.cell? ⟨gb301, 13, none⟩ = some (.bool a0_13) := (blk_cell BK301.out 13).trans rfl; have hfz13_0 := blk_frozen BK301.out 0; have hfz13_1 := blk_frozen BK301.out 1; have hfz13_2 := blk_frozen BK301.out 2; have hfz13_3 := blk_frozen BK301.out 3; have hfz13_4 := blk_frozen BK301.out 4; have hfz13_5 := blk_frozen BK301.out 5; have hfz13_6 := blk_frozen BK301.out 6; have hfz13_7 := blk_frozen BK301.out 7; have hfz13_8 := blk_frozen BK301.out 8; have hfz13_9 := blk_frozen BK301.out 9; have hfz13_10 := blk_frozen BK301.out 10; have hfz13_11 := blk_frozen BK301.out 11; have hfz13_12 := blk_frozen BK301.out 12; have hfz13_13 := blk_frozen BK301.out 13; have hnb14 := NB302_303.out; have hnc14 := NB303_302.out; have hcz15_0 : w10.cell? ⟨gb302, 0, none⟩ = some (.int .i64 a1_0) := (blk_cell BK302.out 0).trans rfl; have hcz15_1 : w10.cell? ⟨gb302, 1, none⟩ = some (.int .i64 a1_1) := (blk_cell BK302.out 1).trans rfl; have hcz15_2 : w10.cell? ⟨gb302, 2, none⟩ = some (.int .i64 a1_2) := (blk_cell BK302.out 2).trans rfl; have hcz15_3 : w10.cell? ⟨gb302, 3, none⟩ = some (.int .i64 a1_3) := (blk_cell BK302.out 3).trans rfl; have hcz15_4 : w10.cell? ⟨gb302, 4, none⟩ = some (.int .i64 a1_4) := (blk_cell BK302.out 4).trans rfl; have hcz15_5 : w10.cell? ⟨gb302, 5, none⟩ = some (.int .i64 a1_5) := (blk_cell BK302.out 5).trans rfl; have hcz15_6 : w10.cell? ⟨gb302, 6, none⟩ = some (.int .i64 a1_6) := (blk_cell BK302.out 6).trans rfl; have hcz15_7 : w10.cell? ⟨gb302, 7, none⟩ = some (.int .i64 a1_7) := (blk_cell BK302.out 7).trans rfl; have hcz15_8 : w10.cell? ⟨gb302, 8, none⟩ = some (.int .i64 a1_8) := (blk_cell BK302.out 8).trans rfl; have hcz15_9 : w10.cell? ⟨gb302, 9, none⟩ = some (.int .i64 a1_9) := (blk_cell BK302.out 9).trans rfl; have hcz15_10 : w10.cell? ⟨gb302, 10, none⟩ = some (.int .i64 a1_10) := (blk_cell BK302.out 10).trans rfl; have hfz15_0 := blk_frozen BK302.out 0; have hfz15_1 := blk_frozen BK302.out 1; have hfz15_2 := blk_frozen BK302.out 2; have hfz15_3 := blk_frozen BK302.out 3; have hfz15_4 := blk_frozen BK302.out 4; have hfz15_5 := blk_frozen BK302.out 5; have hfz15_6 := blk_frozen BK302.out 6; have hfz15_7 := blk_frozen BK302.out 7; have hfz15_8 := blk_frozen BK302.out 8; have hfz15_9 := blk_frozen BK302.out 9; have hfz15_10 := blk_frozen BK302.out 10) | ((with_reducible refine gate_callee (f := 39) rfl ?_); refine goesL_ (some 26) rfl rfl Try.func39 (by kernel_rfl) rfl #[.agg #[.int .i64 a0_0, .int .i64 a0_1, .int .i64 a0_2, .int .i64 a0_3, .int .i64 a0_4, .int .i64 a0_5, .int .i64 a0_6, .int .i64 a0_7, .int .i64 a0_8, .int .i64 a0_9, .int .i64 a0_10, .int .i64 a0_11, .int .i64 a0_12, .bool a0_13], .agg #[.int .i64 a1_0, .int .i64 a1_1, .int .i64 a1_2, .int .i64 a1_3, .int .i64 a1_4, .int .i64 a1_5, .int .i64 a1_6, .int .i64 a1_7, .int .i64 a1_8, .int .i64 a1_9, .int .i64 a1_10]] rfl (by (try simp only [List.map_toArray, List.map_cons, List.map_nil]); first | done | rfl | (simp only [List.length_drop, List.length_take]; rfl)) ?_; (with_reducible refine (gatelineref25_Same.calls k a0_0 a0_1 a0_2 a0_3 a0_4 a0_5 a0_6 a0_7 a0_8 a0_9 a0_10 a0_11 a0_12 a0_13 a1_0 a1_1 a1_2 a1_3 a1_4 a1_5 a1_6 a1_7 a1_8 a1_9 a1_10 t304 t305 _ A6.out).mono ?_); rintro e w16 ⟨rfl, hb⟩; refine ⟨_, rfl, ?_⟩; have n0_ := Aside0.mk (blk_below (g := gb301) (o := .cells #[.int .i64 a0_0, .int .i64 a0_1, .int .i64 a0_2, .int .i64 a0_3, .int .i64 a0_4, .int .i64 a0_5, .int .i64 a0_6, .int .i64 a0_7, .int .i64 a0_8, .int .i64 a0_9, .int .i64 a0_10, .int .i64 a0_11, .int .i64 a0_12, .bool a0_13] 48 (0, 0)) (by (with_reducible repeat (first | refine blk_drewN ?_ _ | refine blk_drew ?_ | refine blk_alloc ?_ _)); exact BK301.out) hb); have n1_ := Aside0.mk (blk_below (g := gb302) (o := .cells #[.int .i64 a1_0, .int .i64 a1_1, .int .i64 a1_2, .int .i64 a1_3, .int .i64 a1_4, .int .i64 a1_5, .int .i64 a1_6, .int .i64 a1_7, .int .i64 a1_8, .int .i64 a1_9, .int .i64 a1_10] 23 (0, 0)) (by (with_reducible repeat (first | refine blk_drewN ?_ _ | refine blk_drew ?_ | refine blk_alloc ?_ _)); exact BK302.out) hb); have n2_ := Aside0.mk (blk_below (g := gb303) (o := .cells #[.int .i64 0, .int .i64 0] 25 (0, 0)) (by (with_reducible repeat (first | refine blk_drewN ?_ _ | refine blk_drew ?_ | refine blk_alloc ?_ _)); exact BK303.out) hb); have n3_ := Aside0.mk (below_step (by repeat (first | (with_reducible first | exact HB.out | apply below_alloc | apply pw_below_drewN | apply below_drew1 | refine below_set ?_ GE301.out | refine below_set ?_ GE302.out | refine below_set ?_ GE303.out) | exact HB.out)) hb); clear BK301; clear BK302; clear BK303; clear HB; have BK301 := n0_; have BK302 := n1_; have BK303 := n2_; have HB := n3_; clear n0_ n1_ n2_ n3_; (try clear hb); (try clear hb2); (try clear hk); (try clear hi); (try clear A6)))
  (try simp only [Act.put, List.setIfInBounds_toArray, List.set_cons_zero, List.set_cons_succ])
  go_cut [35] (fun v35 wc => ∃ (kq : Nat) (x35_6 : Bool), v35 = .bool x35_6 ∧ Aside0 (gatelineref25_Pass.j0 kq a2 a3 a4 t304 x35_6 a0_0 a0_1 a0_2 a0_3 a0_4 a0_5 a0_6 a0_7 a0_8 a0_9 a0_10 a0_11 a0_12 a0_13 a1_0 a1_1 a1_2 a1_3 a1_4 a1_5 a1_6 a1_7 a1_8 a1_9 a1_10 = some (r1, r2, r3, r4)) ∧ Aside0 (kq ≤ k) ∧ Aside0 (wc.heap[gb301]? = some (.cells #[.int .i64 a0_0, .int .i64 a0_1, .int .i64 a0_2, .int .i64 a0_3, .int .i64 a0_4, .int .i64 a0_5, .int .i64 a0_6, .int .i64 a0_7, .int .i64 a0_8, .int .i64 a0_9, .int .i64 a0_10, .int .i64 a0_11, .int .i64 a0_12, .bool a0_13] 48 (0, 0))) ∧ Aside0 (wc.heap[gb302]? = some (.cells #[.int .i64 a1_0, .int .i64 a1_1, .int .i64 a1_2, .int .i64 a1_3, .int .i64 a1_4, .int .i64 a1_5, .int .i64 a1_6, .int .i64 a1_7, .int .i64 a1_8, .int .i64 a1_9, .int .i64 a1_10] 23 (0, 0))) ∧ Aside0 (wc.heap[gb303]? = some (.cells #[.int .i64 0, .int .i64 0] 25 (0, 0))) ∧ Aside0 (Below w.heap.size w wc))
  case first =>
    have H := HC7.out
    clear HC7
    by_cases c17 : t305 = 0
    · rw [if_pos c17] at H
      have c17b0 : (t305 == 0) = true := beq_iff_eq.mpr c17
      have c17b1 : (t305 != 0) = false := bne_eq_false_iff_eq.mpr c17
      clear c17
      (first | rw [c17b0] | (simp only [i64_w, i32_w]; rw [c17b0]) | skip)
      replace H := Option.bind_eq_some_iff.mp H
      obtain ⟨t306, A180, H⟩ := H
      replace H : (gatelineref25_Pass.j0 k a2 a3 a4 t304 (!t306) a0_0 a0_1 a0_2 a0_3 a0_4 a0_5 a0_6 a0_7 a0_8 a0_9 a0_10 a0_11 a0_12 a0_13 a1_0 a1_1 a1_2 a1_3 a1_4 a1_5 a1_6 a1_7 a1_8 a1_9 a1_10) = some (r1, r2, r3, r4) := H
      have A18 := Aside0.mk A180
      clear A180
      have H' := Aside0.mk H
      clear H
      go_wp2_with (first | (go_at_call 45; (with_reducible refine (gatelineref07_Is.calls a3 t306 _ A18.out).mono ?_); rintro e w' ⟨rfl, ⟨nd, rfl⟩⟩; (try clear A18)))
      go_meet
      case rel => exact ⟨_, (!t306), (by first | rfl | (simp; done) | (simp [*]; done)), H', ⟨by first | omega | exact Nat.le_refl _⟩, ⟨by (with_reducible repeat (first | refine blk_drewN ?_ _ | refine blk_drew ?_ | refine blk_alloc ?_ _)); exact BK301.out⟩, ⟨by (with_reducible repeat (first | refine blk_drewN ?_ _ | refine blk_drew ?_ | refine blk_alloc ?_ _)); exact BK302.out⟩, ⟨by (with_reducible repeat (first | refine blk_drewN ?_ _ | refine blk_drew ?_ | refine blk_alloc ?_ _)); exact BK303.out⟩, ⟨by repeat (first | (with_reducible first | exact HB.out | apply below_alloc | apply pw_below_drewN | apply below_drew1 | refine below_set ?_ GE301.out | refine below_set ?_ GE302.out | refine below_set ?_ GE303.out) | exact HB.out)⟩⟩
    · rw [if_neg c17] at H
      have c17b0 : (t305 == 0) = false := beq_eq_false_iff_ne.mpr c17
      have c17b1 : (t305 != 0) = true := bne_iff_ne.mpr c17
      (first | rw [c17b0] | (simp only [i64_w, i32_w]; rw [c17b0]) | skip)
      have H' := Aside0.mk H
      clear H
      go_wp2
      go_meet
      case rel => exact ⟨_, (true), (by first | rfl | (simp; done) | (simp [*]; done)), H', ⟨by first | omega | exact Nat.le_refl _⟩, ⟨by (with_reducible repeat (first | refine blk_drewN ?_ _ | refine blk_drew ?_ | refine blk_alloc ?_ _)); exact BK301.out⟩, ⟨by (with_reducible repeat (first | refine blk_drewN ?_ _ | refine blk_drew ?_ | refine blk_alloc ?_ _)); exact BK302.out⟩, ⟨by (with_reducible repeat (first | refine blk_drewN ?_ _ | refine blk_drew ?_ | refine blk_alloc ?_ _)); exact BK303.out⟩, ⟨by repeat (first | (with_reducible first | exact HB.out | apply below_alloc | apply pw_below_drewN | apply below_drew1 | refine below_set ?_ GE301.out | refine below_set ?_ GE302.out | refine below_set ?_ GE303.out) | exact HB.out)⟩⟩
  case rest =>
    clear HC7
    try clear c1
    try clear p2
    try clear c3
    try clear c11
    try clear c12
    try clear c14
    try clear c17
    try clear c17b0
    try clear c17b1
    try clear hcz13_0
    try clear hcz13_1
    try clear hcz13_10
    try clear hcz13_11
    try clear hcz13_12
    try clear hcz13_13
    try clear hcz13_2
    try clear hcz13_3
    try clear hcz13_4
    try clear hcz13_5
    try clear hcz13_6
    try clear hcz13_7
    try clear hcz13_8
    try clear hcz13_9
    try clear hcz15_0
    try clear hcz15_1
    try clear hcz15_10
    try clear hcz15_2
    try clear hcz15_3
    try clear hcz15_4
    try clear hcz15_5
    try clear hcz15_6
    try clear hcz15_7
    try clear hcz15_8
    try clear hcz15_9
    try clear hfz13_0
    try clear hfz13_1
    try clear hfz13_10
    try clear hfz13_11
    try clear hfz13_12
    try clear hfz13_13
    try clear hfz13_2
    try clear hfz13_3
    try clear hfz13_4
    try clear hfz13_5
    try clear hfz13_6
    try clear hfz13_7
    try clear hfz13_8
    try clear hfz13_9
    try clear hfz15_0
    try clear hfz15_1
    try clear hfz15_10
    try clear hfz15_2
    try clear hfz15_3
    try clear hfz15_4
    try clear hfz15_5
    try clear hfz15_6
    try clear hfz15_7
    try clear hfz15_8
    try clear hfz15_9
    obtain ⟨kq, x35_6, rfl, HA, HJ6, BK301, BK302, BK303, HB⟩ := hcut
    cases kq with
    | zero => exact absurd HA.out (by simp [gatelineref25_Pass.j0])
    | succ kj6 =>
      have H := HA.out
      clear HA
      simp only [gatelineref25_Pass.j0] at H
      by_cases c19 : x35_6 = true
      · subst c19
        have H1 : (some (0, 0, 0, 1)) = some (r1, r2, r3, r4) := by rw [if_pos rfl] at H; exact H
        clear H
        have H := H1
        clear H1
        simp only [Option.some.injEq, Prod.mk.injEq] at H
        obtain ⟨rfl, rfl, rfl, rfl⟩ := H
        have hnb20 := NB303_301.out
        have hnc20 := NB301_303.out
        have hnb21 := NB303_302.out
        have hnc21 := NB302_303.out
        have hcz22_0 : wc.cell? ⟨gb303, 0, none⟩ = some (.int .i64 0) := (blk_cell BK303.out 0).trans rfl
        have hcz22_1 : wc.cell? ⟨gb303, 1, none⟩ = some (.int .i64 0) := (blk_cell BK303.out 1).trans rfl
        have hfz22_0 := blk_frozen BK303.out 0
        have hfz22_1 := blk_frozen BK303.out 1
        go_wp2
        refine bodyPost_ret (results_ctt rfl _ _ gb303 25 #[.int .i64 0, .int .i64 0] (0, 0) _ rfl (by (with_reducible repeat (first | refine blk_drewN ?_ _ | refine blk_drew ?_ | refine blk_alloc ?_ _)); refine blk_put (cs := #[.int .i64 0, .int .i64 0]) ?_ 1 _ rfl; (with_reducible repeat (first | refine blk_drewN ?_ _ | refine blk_drew ?_ | refine blk_alloc ?_ _)); refine blk_put (cs := #[.int .i64 0, .int .i64 0]) ?_ 0 _ rfl; (with_reducible repeat (first | refine blk_drewN ?_ _ | refine blk_drew ?_ | refine blk_alloc ?_ _)); exact BK303.out) Try.underlying25 rfl (by kernel_rfl)) rfl ?_
        exact ⟨by first | rfl | (simp [errW_none, errW_some] <;> rfl) | (simp [*, errW_none, errW_some] <;> rfl), by repeat (first | (with_reducible first | exact HB.out | apply below_alloc | apply pw_below_drewN | apply below_drew1 | refine below_set ?_ GE301.out | refine below_set ?_ GE302.out | refine below_set ?_ GE303.out) | exact HB.out)⟩
      · replace c19 := Bool.eq_false_iff.mpr c19
        subst c19
        have H1 : (if t304 = 0 then ((gatelineref25_Day.f kj6 a1_0 a1_1 a1_2 a1_3 a1_4 a1_5 a1_6 a1_7 a1_8 a1_9 a1_10 a2 a4).bind fun bt307 => (if bt307.1 = 0 then (if a4 = true then ((gatelineref23_Leave.f kj6 a1_0 a1_1 a1_2 a1_3 a1_4 a1_5 a1_6 a1_7 a1_8 a1_9 a1_10 a0_11 a0_12 a3).bind fun bt309 => (some (bt309.1, bt309.2.1, bt309.2.2.1, bt309.2.2.2))) else ((gatelineref23_Enter.f kj6 a1_0 a1_1 a1_2 a1_3 a1_4 a1_5 a1_6 a1_7 a1_8 a1_9 a1_10 a0_11 a0_12 a3).bind fun bt314 => (some (bt314.1, bt314.2.1, bt314.2.2.1, bt314.2.2.2)))) else (some (a0_11, a0_12, bt307.1, 0)))) else (some (a0_11, a0_12, t304, 0))) = some (r1, r2, r3, r4) := by rw [if_neg (show ¬ (false = true) by decide)] at H; exact H
        clear H
        have H := H1
        clear H1
        by_cases c23 : t304 = 0
        · rw [if_pos c23] at H
          have c23b0 : (t304 == 0) = true := beq_iff_eq.mpr c23
          have c23b1 : (t304 != 0) = false := bne_eq_false_iff_eq.mpr c23
          clear c23
          replace H := Option.bind_eq_some_iff.mp H
          obtain ⟨⟨t307, t308⟩, A240, H⟩ := H
          replace H : (if t307 = 0 then (if a4 = true then ((gatelineref23_Leave.f kj6 a1_0 a1_1 a1_2 a1_3 a1_4 a1_5 a1_6 a1_7 a1_8 a1_9 a1_10 a0_11 a0_12 a3).bind fun bt309 => (some (bt309.1, bt309.2.1, bt309.2.2.1, bt309.2.2.2))) else ((gatelineref23_Enter.f kj6 a1_0 a1_1 a1_2 a1_3 a1_4 a1_5 a1_6 a1_7 a1_8 a1_9 a1_10 a0_11 a0_12 a3).bind fun bt314 => (some (bt314.1, bt314.2.1, bt314.2.2.1, bt314.2.2.2)))) else (some (a0_11, a0_12, t307, 0))) = some (r1, r2, r3, r4) := H
          have A24 := Aside0.mk A240
          clear A240
          by_cases c25 : t307 = 0
          · rw [if_pos c25] at H
            have c25b0 : (t307 == 0) = true := beq_iff_eq.mpr c25
            have c25b1 : (t307 != 0) = false := bne_eq_false_iff_eq.mpr c25
            clear c25
            by_cases c26 : a4 = true
            · subst c26
              have H1 : ((gatelineref23_Leave.f kj6 a1_0 a1_1 a1_2 a1_3 a1_4 a1_5 a1_6 a1_7 a1_8 a1_9 a1_10 a0_11 a0_12 a3).bind fun bt309 => (some (bt309.1, bt309.2.1, bt309.2.2.1, bt309.2.2.2))) = some (r1, r2, r3, r4) := by rw [if_pos rfl] at H; exact H
              clear H
              have H := H1
              clear H1
              replace H := Option.bind_eq_some_iff.mp H
              obtain ⟨⟨t309, t310, t311, t312⟩, A270, H⟩ := H
              replace H : (some (t309, t310, t311, t312)) = some (r1, r2, r3, r4) := H
              have A27 := Aside0.mk A270
              clear A270
              simp only [Option.some.injEq, Prod.mk.injEq] at H
              obtain ⟨rfl, rfl, rfl, rfl⟩ := H
              have hnb28 := NB302_301.out
              have hnc28 := NB301_302.out
              have hnb29 := NB302_303.out
              have hnc29 := NB303_302.out
              have hcz30_0 : wc.cell? ⟨gb302, 0, none⟩ = some (.int .i64 a1_0) := (blk_cell BK302.out 0).trans rfl
              have hcz30_1 : wc.cell? ⟨gb302, 1, none⟩ = some (.int .i64 a1_1) := (blk_cell BK302.out 1).trans rfl
              have hcz30_2 : wc.cell? ⟨gb302, 2, none⟩ = some (.int .i64 a1_2) := (blk_cell BK302.out 2).trans rfl
              have hcz30_3 : wc.cell? ⟨gb302, 3, none⟩ = some (.int .i64 a1_3) := (blk_cell BK302.out 3).trans rfl
              have hcz30_4 : wc.cell? ⟨gb302, 4, none⟩ = some (.int .i64 a1_4) := (blk_cell BK302.out 4).trans rfl
              have hcz30_5 : wc.cell? ⟨gb302, 5, none⟩ = some (.int .i64 a1_5) := (blk_cell BK302.out 5).trans rfl
              have hcz30_6 : wc.cell? ⟨gb302, 6, none⟩ = some (.int .i64 a1_6) := (blk_cell BK302.out 6).trans rfl
              have hcz30_7 : wc.cell? ⟨gb302, 7, none⟩ = some (.int .i64 a1_7) := (blk_cell BK302.out 7).trans rfl
              have hcz30_8 : wc.cell? ⟨gb302, 8, none⟩ = some (.int .i64 a1_8) := (blk_cell BK302.out 8).trans rfl
              have hcz30_9 : wc.cell? ⟨gb302, 9, none⟩ = some (.int .i64 a1_9) := (blk_cell BK302.out 9).trans rfl
              have hcz30_10 : wc.cell? ⟨gb302, 10, none⟩ = some (.int .i64 a1_10) := (blk_cell BK302.out 10).trans rfl
              have hfz30_0 := blk_frozen BK302.out 0
              have hfz30_1 := blk_frozen BK302.out 1
              have hfz30_2 := blk_frozen BK302.out 2
              have hfz30_3 := blk_frozen BK302.out 3
              have hfz30_4 := blk_frozen BK302.out 4
              have hfz30_5 := blk_frozen BK302.out 5
              have hfz30_6 := blk_frozen BK302.out 6
              have hfz30_7 := blk_frozen BK302.out 7
              have hfz30_8 := blk_frozen BK302.out 8
              have hfz30_9 := blk_frozen BK302.out 9
              have hfz30_10 := blk_frozen BK302.out 10
              go_wp2_with (first | ((with_reducible refine gate_callee (f := 41) rfl ?_); refine goesL_ (some 46) rfl rfl Try.func41 (by kernel_rfl) rfl #[.agg #[.int .i64 a1_0, .int .i64 a1_1, .int .i64 a1_2, .int .i64 a1_3, .int .i64 a1_4, .int .i64 a1_5, .int .i64 a1_6, .int .i64 a1_7, .int .i64 a1_8, .int .i64 a1_9, .int .i64 a1_10], .int .i64 a2, .bool true] rfl (by (try simp only [List.map_toArray, List.map_cons, List.map_nil]); first | done | rfl | (simp only [List.length_drop, List.length_take]; rfl)) ?_; (with_reducible refine (gatelineref25_Day.calls kj6 a1_0 a1_1 a1_2 a1_3 a1_4 a1_5 a1_6 a1_7 a1_8 a1_9 a1_10 a2 true t307 t308 _ A24.out).mono ?_); rintro e w31 ⟨rfl, hb⟩; refine ⟨_, rfl, ?_⟩; have n0_ := Aside0.mk (blk_below (g := gb301) (o := .cells #[.int .i64 a0_0, .int .i64 a0_1, .int .i64 a0_2, .int .i64 a0_3, .int .i64 a0_4, .int .i64 a0_5, .int .i64 a0_6, .int .i64 a0_7, .int .i64 a0_8, .int .i64 a0_9, .int .i64 a0_10, .int .i64 a0_11, .int .i64 a0_12, .bool a0_13] 48 (0, 0)) (by (with_reducible repeat (first | refine blk_drewN ?_ _ | refine blk_drew ?_ | refine blk_alloc ?_ _)); exact BK301.out) hb); have n1_ := Aside0.mk (blk_below (g := gb302) (o := .cells #[.int .i64 a1_0, .int .i64 a1_1, .int .i64 a1_2, .int .i64 a1_3, .int .i64 a1_4, .int .i64 a1_5, .int .i64 a1_6, .int .i64 a1_7, .int .i64 a1_8, .int .i64 a1_9, .int .i64 a1_10] 23 (0, 0)) (by (with_reducible repeat (first | refine blk_drewN ?_ _ | refine blk_drew ?_ | refine blk_alloc ?_ _)); exact BK302.out) hb); have n2_ := Aside0.mk (blk_below (g := gb303) (o := .cells #[.int .i64 0, .int .i64 0] 25 (0, 0)) (by (with_reducible repeat (first | refine blk_drewN ?_ _ | refine blk_drew ?_ | refine blk_alloc ?_ _)); exact BK303.out) hb); have n3_ := Aside0.mk (below_step (by repeat (first | (with_reducible first | exact HB.out | apply below_alloc | apply pw_below_drewN | apply below_drew1 | refine below_set ?_ GE301.out | refine below_set ?_ GE302.out | refine below_set ?_ GE303.out) | exact HB.out)) hb); clear BK301; clear BK302; clear BK303; clear HB; have BK301 := n0_; have BK302 := n1_; have BK303 := n2_; have HB := n3_; clear n0_ n1_ n2_ n3_; (try clear hb); (try clear hb2); (try clear hk); (try clear hi); (try clear A24); have hcz32_0 : w31.cell? ⟨gb302, 0, none⟩ = some (.int .i64 a1_0) := (blk_cell BK302.out 0).trans rfl; have hcz32_1 : w31.cell? ⟨gb302, 1, none⟩ = some (.int .i64 a1_1) := (blk_cell BK302.out 1).trans rfl; have hcz32_2 : w31.cell? ⟨gb302, 2, none⟩ = some (.int .i64 a1_2) := (blk_cell BK302.out 2).trans rfl; have hcz32_3 : w31.cell? ⟨gb302, 3, none⟩ = some (.int .i64 a1_3) := (blk_cell BK302.out 3).trans rfl; have hcz32_4 : w31.cell? ⟨gb302, 4, none⟩ = some (.int .i64 a1_4) := (blk_cell BK302.out 4).trans rfl; have hcz32_5 : w31.cell? ⟨gb302, 5, none⟩ = some (.int .i64 a1_5) := (blk_cell BK302.out 5).trans rfl; have hcz32_6 : w31.cell? ⟨gb302, 6, none⟩ = some (.int .i64 a1_6) := (blk_cell BK302.out 6).trans rfl; have hcz32_7 : w31.cell? ⟨gb302, 7, none⟩ = some (.int .i64 a1_7) := (blk_cell BK302.out 7).trans rfl; have hcz32_8 : w31.cell? ⟨gb302, 8, none⟩ = some (.int .i64 a1_8) := (blk_cell BK302.out 8).trans rfl; have hcz32_9 : w31.cell? ⟨gb302, 9, none⟩ = some (.int .i64 a1_9) := (blk_cell BK302.out 9).trans rfl; have hcz32_10 : w31.cell? ⟨gb302, 10, none⟩ = some (.int .i64 a1_10) := (blk_cell BK302.out 10).trans rfl; have hfz32_0 := blk_frozen BK302.out 0; have hfz32_1 := blk_frozen BK302.out 1; have hfz32_2 := blk_frozen BK302.out 2; have hfz32_3 := blk_frozen BK302.out 3; have hfz32_4 := blk_frozen BK302.out 4; have hfz32_5 := blk_frozen BK302.out 5; have hfz32_6 := blk_frozen BK302.out 6; have hfz32_7 := blk_frozen BK302.out 7; have hfz32_8 := blk_frozen BK302.out 8; have hfz32_9 := blk_frozen BK302.out 9; have hfz32_10 := blk_frozen BK302.out 10; have hnb33 := NB301_303.out; have hnc33 := NB303_301.out; have hcz34_0 : w31.cell? ⟨gb301, 0, none⟩ = some (.int .i64 a0_0) := (blk_cell BK301.out 0).trans rfl; have hcz34_1 : w31.cell? ⟨gb301, 1, none⟩ = some (.int .i64 a0_1) := (blk_cell BK301.out 1).trans rfl; have hcz34_2 : w31.cell? ⟨gb301, 2, none⟩ = some (.int .i64 a0_2) := (blk_cell BK301.out 2).trans rfl; have hcz34_3 : w31.cell? ⟨gb301, 3, none⟩ = some (.int .i64 a0_3) := (blk_cell BK301.out 3).trans rfl; have hcz34_4 : w31.cell? ⟨gb301, 4, none⟩ = some (.int .i64 a0_4) := (blk_cell BK301.out 4).trans rfl; have hcz34_5 : w31.cell? ⟨gb301, 5, none⟩ = some (.int .i64 a0_5) := (blk_cell BK301.out 5).trans rfl; have hcz34_6 : w31.cell? ⟨gb301, 6, none⟩ = some (.int .i64 a0_6) := (blk_cell BK301.out 6).trans rfl; have hcz34_7 : w31.cell? ⟨gb301, 7, none⟩ = some (.int .i64 a0_7) := (blk_cell BK301.out 7).trans rfl; have hcz34_8 : w31.cell? ⟨gb301, 8, none⟩ = some (.int .i64 a0_8) := (blk_cell BK301.out 8).trans rfl; have hcz34_9 : w31.cell? ⟨gb301, 9, none⟩ = some (.int .i64 a0_9) := (blk_cell BK301.out 9).trans rfl; have hcz34_10 : w31.cell? ⟨gb301, 10, none⟩ = some (.int .i64 a0_10) := (blk_cell BK301.out 10).trans rfl; have hcz34_11 : w31.cell? ⟨gb301, 11, none⟩ = some (.int .i64 a0_11) := (blk_cell BK301.out 11).trans rfl; have hcz34_12 : w31.cell? ⟨gb301, 12, none⟩ = some (.int .i64 a0_12) := (blk_cell BK301.out 12).trans rfl; have hcz34_13 : w31.cell? ⟨gb301, 13, none⟩ = some (.bool a0_13) := (blk_cell BK301.out 13).trans rfl; have hfz34_0 := blk_frozen BK301.out 0; have hfz34_1 := blk_frozen BK301.out 1; have hfz34_2 := blk_frozen BK301.out 2; have hfz34_3 := blk_frozen BK301.out 3; have hfz34_4 := blk_frozen BK301.out 4; have hfz34_5 := blk_frozen BK301.out 5; have hfz34_6 := blk_frozen BK301.out 6; have hfz34_7 := blk_frozen BK301.out 7; have hfz34_8 := blk_frozen BK301.out 8; have hfz34_9 := blk_frozen BK301.out 9; have hfz34_10 := blk_frozen BK301.out 10; have hfz34_11 := blk_frozen BK301.out 11; have hfz34_12 := blk_frozen BK301.out 12; have hfz34_13 := blk_frozen BK301.out 13) | ((with_reducible refine gate_callee (f := 18) rfl ?_); refine goesL_ (some 60) rfl rfl Try.func18 (by kernel_rfl) rfl #[.agg #[.int .i64 a1_0, .int .i64 a1_1, .int .i64 a1_2, .int .i64 a1_3, .int .i64 a1_4, .int .i64 a1_5, .int .i64 a1_6, .int .i64 a1_7, .int .i64 a1_8, .int .i64 a1_9, .int .i64 a1_10], .agg #[.int .i64 a0_11, .int .i64 a0_12], .int .i64 a3] rfl (by (try simp only [List.map_toArray, List.map_cons, List.map_nil]); first | done | rfl | (simp only [List.length_drop, List.length_take]; rfl)) ?_; (with_reducible refine (gatelineref23_Leave.calls kj6 a1_0 a1_1 a1_2 a1_3 a1_4 a1_5 a1_6 a1_7 a1_8 a1_9 a1_10 a0_11 a0_12 a3 t309 t310 t311 t312 _ A27.out).mono ?_); rintro e w35 ⟨rfl, hb⟩; refine ⟨_, rfl, ?_⟩; have n0_ := Aside0.mk (blk_below (g := gb301) (o := .cells #[.int .i64 a0_0, .int .i64 a0_1, .int .i64 a0_2, .int .i64 a0_3, .int .i64 a0_4, .int .i64 a0_5, .int .i64 a0_6, .int .i64 a0_7, .int .i64 a0_8, .int .i64 a0_9, .int .i64 a0_10, .int .i64 a0_11, .int .i64 a0_12, .bool a0_13] 48 (0, 0)) (by (with_reducible repeat (first | refine blk_drewN ?_ _ | refine blk_drew ?_ | refine blk_alloc ?_ _)); exact BK301.out) hb); have n1_ := Aside0.mk (blk_below (g := gb302) (o := .cells #[.int .i64 a1_0, .int .i64 a1_1, .int .i64 a1_2, .int .i64 a1_3, .int .i64 a1_4, .int .i64 a1_5, .int .i64 a1_6, .int .i64 a1_7, .int .i64 a1_8, .int .i64 a1_9, .int .i64 a1_10] 23 (0, 0)) (by (with_reducible repeat (first | refine blk_drewN ?_ _ | refine blk_drew ?_ | refine blk_alloc ?_ _)); exact BK302.out) hb); have n2_ := Aside0.mk (blk_below (g := gb303) (o := .cells #[.int .i64 0, .int .i64 0] 25 (0, 0)) (by (with_reducible repeat (first | refine blk_drewN ?_ _ | refine blk_drew ?_ | refine blk_alloc ?_ _)); exact BK303.out) hb); have n3_ := Aside0.mk (below_step (by repeat (first | (with_reducible first | exact HB.out | apply below_alloc | apply pw_below_drewN | apply below_drew1 | refine below_set ?_ GE301.out | refine below_set ?_ GE302.out | refine below_set ?_ GE303.out) | exact HB.out)) hb); clear BK301; clear BK302; clear BK303; clear HB; have BK301 := n0_; have BK302 := n1_; have BK303 := n2_; have HB := n3_; clear n0_ n1_ n2_ n3_; (try clear hb); (try clear hb2); (try clear hk); (try clear hi); (try clear A27)) | ((with_reducible refine gate_dst (N := 17) rfl ?_); refine box_event ?hg (N := 17) ?hd (cs := #[.int .i64 0, .int .i64 0]) (t := 25) ?hr ?_; (case hd => rfl); (case hg => rfl); (case hr => first | (go_simp; done) | (go_simp; rfl)); intro gb313 hg w36 hbox hb; have n0_ := Aside0.mk (blk_below (g := gb301) (o := .cells #[.int .i64 a0_0, .int .i64 a0_1, .int .i64 a0_2, .int .i64 a0_3, .int .i64 a0_4, .int .i64 a0_5, .int .i64 a0_6, .int .i64 a0_7, .int .i64 a0_8, .int .i64 a0_9, .int .i64 a0_10, .int .i64 a0_11, .int .i64 a0_12, .bool a0_13] 48 (0, 0)) (by (with_reducible repeat (first | refine blk_drewN ?_ _ | refine blk_drew ?_ | refine blk_alloc ?_ _)); exact BK301.out) hb); have n1_ := Aside0.mk (blk_below (g := gb302) (o := .cells #[.int .i64 a1_0, .int .i64 a1_1, .int .i64 a1_2, .int .i64 a1_3, .int .i64 a1_4, .int .i64 a1_5, .int .i64 a1_6, .int .i64 a1_7, .int .i64 a1_8, .int .i64 a1_9, .int .i64 a1_10] 23 (0, 0)) (by (with_reducible repeat (first | refine blk_drewN ?_ _ | refine blk_drew ?_ | refine blk_alloc ?_ _)); exact BK302.out) hb); have n2_ := Aside0.mk (blk_below (g := gb303) (o := .cells #[.int .i64 0, .int .i64 0] 25 (0, 0)) (by (with_reducible repeat (first | refine blk_drewN ?_ _ | refine blk_drew ?_ | refine blk_alloc ?_ _)); exact BK303.out) hb); have n3_ := Aside0.mk (below_step (by repeat (first | (with_reducible first | exact HB.out | apply below_alloc | apply pw_below_drewN | apply below_drew1 | refine below_set ?_ GE301.out | refine below_set ?_ GE302.out | refine below_set ?_ GE303.out) | exact HB.out)) hb); have n4_ := Aside0.mk (hbox); have n5_ := Aside0.mk ((by rw [hg]; exact (below_size (by repeat (first | (with_reducible first | exact HB.out | apply below_alloc | apply pw_below_drewN | apply below_drew1 | refine below_set ?_ GE301.out | refine below_set ?_ GE302.out | refine below_set ?_ GE303.out) | exact HB.out))) : w.heap.size ≤ gb313)); have n6_ := Aside0.mk ((by rw [hg]; exact (below_size (by repeat (first | (with_reducible first | exact HB.out | apply below_alloc | apply pw_below_drewN | apply below_drew1 | refine below_set ?_ GE301.out | refine below_set ?_ GE302.out | refine below_set ?_ GE303.out) | exact HB.out))) : w.heap.size ≤ gb313)); have n7_ := Aside0.mk ((by rw [hg]; exact Nat.ne_of_lt (blk_lt (g := gb301) (o := .cells #[.int .i64 a0_0, .int .i64 a0_1, .int .i64 a0_2, .int .i64 a0_3, .int .i64 a0_4, .int .i64 a0_5, .int .i64 a0_6, .int .i64 a0_7, .int .i64 a0_8, .int .i64 a0_9, .int .i64 a0_10, .int .i64 a0_11, .int .i64 a0_12, .bool a0_13] 48 (0, 0)) (by (with_reducible repeat (first | refine blk_drewN ?_ _ | refine blk_drew ?_ | refine blk_alloc ?_ _)); exact BK301.out)) : gb301 ≠ gb313)); have n8_ := Aside0.mk ((by rw [hg]; exact Nat.ne_of_gt (blk_lt (g := gb301) (o := .cells #[.int .i64 a0_0, .int .i64 a0_1, .int .i64 a0_2, .int .i64 a0_3, .int .i64 a0_4, .int .i64 a0_5, .int .i64 a0_6, .int .i64 a0_7, .int .i64 a0_8, .int .i64 a0_9, .int .i64 a0_10, .int .i64 a0_11, .int .i64 a0_12, .bool a0_13] 48 (0, 0)) (by (with_reducible repeat (first | refine blk_drewN ?_ _ | refine blk_drew ?_ | refine blk_alloc ?_ _)); exact BK301.out)) : gb313 ≠ gb301)); have n9_ := Aside0.mk ((by rw [hg]; exact Nat.ne_of_lt (blk_lt (g := gb302) (o := .cells #[.int .i64 a1_0, .int .i64 a1_1, .int .i64 a1_2, .int .i64 a1_3, .int .i64 a1_4, .int .i64 a1_5, .int .i64 a1_6, .int .i64 a1_7, .int .i64 a1_8, .int .i64 a1_9, .int .i64 a1_10] 23 (0, 0)) (by (with_reducible repeat (first | refine blk_drewN ?_ _ | refine blk_drew ?_ | refine blk_alloc ?_ _)); exact BK302.out)) : gb302 ≠ gb313)); have n10_ := Aside0.mk ((by rw [hg]; exact Nat.ne_of_gt (blk_lt (g := gb302) (o := .cells #[.int .i64 a1_0, .int .i64 a1_1, .int .i64 a1_2, .int .i64 a1_3, .int .i64 a1_4, .int .i64 a1_5, .int .i64 a1_6, .int .i64 a1_7, .int .i64 a1_8, .int .i64 a1_9, .int .i64 a1_10] 23 (0, 0)) (by (with_reducible repeat (first | refine blk_drewN ?_ _ | refine blk_drew ?_ | refine blk_alloc ?_ _)); exact BK302.out)) : gb313 ≠ gb302)); have n11_ := Aside0.mk ((by rw [hg]; exact Nat.ne_of_lt (blk_lt (g := gb303) (o := .cells #[.int .i64 0, .int .i64 0] 25 (0, 0)) (by (with_reducible repeat (first | refine blk_drewN ?_ _ | refine blk_drew ?_ | refine blk_alloc ?_ _)); exact BK303.out)) : gb303 ≠ gb313)); have n12_ := Aside0.mk ((by rw [hg]; exact Nat.ne_of_gt (blk_lt (g := gb303) (o := .cells #[.int .i64 0, .int .i64 0] 25 (0, 0)) (by (with_reducible repeat (first | refine blk_drewN ?_ _ | refine blk_drew ?_ | refine blk_alloc ?_ _)); exact BK303.out)) : gb313 ≠ gb303)); clear BK301; clear BK302; clear BK303; clear HB; have BK301 := n0_; have BK302 := n1_; have BK303 := n2_; have HB := n3_; have BK313 := n4_; have GW313 := n5_; have GE313 := n6_; have NB301_313 := n7_; have NB313_301 := n8_; have NB302_313 := n9_; have NB313_302 := n10_; have NB303_313 := n11_; have NB313_303 := n12_; clear n0_ n1_ n2_ n3_ n4_ n5_ n6_ n7_ n8_ n9_ n10_ n11_ n12_; clear hb hbox hg; have hnb37 := NB313_301.out; have hnc37 := NB301_313.out; have hnb38 := NB313_302.out; have hnc38 := NB302_313.out; have hnb39 := NB313_303.out; have hnc39 := NB303_313.out; have hcz40_0 : w36.cell? ⟨gb313, 0, none⟩ = some (.int .i64 0) := (blk_cell BK313.out 0).trans rfl; have hcz40_1 : w36.cell? ⟨gb313, 1, none⟩ = some (.int .i64 0) := (blk_cell BK313.out 1).trans rfl; have hfz40_0 := blk_frozen BK313.out 0; have hfz40_1 := blk_frozen BK313.out 1; have hcz41_0 : w36.cell? ⟨gb303, 0, none⟩ = some (.int .i64 0) := (blk_cell BK303.out 0).trans rfl; have hcz41_1 : w36.cell? ⟨gb303, 1, none⟩ = some (.int .i64 0) := (blk_cell BK303.out 1).trans rfl; have hfz41_0 := blk_frozen BK303.out 0; have hfz41_1 := blk_frozen BK303.out 1))
              refine bodyPost_ret (results_ctt rfl _ _ gb303 25 #[.int .i64 t309, .int .i64 t310] (0, 0) _ rfl (by (with_reducible repeat (first | refine blk_drewN ?_ _ | refine blk_drew ?_ | refine blk_alloc ?_ _)); refine blk_put (cs := #[.int .i64 t309, .int .i64 0]) ?_ 1 _ rfl; (with_reducible repeat (first | refine blk_drewN ?_ _ | refine blk_drew ?_ | refine blk_alloc ?_ _)); refine blk_put (cs := #[.int .i64 0, .int .i64 0]) ?_ 0 _ rfl; (with_reducible repeat (first | refine blk_drewN ?_ _ | refine blk_drew ?_ | refine blk_alloc ?_ _)); refine blk_far ?_ NB303_313.out _; (with_reducible repeat (first | refine blk_drewN ?_ _ | refine blk_drew ?_ | refine blk_alloc ?_ _)); refine blk_far ?_ NB303_313.out _; (with_reducible repeat (first | refine blk_drewN ?_ _ | refine blk_drew ?_ | refine blk_alloc ?_ _)); exact BK303.out) Try.underlying25 rfl (by kernel_rfl)) rfl ?_
              exact ⟨by first | rfl | (simp [errW_none, errW_some] <;> rfl) | (simp [*, errW_none, errW_some] <;> rfl), by repeat (first | (with_reducible first | exact HB.out | apply below_alloc | apply pw_below_drewN | apply below_drew1 | refine below_set ?_ GE301.out | refine below_set ?_ GE302.out | refine below_set ?_ GE303.out | refine below_set ?_ GE313.out) | exact HB.out)⟩
            · replace c26 := Bool.eq_false_iff.mpr c26
              subst c26
              have H1 : ((gatelineref23_Enter.f kj6 a1_0 a1_1 a1_2 a1_3 a1_4 a1_5 a1_6 a1_7 a1_8 a1_9 a1_10 a0_11 a0_12 a3).bind fun bt314 => (some (bt314.1, bt314.2.1, bt314.2.2.1, bt314.2.2.2))) = some (r1, r2, r3, r4) := by rw [if_neg (show ¬ (false = true) by decide)] at H; exact H
              clear H
              have H := H1
              clear H1
              replace H := Option.bind_eq_some_iff.mp H
              obtain ⟨⟨t314, t315, t316, t317⟩, A420, H⟩ := H
              replace H : (some (t314, t315, t316, t317)) = some (r1, r2, r3, r4) := H
              have A42 := Aside0.mk A420
              clear A420
              simp only [Option.some.injEq, Prod.mk.injEq] at H
              obtain ⟨rfl, rfl, rfl, rfl⟩ := H
              have hnb43 := NB302_301.out
              have hnc43 := NB301_302.out
              have hnb44 := NB302_303.out
              have hnc44 := NB303_302.out
              have hcz45_0 : wc.cell? ⟨gb302, 0, none⟩ = some (.int .i64 a1_0) := (blk_cell BK302.out 0).trans rfl
              have hcz45_1 : wc.cell? ⟨gb302, 1, none⟩ = some (.int .i64 a1_1) := (blk_cell BK302.out 1).trans rfl
              have hcz45_2 : wc.cell? ⟨gb302, 2, none⟩ = some (.int .i64 a1_2) := (blk_cell BK302.out 2).trans rfl
              have hcz45_3 : wc.cell? ⟨gb302, 3, none⟩ = some (.int .i64 a1_3) := (blk_cell BK302.out 3).trans rfl
              have hcz45_4 : wc.cell? ⟨gb302, 4, none⟩ = some (.int .i64 a1_4) := (blk_cell BK302.out 4).trans rfl
              have hcz45_5 : wc.cell? ⟨gb302, 5, none⟩ = some (.int .i64 a1_5) := (blk_cell BK302.out 5).trans rfl
              have hcz45_6 : wc.cell? ⟨gb302, 6, none⟩ = some (.int .i64 a1_6) := (blk_cell BK302.out 6).trans rfl
              have hcz45_7 : wc.cell? ⟨gb302, 7, none⟩ = some (.int .i64 a1_7) := (blk_cell BK302.out 7).trans rfl
              have hcz45_8 : wc.cell? ⟨gb302, 8, none⟩ = some (.int .i64 a1_8) := (blk_cell BK302.out 8).trans rfl
              have hcz45_9 : wc.cell? ⟨gb302, 9, none⟩ = some (.int .i64 a1_9) := (blk_cell BK302.out 9).trans rfl
              have hcz45_10 : wc.cell? ⟨gb302, 10, none⟩ = some (.int .i64 a1_10) := (blk_cell BK302.out 10).trans rfl
              have hfz45_0 := blk_frozen BK302.out 0
              have hfz45_1 := blk_frozen BK302.out 1
              have hfz45_2 := blk_frozen BK302.out 2
              have hfz45_3 := blk_frozen BK302.out 3
              have hfz45_4 := blk_frozen BK302.out 4
              have hfz45_5 := blk_frozen BK302.out 5
              have hfz45_6 := blk_frozen BK302.out 6
              have hfz45_7 := blk_frozen BK302.out 7
              have hfz45_8 := blk_frozen BK302.out 8
              have hfz45_9 := blk_frozen BK302.out 9
              have hfz45_10 := blk_frozen BK302.out 10
              go_wp2_with (first | ((with_reducible refine gate_callee (f := 41) rfl ?_); refine goesL_ (some 46) rfl rfl Try.func41 (by kernel_rfl) rfl #[.agg #[.int .i64 a1_0, .int .i64 a1_1, .int .i64 a1_2, .int .i64 a1_3, .int .i64 a1_4, .int .i64 a1_5, .int .i64 a1_6, .int .i64 a1_7, .int .i64 a1_8, .int .i64 a1_9, .int .i64 a1_10], .int .i64 a2, .bool false] rfl (by (try simp only [List.map_toArray, List.map_cons, List.map_nil]); first | done | rfl | (simp only [List.length_drop, List.length_take]; rfl)) ?_; (with_reducible refine (gatelineref25_Day.calls kj6 a1_0 a1_1 a1_2 a1_3 a1_4 a1_5 a1_6 a1_7 a1_8 a1_9 a1_10 a2 false t307 t308 _ A24.out).mono ?_); rintro e w46 ⟨rfl, hb⟩; refine ⟨_, rfl, ?_⟩; have n0_ := Aside0.mk (blk_below (g := gb301) (o := .cells #[.int .i64 a0_0, .int .i64 a0_1, .int .i64 a0_2, .int .i64 a0_3, .int .i64 a0_4, .int .i64 a0_5, .int .i64 a0_6, .int .i64 a0_7, .int .i64 a0_8, .int .i64 a0_9, .int .i64 a0_10, .int .i64 a0_11, .int .i64 a0_12, .bool a0_13] 48 (0, 0)) (by (with_reducible repeat (first | refine blk_drewN ?_ _ | refine blk_drew ?_ | refine blk_alloc ?_ _)); exact BK301.out) hb); have n1_ := Aside0.mk (blk_below (g := gb302) (o := .cells #[.int .i64 a1_0, .int .i64 a1_1, .int .i64 a1_2, .int .i64 a1_3, .int .i64 a1_4, .int .i64 a1_5, .int .i64 a1_6, .int .i64 a1_7, .int .i64 a1_8, .int .i64 a1_9, .int .i64 a1_10] 23 (0, 0)) (by (with_reducible repeat (first | refine blk_drewN ?_ _ | refine blk_drew ?_ | refine blk_alloc ?_ _)); exact BK302.out) hb); have n2_ := Aside0.mk (blk_below (g := gb303) (o := .cells #[.int .i64 0, .int .i64 0] 25 (0, 0)) (by (with_reducible repeat (first | refine blk_drewN ?_ _ | refine blk_drew ?_ | refine blk_alloc ?_ _)); exact BK303.out) hb); have n3_ := Aside0.mk (below_step (by repeat (first | (with_reducible first | exact HB.out | apply below_alloc | apply pw_below_drewN | apply below_drew1 | refine below_set ?_ GE301.out | refine below_set ?_ GE302.out | refine below_set ?_ GE303.out) | exact HB.out)) hb); clear BK301; clear BK302; clear BK303; clear HB; have BK301 := n0_; have BK302 := n1_; have BK303 := n2_; have HB := n3_; clear n0_ n1_ n2_ n3_; (try clear hb); (try clear hb2); (try clear hk); (try clear hi); (try clear A24); have hcz47_0 : w46.cell? ⟨gb302, 0, none⟩ = some (.int .i64 a1_0) := (blk_cell BK302.out 0).trans rfl; have hcz47_1 : w46.cell? ⟨gb302, 1, none⟩ = some (.int .i64 a1_1) := (blk_cell BK302.out 1).trans rfl; have hcz47_2 : w46.cell? ⟨gb302, 2, none⟩ = some (.int .i64 a1_2) := (blk_cell BK302.out 2).trans rfl; have hcz47_3 : w46.cell? ⟨gb302, 3, none⟩ = some (.int .i64 a1_3) := (blk_cell BK302.out 3).trans rfl; have hcz47_4 : w46.cell? ⟨gb302, 4, none⟩ = some (.int .i64 a1_4) := (blk_cell BK302.out 4).trans rfl; have hcz47_5 : w46.cell? ⟨gb302, 5, none⟩ = some (.int .i64 a1_5) := (blk_cell BK302.out 5).trans rfl; have hcz47_6 : w46.cell? ⟨gb302, 6, none⟩ = some (.int .i64 a1_6) := (blk_cell BK302.out 6).trans rfl; have hcz47_7 : w46.cell? ⟨gb302, 7, none⟩ = some (.int .i64 a1_7) := (blk_cell BK302.out 7).trans rfl; have hcz47_8 : w46.cell? ⟨gb302, 8, none⟩ = some (.int .i64 a1_8) := (blk_cell BK302.out 8).trans rfl; have hcz47_9 : w46.cell? ⟨gb302, 9, none⟩ = some (.int .i64 a1_9) := (blk_cell BK302.out 9).trans rfl; have hcz47_10 : w46.cell? ⟨gb302, 10, none⟩ = some (.int .i64 a1_10) := (blk_cell BK302.out 10).trans rfl; have hfz47_0 := blk_frozen BK302.out 0; have hfz47_1 := blk_frozen BK302.out 1; have hfz47_2 := blk_frozen BK302.out 2; have hfz47_3 := blk_frozen BK302.out 3; have hfz47_4 := blk_frozen BK302.out 4; have hfz47_5 := blk_frozen BK302.out 5; have hfz47_6 := blk_frozen BK302.out 6; have hfz47_7 := blk_frozen BK302.out 7; have hfz47_8 := blk_frozen BK302.out 8; have hfz47_9 := blk_frozen BK302.out 9; have hfz47_10 := blk_frozen BK302.out 10; have hnb48 := NB301_303.out; have hnc48 := NB303_301.out; have hcz49_0 : w46.cell? ⟨gb301, 0, none⟩ = some (.int .i64 a0_0) := (blk_cell BK301.out 0).trans rfl; have hcz49_1 : w46.cell? ⟨gb301, 1, none⟩ = some (.int .i64 a0_1) := (blk_cell BK301.out 1).trans rfl; have hcz49_2 : w46.cell? ⟨gb301, 2, none⟩ = some (.int .i64 a0_2) := (blk_cell BK301.out 2).trans rfl; have hcz49_3 : w46.cell? ⟨gb301, 3, none⟩ = some (.int .i64 a0_3) := (blk_cell BK301.out 3).trans rfl; have hcz49_4 : w46.cell? ⟨gb301, 4, none⟩ = some (.int .i64 a0_4) := (blk_cell BK301.out 4).trans rfl; have hcz49_5 : w46.cell? ⟨gb301, 5, none⟩ = some (.int .i64 a0_5) := (blk_cell BK301.out 5).trans rfl; have hcz49_6 : w46.cell? ⟨gb301, 6, none⟩ = some (.int .i64 a0_6) := (blk_cell BK301.out 6).trans rfl; have hcz49_7 : w46.cell? ⟨gb301, 7, none⟩ = some (.int .i64 a0_7) := (blk_cell BK301.out 7).trans rfl; have hcz49_8 : w46.cell? ⟨gb301, 8, none⟩ = some (.int .i64 a0_8) := (blk_cell BK301.out 8).trans rfl; have hcz49_9 : w46.cell? ⟨gb301, 9, none⟩ = some (.int .i64 a0_9) := (blk_cell BK301.out 9).trans rfl; have hcz49_10 : w46.cell? ⟨gb301, 10, none⟩ = some (.int .i64 a0_10) := (blk_cell BK301.out 10).trans rfl; have hcz49_11 : w46.cell? ⟨gb301, 11, none⟩ = some (.int .i64 a0_11) := (blk_cell BK301.out 11).trans rfl; have hcz49_12 : w46.cell? ⟨gb301, 12, none⟩ = some (.int .i64 a0_12) := (blk_cell BK301.out 12).trans rfl; have hcz49_13 : w46.cell? ⟨gb301, 13, none⟩ = some (.bool a0_13) := (blk_cell BK301.out 13).trans rfl; have hfz49_0 := blk_frozen BK301.out 0; have hfz49_1 := blk_frozen BK301.out 1; have hfz49_2 := blk_frozen BK301.out 2; have hfz49_3 := blk_frozen BK301.out 3; have hfz49_4 := blk_frozen BK301.out 4; have hfz49_5 := blk_frozen BK301.out 5; have hfz49_6 := blk_frozen BK301.out 6; have hfz49_7 := blk_frozen BK301.out 7; have hfz49_8 := blk_frozen BK301.out 8; have hfz49_9 := blk_frozen BK301.out 9; have hfz49_10 := blk_frozen BK301.out 10; have hfz49_11 := blk_frozen BK301.out 11; have hfz49_12 := blk_frozen BK301.out 12; have hfz49_13 := blk_frozen BK301.out 13) | ((with_reducible refine gate_callee (f := 16) rfl ?_); refine goesL_ (some 72) rfl rfl Try.func16 (by kernel_rfl) rfl #[.agg #[.int .i64 a1_0, .int .i64 a1_1, .int .i64 a1_2, .int .i64 a1_3, .int .i64 a1_4, .int .i64 a1_5, .int .i64 a1_6, .int .i64 a1_7, .int .i64 a1_8, .int .i64 a1_9, .int .i64 a1_10], .agg #[.int .i64 a0_11, .int .i64 a0_12], .int .i64 a3] rfl (by (try simp only [List.map_toArray, List.map_cons, List.map_nil]); first | done | rfl | (simp only [List.length_drop, List.length_take]; rfl)) ?_; (with_reducible refine (gatelineref23_Enter.calls kj6 a1_0 a1_1 a1_2 a1_3 a1_4 a1_5 a1_6 a1_7 a1_8 a1_9 a1_10 a0_11 a0_12 a3 t314 t315 t316 t317 _ A42.out).mono ?_); rintro e w50 ⟨rfl, hb⟩; refine ⟨_, rfl, ?_⟩; have n0_ := Aside0.mk (blk_below (g := gb301) (o := .cells #[.int .i64 a0_0, .int .i64 a0_1, .int .i64 a0_2, .int .i64 a0_3, .int .i64 a0_4, .int .i64 a0_5, .int .i64 a0_6, .int .i64 a0_7, .int .i64 a0_8, .int .i64 a0_9, .int .i64 a0_10, .int .i64 a0_11, .int .i64 a0_12, .bool a0_13] 48 (0, 0)) (by (with_reducible repeat (first | refine blk_drewN ?_ _ | refine blk_drew ?_ | refine blk_alloc ?_ _)); exact BK301.out) hb); have n1_ := Aside0.mk (blk_below (g := gb302) (o := .cells #[.int .i64 a1_0, .int .i64 a1_1, .int .i64 a1_2, .int .i64 a1_3, .int .i64 a1_4, .int .i64 a1_5, .int .i64 a1_6, .int .i64 a1_7, .int .i64 a1_8, .int .i64 a1_9, .int .i64 a1_10] 23 (0, 0)) (by (with_reducible repeat (first | refine blk_drewN ?_ _ | refine blk_drew ?_ | refine blk_alloc ?_ _)); exact BK302.out) hb); have n2_ := Aside0.mk (blk_below (g := gb303) (o := .cells #[.int .i64 0, .int .i64 0] 25 (0, 0)) (by (with_reducible repeat (first | refine blk_drewN ?_ _ | refine blk_drew ?_ | refine blk_alloc ?_ _)); exact BK303.out) hb); have n3_ := Aside0.mk (below_step (by repeat (first | (with_reducible first | exact HB.out | apply below_alloc | apply pw_below_drewN | apply below_drew1 | refine below_set ?_ GE301.out | refine below_set ?_ GE302.out | refine below_set ?_ GE303.out) | exact HB.out)) hb); clear BK301; clear BK302; clear BK303; clear HB; have BK301 := n0_; have BK302 := n1_; have BK303 := n2_; have HB := n3_; clear n0_ n1_ n2_ n3_; (try clear hb); (try clear hb2); (try clear hk); (try clear hi); (try clear A42)) | ((with_reducible refine gate_dst (N := 20) rfl ?_); refine box_event ?hg (N := 20) ?hd (cs := #[.int .i64 0, .int .i64 0]) (t := 25) ?hr ?_; (case hd => rfl); (case hg => rfl); (case hr => first | (go_simp; done) | (go_simp; rfl)); intro gb318 hg w51 hbox hb; have n0_ := Aside0.mk (blk_below (g := gb301) (o := .cells #[.int .i64 a0_0, .int .i64 a0_1, .int .i64 a0_2, .int .i64 a0_3, .int .i64 a0_4, .int .i64 a0_5, .int .i64 a0_6, .int .i64 a0_7, .int .i64 a0_8, .int .i64 a0_9, .int .i64 a0_10, .int .i64 a0_11, .int .i64 a0_12, .bool a0_13] 48 (0, 0)) (by (with_reducible repeat (first | refine blk_drewN ?_ _ | refine blk_drew ?_ | refine blk_alloc ?_ _)); exact BK301.out) hb); have n1_ := Aside0.mk (blk_below (g := gb302) (o := .cells #[.int .i64 a1_0, .int .i64 a1_1, .int .i64 a1_2, .int .i64 a1_3, .int .i64 a1_4, .int .i64 a1_5, .int .i64 a1_6, .int .i64 a1_7, .int .i64 a1_8, .int .i64 a1_9, .int .i64 a1_10] 23 (0, 0)) (by (with_reducible repeat (first | refine blk_drewN ?_ _ | refine blk_drew ?_ | refine blk_alloc ?_ _)); exact BK302.out) hb); have n2_ := Aside0.mk (blk_below (g := gb303) (o := .cells #[.int .i64 0, .int .i64 0] 25 (0, 0)) (by (with_reducible repeat (first | refine blk_drewN ?_ _ | refine blk_drew ?_ | refine blk_alloc ?_ _)); exact BK303.out) hb); have n3_ := Aside0.mk (below_step (by repeat (first | (with_reducible first | exact HB.out | apply below_alloc | apply pw_below_drewN | apply below_drew1 | refine below_set ?_ GE301.out | refine below_set ?_ GE302.out | refine below_set ?_ GE303.out) | exact HB.out)) hb); have n4_ := Aside0.mk (hbox); have n5_ := Aside0.mk ((by rw [hg]; exact (below_size (by repeat (first | (with_reducible first | exact HB.out | apply below_alloc | apply pw_below_drewN | apply below_drew1 | refine below_set ?_ GE301.out | refine below_set ?_ GE302.out | refine below_set ?_ GE303.out) | exact HB.out))) : w.heap.size ≤ gb318)); have n6_ := Aside0.mk ((by rw [hg]; exact (below_size (by repeat (first | (with_reducible first | exact HB.out | apply below_alloc | apply pw_below_drewN | apply below_drew1 | refine below_set ?_ GE301.out | refine below_set ?_ GE302.out | refine below_set ?_ GE303.out) | exact HB.out))) : w.heap.size ≤ gb318)); have n7_ := Aside0.mk ((by rw [hg]; exact Nat.ne_of_lt (blk_lt (g := gb301) (o := .cells #[.int .i64 a0_0, .int .i64 a0_1, .int .i64 a0_2, .int .i64 a0_3, .int .i64 a0_4, .int .i64 a0_5, .int .i64 a0_6, .int .i64 a0_7, .int .i64 a0_8, .int .i64 a0_9, .int .i64 a0_10, .int .i64 a0_11, .int .i64 a0_12, .bool a0_13] 48 (0, 0)) (by (with_reducible repeat (first | refine blk_drewN ?_ _ | refine blk_drew ?_ | refine blk_alloc ?_ _)); exact BK301.out)) : gb301 ≠ gb318)); have n8_ := Aside0.mk ((by rw [hg]; exact Nat.ne_of_gt (blk_lt (g := gb301) (o := .cells #[.int .i64 a0_0, .int .i64 a0_1, .int .i64 a0_2, .int .i64 a0_3, .int .i64 a0_4, .int .i64 a0_5, .int .i64 a0_6, .int .i64 a0_7, .int .i64 a0_8, .int .i64 a0_9, .int .i64 a0_10, .int .i64 a0_11, .int .i64 a0_12, .bool a0_13] 48 (0, 0)) (by (with_reducible repeat (first | refine blk_drewN ?_ _ | refine blk_drew ?_ | refine blk_alloc ?_ _)); exact BK301.out)) : gb318 ≠ gb301)); have n9_ := Aside0.mk ((by rw [hg]; exact Nat.ne_of_lt (blk_lt (g := gb302) (o := .cells #[.int .i64 a1_0, .int .i64 a1_1, .int .i64 a1_2, .int .i64 a1_3, .int .i64 a1_4, .int .i64 a1_5, .int .i64 a1_6, .int .i64 a1_7, .int .i64 a1_8, .int .i64 a1_9, .int .i64 a1_10] 23 (0, 0)) (by (with_reducible repeat (first | refine blk_drewN ?_ _ | refine blk_drew ?_ | refine blk_alloc ?_ _)); exact BK302.out)) : gb302 ≠ gb318)); have n10_ := Aside0.mk ((by rw [hg]; exact Nat.ne_of_gt (blk_lt (g := gb302) (o := .cells #[.int .i64 a1_0, .int .i64 a1_1, .int .i64 a1_2, .int .i64 a1_3, .int .i64 a1_4, .int .i64 a1_5, .int .i64 a1_6, .int .i64 a1_7, .int .i64 a1_8, .int .i64 a1_9, .int .i64 a1_10] 23 (0, 0)) (by (with_reducible repeat (first | refine blk_drewN ?_ _ | refine blk_drew ?_ | refine blk_alloc ?_ _)); exact BK302.out)) : gb318 ≠ gb302)); have n11_ := Aside0.mk ((by rw [hg]; exact Nat.ne_of_lt (blk_lt (g := gb303) (o := .cells #[.int .i64 0, .int .i64 0] 25 (0, 0)) (by (with_reducible repeat (first | refine blk_drewN ?_ _ | refine blk_drew ?_ | refine blk_alloc ?_ _)); exact BK303.out)) : gb303 ≠ gb318)); have n12_ := Aside0.mk ((by rw [hg]; exact Nat.ne_of_gt (blk_lt (g := gb303) (o := .cells #[.int .i64 0, .int .i64 0] 25 (0, 0)) (by (with_reducible repeat (first | refine blk_drewN ?_ _ | refine blk_drew ?_ | refine blk_alloc ?_ _)); exact BK303.out)) : gb318 ≠ gb303)); clear BK301; clear BK302; clear BK303; clear HB; have BK301 := n0_; have BK302 := n1_; have BK303 := n2_; have HB := n3_; have BK318 := n4_; have GW318 := n5_; have GE318 := n6_; have NB301_318 := n7_; have NB318_301 := n8_; have NB302_318 := n9_; have NB318_302 := n10_; have NB303_318 := n11_; have NB318_303 := n12_; clear n0_ n1_ n2_ n3_ n4_ n5_ n6_ n7_ n8_ n9_ n10_ n11_ n12_; clear hb hbox hg; have hnb52 := NB318_301.out; have hnc52 := NB301_318.out; have hnb53 := NB318_302.out; have hnc53 := NB302_318.out; have hnb54 := NB318_303.out; have hnc54 := NB303_318.out; have hcz55_0 : w51.cell? ⟨gb318, 0, none⟩ = some (.int .i64 0) := (blk_cell BK318.out 0).trans rfl; have hcz55_1 : w51.cell? ⟨gb318, 1, none⟩ = some (.int .i64 0) := (blk_cell BK318.out 1).trans rfl; have hfz55_0 := blk_frozen BK318.out 0; have hfz55_1 := blk_frozen BK318.out 1; have hcz56_0 : w51.cell? ⟨gb303, 0, none⟩ = some (.int .i64 0) := (blk_cell BK303.out 0).trans rfl; have hcz56_1 : w51.cell? ⟨gb303, 1, none⟩ = some (.int .i64 0) := (blk_cell BK303.out 1).trans rfl; have hfz56_0 := blk_frozen BK303.out 0; have hfz56_1 := blk_frozen BK303.out 1))
              refine bodyPost_ret (results_ctt rfl _ _ gb303 25 #[.int .i64 t314, .int .i64 t315] (0, 0) _ rfl (by (with_reducible repeat (first | refine blk_drewN ?_ _ | refine blk_drew ?_ | refine blk_alloc ?_ _)); refine blk_put (cs := #[.int .i64 t314, .int .i64 0]) ?_ 1 _ rfl; (with_reducible repeat (first | refine blk_drewN ?_ _ | refine blk_drew ?_ | refine blk_alloc ?_ _)); refine blk_put (cs := #[.int .i64 0, .int .i64 0]) ?_ 0 _ rfl; (with_reducible repeat (first | refine blk_drewN ?_ _ | refine blk_drew ?_ | refine blk_alloc ?_ _)); refine blk_far ?_ NB303_318.out _; (with_reducible repeat (first | refine blk_drewN ?_ _ | refine blk_drew ?_ | refine blk_alloc ?_ _)); refine blk_far ?_ NB303_318.out _; (with_reducible repeat (first | refine blk_drewN ?_ _ | refine blk_drew ?_ | refine blk_alloc ?_ _)); exact BK303.out) Try.underlying25 rfl (by kernel_rfl)) rfl ?_
              exact ⟨by first | rfl | (simp [errW_none, errW_some] <;> rfl) | (simp [*, errW_none, errW_some] <;> rfl), by repeat (first | (with_reducible first | exact HB.out | apply below_alloc | apply pw_below_drewN | apply below_drew1 | refine below_set ?_ GE301.out | refine below_set ?_ GE302.out | refine below_set ?_ GE303.out | refine below_set ?_ GE318.out) | exact HB.out)⟩
          · rw [if_neg c25] at H
            have c25b0 : (t307 == 0) = false := beq_eq_false_iff_ne.mpr c25
            have c25b1 : (t307 != 0) = true := bne_iff_ne.mpr c25
            simp only [Option.some.injEq, Prod.mk.injEq] at H
            obtain ⟨rfl, rfl, rfl, rfl⟩ := H
            have hnb57 := NB302_301.out
            have hnc57 := NB301_302.out
            have hnb58 := NB302_303.out
            have hnc58 := NB303_302.out
            have hcz59_0 : wc.cell? ⟨gb302, 0, none⟩ = some (.int .i64 a1_0) := (blk_cell BK302.out 0).trans rfl
            have hcz59_1 : wc.cell? ⟨gb302, 1, none⟩ = some (.int .i64 a1_1) := (blk_cell BK302.out 1).trans rfl
            have hcz59_2 : wc.cell? ⟨gb302, 2, none⟩ = some (.int .i64 a1_2) := (blk_cell BK302.out 2).trans rfl
            have hcz59_3 : wc.cell? ⟨gb302, 3, none⟩ = some (.int .i64 a1_3) := (blk_cell BK302.out 3).trans rfl
            have hcz59_4 : wc.cell? ⟨gb302, 4, none⟩ = some (.int .i64 a1_4) := (blk_cell BK302.out 4).trans rfl
            have hcz59_5 : wc.cell? ⟨gb302, 5, none⟩ = some (.int .i64 a1_5) := (blk_cell BK302.out 5).trans rfl
            have hcz59_6 : wc.cell? ⟨gb302, 6, none⟩ = some (.int .i64 a1_6) := (blk_cell BK302.out 6).trans rfl
            have hcz59_7 : wc.cell? ⟨gb302, 7, none⟩ = some (.int .i64 a1_7) := (blk_cell BK302.out 7).trans rfl
            have hcz59_8 : wc.cell? ⟨gb302, 8, none⟩ = some (.int .i64 a1_8) := (blk_cell BK302.out 8).trans rfl
            have hcz59_9 : wc.cell? ⟨gb302, 9, none⟩ = some (.int .i64 a1_9) := (blk_cell BK302.out 9).trans rfl
            have hcz59_10 : wc.cell? ⟨gb302, 10, none⟩ = some (.int .i64 a1_10) := (blk_cell BK302.out 10).trans rfl
            have hfz59_0 := blk_frozen BK302.out 0
            have hfz59_1 := blk_frozen BK302.out 1
            have hfz59_2 := blk_frozen BK302.out 2
            have hfz59_3 := blk_frozen BK302.out 3
            have hfz59_4 := blk_frozen BK302.out 4
            have hfz59_5 := blk_frozen BK302.out 5
            have hfz59_6 := blk_frozen BK302.out 6
            have hfz59_7 := blk_frozen BK302.out 7
            have hfz59_8 := blk_frozen BK302.out 8
            have hfz59_9 := blk_frozen BK302.out 9
            have hfz59_10 := blk_frozen BK302.out 10
            go_wp2_with (first | ((with_reducible refine gate_callee (f := 41) rfl ?_); refine goesL_ (some 46) rfl rfl Try.func41 (by kernel_rfl) rfl #[.agg #[.int .i64 a1_0, .int .i64 a1_1, .int .i64 a1_2, .int .i64 a1_3, .int .i64 a1_4, .int .i64 a1_5, .int .i64 a1_6, .int .i64 a1_7, .int .i64 a1_8, .int .i64 a1_9, .int .i64 a1_10], .int .i64 a2, .bool a4] rfl (by (try simp only [List.map_toArray, List.map_cons, List.map_nil]); first | done | rfl | (simp only [List.length_drop, List.length_take]; rfl)) ?_; (with_reducible refine (gatelineref25_Day.calls kj6 a1_0 a1_1 a1_2 a1_3 a1_4 a1_5 a1_6 a1_7 a1_8 a1_9 a1_10 a2 a4 t307 t308 _ A24.out).mono ?_); rintro e w60 ⟨rfl, hb⟩; refine ⟨_, rfl, ?_⟩; have n0_ := Aside0.mk (blk_below (g := gb301) (o := .cells #[.int .i64 a0_0, .int .i64 a0_1, .int .i64 a0_2, .int .i64 a0_3, .int .i64 a0_4, .int .i64 a0_5, .int .i64 a0_6, .int .i64 a0_7, .int .i64 a0_8, .int .i64 a0_9, .int .i64 a0_10, .int .i64 a0_11, .int .i64 a0_12, .bool a0_13] 48 (0, 0)) (by (with_reducible repeat (first | refine blk_drewN ?_ _ | refine blk_drew ?_ | refine blk_alloc ?_ _)); exact BK301.out) hb); have n1_ := Aside0.mk (blk_below (g := gb302) (o := .cells #[.int .i64 a1_0, .int .i64 a1_1, .int .i64 a1_2, .int .i64 a1_3, .int .i64 a1_4, .int .i64 a1_5, .int .i64 a1_6, .int .i64 a1_7, .int .i64 a1_8, .int .i64 a1_9, .int .i64 a1_10] 23 (0, 0)) (by (with_reducible repeat (first | refine blk_drewN ?_ _ | refine blk_drew ?_ | refine blk_alloc ?_ _)); exact BK302.out) hb); have n2_ := Aside0.mk (blk_below (g := gb303) (o := .cells #[.int .i64 0, .int .i64 0] 25 (0, 0)) (by (with_reducible repeat (first | refine blk_drewN ?_ _ | refine blk_drew ?_ | refine blk_alloc ?_ _)); exact BK303.out) hb); have n3_ := Aside0.mk (below_step (by repeat (first | (with_reducible first | exact HB.out | apply below_alloc | apply pw_below_drewN | apply below_drew1 | refine below_set ?_ GE301.out | refine below_set ?_ GE302.out | refine below_set ?_ GE303.out) | exact HB.out)) hb); clear BK301; clear BK302; clear BK303; clear HB; have BK301 := n0_; have BK302 := n1_; have BK303 := n2_; have HB := n3_; clear n0_ n1_ n2_ n3_; (try clear hb); (try clear hb2); (try clear hk); (try clear hi); (try clear A24); have hnb61 := NB301_303.out; have hnc61 := NB303_301.out; have hcz62_0 : w60.cell? ⟨gb301, 0, none⟩ = some (.int .i64 a0_0) := (blk_cell BK301.out 0).trans rfl; have hcz62_1 : w60.cell? ⟨gb301, 1, none⟩ = some (.int .i64 a0_1) := (blk_cell BK301.out 1).trans rfl; have hcz62_2 : w60.cell? ⟨gb301, 2, none⟩ = some (.int .i64 a0_2) := (blk_cell BK301.out 2).trans rfl; have hcz62_3 : w60.cell? ⟨gb301, 3, none⟩ = some (.int .i64 a0_3) := (blk_cell BK301.out 3).trans rfl; have hcz62_4 : w60.cell? ⟨gb301, 4, none⟩ = some (.int .i64 a0_4) := (blk_cell BK301.out 4).trans rfl; have hcz62_5 : w60.cell? ⟨gb301, 5, none⟩ = some (.int .i64 a0_5) := (blk_cell BK301.out 5).trans rfl; have hcz62_6 : w60.cell? ⟨gb301, 6, none⟩ = some (.int .i64 a0_6) := (blk_cell BK301.out 6).trans rfl; have hcz62_7 : w60.cell? ⟨gb301, 7, none⟩ = some (.int .i64 a0_7) := (blk_cell BK301.out 7).trans rfl; have hcz62_8 : w60.cell? ⟨gb301, 8, none⟩ = some (.int .i64 a0_8) := (blk_cell BK301.out 8).trans rfl; have hcz62_9 : w60.cell? ⟨gb301, 9, none⟩ = some (.int .i64 a0_9) := (blk_cell BK301.out 9).trans rfl; have hcz62_10 : w60.cell? ⟨gb301, 10, none⟩ = some (.int .i64 a0_10) := (blk_cell BK301.out 10).trans rfl; have hcz62_11 : w60.cell? ⟨gb301, 11, none⟩ = some (.int .i64 a0_11) := (blk_cell BK301.out 11).trans rfl; have hcz62_12 : w60.cell? ⟨gb301, 12, none⟩ = some (.int .i64 a0_12) := (blk_cell BK301.out 12).trans rfl; have hcz62_13 : w60.cell? ⟨gb301, 13, none⟩ = some (.bool a0_13) := (blk_cell BK301.out 13).trans rfl; have hfz62_0 := blk_frozen BK301.out 0; have hfz62_1 := blk_frozen BK301.out 1; have hfz62_2 := blk_frozen BK301.out 2; have hfz62_3 := blk_frozen BK301.out 3; have hfz62_4 := blk_frozen BK301.out 4; have hfz62_5 := blk_frozen BK301.out 5; have hfz62_6 := blk_frozen BK301.out 6; have hfz62_7 := blk_frozen BK301.out 7; have hfz62_8 := blk_frozen BK301.out 8; have hfz62_9 := blk_frozen BK301.out 9; have hfz62_10 := blk_frozen BK301.out 10; have hfz62_11 := blk_frozen BK301.out 11; have hfz62_12 := blk_frozen BK301.out 12; have hfz62_13 := blk_frozen BK301.out 13; have hcz63_0 : w60.cell? ⟨gb303, 0, none⟩ = some (.int .i64 0) := (blk_cell BK303.out 0).trans rfl; have hcz63_1 : w60.cell? ⟨gb303, 1, none⟩ = some (.int .i64 0) := (blk_cell BK303.out 1).trans rfl; have hfz63_0 := blk_frozen BK303.out 0; have hfz63_1 := blk_frozen BK303.out 1))
            refine bodyPost_ret (results_ctt rfl _ _ gb303 25 #[.int .i64 a0_11, .int .i64 a0_12] (0, 0) _ rfl (by (with_reducible repeat (first | refine blk_drewN ?_ _ | refine blk_drew ?_ | refine blk_alloc ?_ _)); refine blk_put (cs := #[.int .i64 a0_11, .int .i64 0]) ?_ 1 _ rfl; (with_reducible repeat (first | refine blk_drewN ?_ _ | refine blk_drew ?_ | refine blk_alloc ?_ _)); refine blk_put (cs := #[.int .i64 0, .int .i64 0]) ?_ 0 _ rfl; (with_reducible repeat (first | refine blk_drewN ?_ _ | refine blk_drew ?_ | refine blk_alloc ?_ _)); exact BK303.out) Try.underlying25 rfl (by kernel_rfl)) rfl ?_
            exact ⟨by first | rfl | (simp [errW_none, errW_some] <;> rfl) | (simp [*, errW_none, errW_some] <;> rfl), by repeat (first | (with_reducible first | exact HB.out | apply below_alloc | apply pw_below_drewN | apply below_drew1 | refine below_set ?_ GE301.out | refine below_set ?_ GE302.out | refine below_set ?_ GE303.out) | exact HB.out)⟩
        · rw [if_neg c23] at H
          have c23b0 : (t304 == 0) = false := beq_eq_false_iff_ne.mpr c23
          have c23b1 : (t304 != 0) = true := bne_iff_ne.mpr c23
          simp only [Option.some.injEq, Prod.mk.injEq] at H
          obtain ⟨rfl, rfl, rfl, rfl⟩ := H
          have hnb64 := NB301_302.out
          have hnc64 := NB302_301.out
          have hnb65 := NB301_303.out
          have hnc65 := NB303_301.out
          have hcz66_0 : wc.cell? ⟨gb301, 0, none⟩ = some (.int .i64 a0_0) := (blk_cell BK301.out 0).trans rfl
          have hcz66_1 : wc.cell? ⟨gb301, 1, none⟩ = some (.int .i64 a0_1) := (blk_cell BK301.out 1).trans rfl
          have hcz66_2 : wc.cell? ⟨gb301, 2, none⟩ = some (.int .i64 a0_2) := (blk_cell BK301.out 2).trans rfl
          have hcz66_3 : wc.cell? ⟨gb301, 3, none⟩ = some (.int .i64 a0_3) := (blk_cell BK301.out 3).trans rfl
          have hcz66_4 : wc.cell? ⟨gb301, 4, none⟩ = some (.int .i64 a0_4) := (blk_cell BK301.out 4).trans rfl
          have hcz66_5 : wc.cell? ⟨gb301, 5, none⟩ = some (.int .i64 a0_5) := (blk_cell BK301.out 5).trans rfl
          have hcz66_6 : wc.cell? ⟨gb301, 6, none⟩ = some (.int .i64 a0_6) := (blk_cell BK301.out 6).trans rfl
          have hcz66_7 : wc.cell? ⟨gb301, 7, none⟩ = some (.int .i64 a0_7) := (blk_cell BK301.out 7).trans rfl
          have hcz66_8 : wc.cell? ⟨gb301, 8, none⟩ = some (.int .i64 a0_8) := (blk_cell BK301.out 8).trans rfl
          have hcz66_9 : wc.cell? ⟨gb301, 9, none⟩ = some (.int .i64 a0_9) := (blk_cell BK301.out 9).trans rfl
          have hcz66_10 : wc.cell? ⟨gb301, 10, none⟩ = some (.int .i64 a0_10) := (blk_cell BK301.out 10).trans rfl
          have hcz66_11 : wc.cell? ⟨gb301, 11, none⟩ = some (.int .i64 a0_11) := (blk_cell BK301.out 11).trans rfl
          have hcz66_12 : wc.cell? ⟨gb301, 12, none⟩ = some (.int .i64 a0_12) := (blk_cell BK301.out 12).trans rfl
          have hcz66_13 : wc.cell? ⟨gb301, 13, none⟩ = some (.bool a0_13) := (blk_cell BK301.out 13).trans rfl
          have hfz66_0 := blk_frozen BK301.out 0
          have hfz66_1 := blk_frozen BK301.out 1
          have hfz66_2 := blk_frozen BK301.out 2
          have hfz66_3 := blk_frozen BK301.out 3
          have hfz66_4 := blk_frozen BK301.out 4
          have hfz66_5 := blk_frozen BK301.out 5
          have hfz66_6 := blk_frozen BK301.out 6
          have hfz66_7 := blk_frozen BK301.out 7
          have hfz66_8 := blk_frozen BK301.out 8
          have hfz66_9 := blk_frozen BK301.out 9
          have hfz66_10 := blk_frozen BK301.out 10
          have hfz66_11 := blk_frozen BK301.out 11
          have hfz66_12 := blk_frozen BK301.out 12
          have hfz66_13 := blk_frozen BK301.out 13
          have hnb67 := NB303_302.out
          have hnc67 := NB302_303.out
          have hcz68_0 : wc.cell? ⟨gb303, 0, none⟩ = some (.int .i64 0) := (blk_cell BK303.out 0).trans rfl
          have hcz68_1 : wc.cell? ⟨gb303, 1, none⟩ = some (.int .i64 0) := (blk_cell BK303.out 1).trans rfl
          have hfz68_0 := blk_frozen BK303.out 0
          have hfz68_1 := blk_frozen BK303.out 1
          go_wp2
          refine bodyPost_ret (results_ctt rfl _ _ gb303 25 #[.int .i64 a0_11, .int .i64 a0_12] (0, 0) _ rfl (by (with_reducible repeat (first | refine blk_drewN ?_ _ | refine blk_drew ?_ | refine blk_alloc ?_ _)); refine blk_put (cs := #[.int .i64 a0_11, .int .i64 0]) ?_ 1 _ rfl; (with_reducible repeat (first | refine blk_drewN ?_ _ | refine blk_drew ?_ | refine blk_alloc ?_ _)); refine blk_put (cs := #[.int .i64 0, .int .i64 0]) ?_ 0 _ rfl; (with_reducible repeat (first | refine blk_drewN ?_ _ | refine blk_drew ?_ | refine blk_alloc ?_ _)); exact BK303.out) Try.underlying25 rfl (by kernel_rfl)) rfl ?_
          exact ⟨by first | rfl | (simp [errW_none, errW_some] <;> rfl) | (simp [*, errW_none, errW_some] <;> rfl), by repeat (first | (with_reducible first | exact HB.out | apply below_alloc | apply pw_below_drewN | apply below_drew1 | refine below_set ?_ GE301.out | refine below_set ?_ GE302.out | refine below_set ?_ GE303.out) | exact HB.out)⟩

end Go.Proofs.Ytdiijjdhofaodaa.PL
end
section
set_option linter.unusedSimpArgs false
namespace Go.Proofs.Ytdiijjdhofaodaa.Pure
open Go Go.RowKit Go.Proofs.Ytdiijjdhofaodaa.G Go.Proofs.Ytdiijjdhofaodaa.PL Go.Proofs.YtdiijjdhofaodaaW.PrintWords Go.Proofs.YtdiijjdhofaodaaW.PrintLast Go.Proofs.YtdiijjdhofaodaaW.PrintMore
section
variable (y0 y1 y2 y3 y4 y5 y6 y7 y8 y9 y10 l i : Int) (bk : Bool) (x0 x1 x2 x3 x4 x5 x6 x7 x8 x9 x10 : Int)
theorem ref25Pass_f (k : Nat) (day s : Int) (out : Bool) : gatelineref25_Pass.f (k + 5) y0 y1 y2 y3 y4 y5 y6 y7 y8 y9 y10 l i bk x0 x1 x2 x3 x4 x5 x6 x7 x8 x9 x10 day s out = some (passR y0 y1 y2 y3 y4 y5 y6 y7 y8 y9 y10 l i bk x0 x1 x2 x3 x4 x5 x6 x7 x8 x9 x10 day s out) := by
  unfold gatelineref25_Pass.f passR
  rw [ref25Same_f y0 y1 y2 y3 y4 y5 y6 y7 y8 y9 y10 l i bk x0 x1 x2 x3 x4 x5 x6 x7 x8 x9 x10 (k + 2), Option.bind_some]
  cases hJ : jisB y0 y1 y2 y3 y4 y5 y6 y7 y8 y9 y10 l i
  · have hs2 : (sameR y0 y1 y2 y3 y4 y5 y6 y7 y8 y9 y10 l i bk x0 x1 x2 x3 x4 x5 x6 x7 x8 x9 x10).2 = 1 := by rw [sameR, hJ, if_neg (by decide)]
    rw [if_neg (c := (sameR y0 y1 y2 y3 y4 y5 y6 y7 y8 y9 y10 l i bk x0 x1 x2 x3 x4 x5 x6 x7 x8 x9 x10).2 = 0) (by rw [hs2]; decide), gatelineref25_Pass.j0, if_pos rfl, if_neg (fun h => Bool.false_ne_true h.1)]
  · have hs2 : (sameR y0 y1 y2 y3 y4 y5 y6 y7 y8 y9 y10 l i bk x0 x1 x2 x3 x4 x5 x6 x7 x8 x9 x10).2 = 0 := by
      unfold sameR
      rw [hJ, if_pos rfl]
      split
      · rfl
      · split <;> rfl
    rw [if_pos hs2, refLis_f, Option.bind_some]
    cases hL : lisB s
    · rw [gatelineref25_Pass.j0, if_pos (show (!false) = true from rfl), if_neg (fun h => Bool.false_ne_true h.2)]
    · rw [gatelineref25_Pass.j0, if_neg (show ¬ (!true) = true by decide), if_pos (⟨rfl, rfl⟩ : true = true ∧ true = true)]
      by_cases hS : (sameR y0 y1 y2 y3 y4 y5 y6 y7 y8 y9 y10 l i bk x0 x1 x2 x3 x4 x5 x6 x7 x8 x9 x10).1 = 0
      · rw [if_pos hS, if_pos hS, ref25Day_f x0 x1 x2 x3 x4 x5 x6 x7 x8 x9 x10 (k + 2) day out, Option.bind_some]
        by_cases hD : (dayR x0 x1 x2 x3 x4 x5 x6 x7 x8 x9 x10 day out).1 = 0
        · rw [if_pos hD, if_pos hD]
          cases out
          · rw [if_neg (by decide), if_neg (by decide), refEnter_f x0 x1 x2 x3 x4 x5 x6 x7 x8 x9 x10 l i (k + 1) s]
            rfl
          · rw [if_pos rfl, if_pos rfl, refLeave_f x0 x1 x2 x3 x4 x5 x6 x7 x8 x9 x10 l i k s]
            rfl
        · rw [if_neg hD, if_neg hD]
      · rw [if_neg hS, if_neg hS]
end
end Go.Proofs.Ytdiijjdhofaodaa.Pure
end
