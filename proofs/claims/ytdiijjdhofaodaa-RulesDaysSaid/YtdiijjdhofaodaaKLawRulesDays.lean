/- What the functions that this claim reaches do and answer: printed words and walks, walks by hand and plain laws, packed together, each with its own remark; printed rows are by the kit's print program, turned by this session. Conditions: those that each theorem states. -/
import Derived.WalkKit
import Derived.ProofKit
import Derived.OpenShut
import Derived.ShutString
import Derived.ChangeOld
import Derived.Below
import Derived.SizedLaws
import Derived.Carry
import Derived.Test.YtdiijjdhofaodaaKA0
import Derived.Test.YtdiijjdhofaodaaKRARDRPRS12
import Derived.Test.YtdiijjdhofaodaaKRARDRPRS13
import Derived.Test.YtdiijjdhofaodaaKA2
import Derived.Test.YtdiijjdhofaodaaKRDRS18
import Derived.Test.YtdiijjdhofaodaaRows
import Derived.Test.YtdiijjdhofaodaaKRARDRPRS10
section
namespace Go.Proofs.Ytdiijjdhofaodaa.PL
open Go.RowKit Go.Proofs.YtdiijjdhofaodaaW.PrintWords Go.Proofs.YtdiijjdhofaodaaW.PrintLast Go.Proofs.YtdiijjdhofaodaaW.PrintMore
attribute [local go_sem] max2_int min2_int max_two min_two max_three min_three max_four min_four   -- for this text's walks alone
set_option linter.unusedVariables false
set_option linter.unusedSimpArgs false
attribute [local go_sem high] eqA25

/-! ### gatelinelaw25_RulesDays: function 14 -/
def gatelinelaw25_RulesDays.j0 : Nat → Int → Int → Int → Int → Bool → Int → Int → Int → Int → Option (Bool)
  | 0, _, _, _, _, _, _, _, _, _ => none
  | k + 1, x14, x15, x17, x18, x61, x366000, x366001, x371000, x371001 => if x61 = true then ((gatelinelaw25_ruled.f).bind fun t371 => (if t371 = true then (some (x15 == x18)) else (some false))) else ((gatelinelaw25_ruled.f).bind fun t372 => (if t372 = true then (if (x366000 == x371000 && (x366001 == x371001)) = true then (some (x14 == x17)) else (some false)) else (some false)))
def gatelinelaw25_RulesDays.f (k : Nat) (a0_0 : Int) (a0_1 : Int) (a0_2 : Int) (a0_3 : Int) (a0_4 : Int) (a0_5 : Int) (a0_6 : Int) (a0_7 : Int) (a0_8 : Int) (a0_9 : Int) (a0_10 : Int) (a0_11 : Int) (a0_12 : Int) (a0_13 : Bool) (a1_0 : Int) (a1_1 : Int) (a1_2 : Int) (a1_3 : Int) (a1_4 : Int) (a1_5 : Int) (a1_6 : Int) (a1_7 : Int) (a1_8 : Int) (a1_9 : Int) (a1_10 : Int) (a2 : Int) (a3 : Int) (a4 : Int) (a5 : Bool) : Option (Bool) := (rules_Pass.f a0_0 a0_1 a0_2 a0_3 a0_4 a0_5 a0_6 a0_7 a0_8 a0_9 a0_10 a0_11 a0_12 a0_13 a1_0 a1_1 a1_2 a1_3 a1_4 a1_5 a1_6 a1_7 a1_8 a1_9 a1_10 a2 a4 a5).bind fun bt361 => ((rules_Pass.f a0_0 a0_1 a0_2 a0_3 a0_4 a0_5 a0_6 a0_7 a0_8 a0_9 a0_10 a0_11 a0_12 a0_13 a1_0 a1_1 a1_2 a1_3 a1_4 a1_5 a1_6 a1_7 a1_8 a1_9 a1_10 a3 a4 a5).bind fun bt366 => (if bt361.2.2.2 = bt366.2.2.2 then (if bt361.2.2.2 = 0 then (if bt361.2.2.1 = 7 then (gatelinelaw25_RulesDays.j0 k bt361.2.2.1 bt361.2.2.2 bt366.2.2.1 bt366.2.2.2 true bt361.1 bt361.2.1 bt366.1 bt366.2.1) else (if bt361.2.2.1 = 8 then (gatelinelaw25_RulesDays.j0 k bt361.2.2.1 bt361.2.2.2 bt366.2.2.1 bt366.2.2.2 true bt361.1 bt361.2.1 bt366.1 bt366.2.1) else (if bt366.2.2.1 = 7 then (gatelinelaw25_RulesDays.j0 k bt361.2.2.1 bt361.2.2.2 bt366.2.2.1 bt366.2.2.2 true bt361.1 bt361.2.1 bt366.1 bt366.2.1) else (gatelinelaw25_RulesDays.j0 k bt361.2.2.1 bt361.2.2.2 bt366.2.2.1 bt366.2.2.2 (bt366.2.2.1 == 8) bt361.1 bt361.2.1 bt366.1 bt366.2.1)))) else (gatelinelaw25_RulesDays.j0 k bt361.2.2.1 bt361.2.2.2 bt366.2.2.1 bt366.2.2.2 true bt361.1 bt361.2.1 bt366.1 bt366.2.1)) else (gatelinelaw25_RulesDays.j0 k bt361.2.2.1 bt361.2.2.2 bt366.2.2.1 bt366.2.2.2 true bt361.1 bt361.2.1 bt366.1 bt366.2.1)))
theorem gatelinelaw25_RulesDays.mono_l : ∀ k, (∀ y0 y1 y2 y3 y4 y5 y6 y7 y8, LeO (gatelinelaw25_RulesDays.j0 k y0 y1 y2 y3 y4 y5 y6 y7 y8) (gatelinelaw25_RulesDays.j0 (k + 1) y0 y1 y2 y3 y4 y5 y6 y7 y8))
  | 0 => fun _ _ _ _ _ _ _ _ _ r h => by simp [gatelinelaw25_RulesDays.j0] at h
  | k + 1 => by
    have ih0 := gatelinelaw25_RulesDays.mono_l k
    · intro y0 y1 y2 y3 y4 y5 y6 y7 y8
      unfold gatelinelaw25_RulesDays.j0
      repeat' first
      | (with_reducible exact ih0 _ _ _ _ _ _ _ _ _)
      | (with_reducible exact LeO.refl _)
      | (with_reducible exact LeO.none _)
      | (with_reducible refine LeO.ite ?_ ?_)
      | (with_reducible refine LeO.bind ?_ (fun _ => ?_))
      | exact ih0 _ _ _ _ _ _ _ _ _
      | exact LeO.none _
      | refine LeO.ite ?_ ?_
      | refine LeO.bind ?_ (fun _ => ?_)
theorem gatelinelaw25_RulesDays.mono : ∀ a0 a1 a2 a3 a4 a5 a6 a7 a8 a9 a10 a11 a12 a13 a14 a15 a16 a17 a18 a19 a20 a21 a22 a23 a24 a25 a26 a27 a28 k, LeO (gatelinelaw25_RulesDays.f k a0 a1 a2 a3 a4 a5 a6 a7 a8 a9 a10 a11 a12 a13 a14 a15 a16 a17 a18 a19 a20 a21 a22 a23 a24 a25 a26 a27 a28) (gatelinelaw25_RulesDays.f (k + 1) a0 a1 a2 a3 a4 a5 a6 a7 a8 a9 a10 a11 a12 a13 a14 a15 a16 a17 a18 a19 a20 a21 a22 a23 a24 a25 a26 a27 a28) := by
  intro a0 a1 a2 a3 a4 a5 a6 a7 a8 a9 a10 a11 a12 a13 a14 a15 a16 a17 a18 a19 a20 a21 a22 a23 a24 a25 a26 a27 a28 k
  have ih0 := gatelinelaw25_RulesDays.mono_l k
  unfold gatelinelaw25_RulesDays.f
  repeat' first
      | (with_reducible exact ih0 _ _ _ _ _ _ _ _ _)
      | (with_reducible exact LeO.refl _)
      | (with_reducible exact LeO.none _)
      | (with_reducible refine LeO.ite ?_ ?_)
      | (with_reducible refine LeO.bind ?_ (fun _ => ?_))
      | exact ih0 _ _ _ _ _ _ _ _ _
      | exact LeO.none _
      | refine LeO.ite ?_ ?_
      | refine LeO.bind ?_ (fun _ => ?_)
set_option maxHeartbeats 8000000 in
set_option maxRecDepth 100000 in
theorem gatelinelaw25_RulesDays.calls (k : Nat) (a0_0 : Int) (a0_1 : Int) (a0_2 : Int) (a0_3 : Int) (a0_4 : Int) (a0_5 : Int) (a0_6 : Int) (a0_7 : Int) (a0_8 : Int) (a0_9 : Int) (a0_10 : Int) (a0_11 : Int) (a0_12 : Int) (a0_13 : Bool) (a1_0 : Int) (a1_1 : Int) (a1_2 : Int) (a1_3 : Int) (a1_4 : Int) (a1_5 : Int) (a1_6 : Int) (a1_7 : Int) (a1_8 : Int) (a1_9 : Int) (a1_10 : Int) (a2 : Int) (a3 : Int) (a4 : Int) (a5 : Bool) (r : Bool) (w : World) (h : gatelinelaw25_RulesDays.f k a0_0 a0_1 a0_2 a0_3 a0_4 a0_5 a0_6 a0_7 a0_8 a0_9 a0_10 a0_11 a0_12 a0_13 a1_0 a1_1 a1_2 a1_3 a1_4 a1_5 a1_6 a1_7 a1_8 a1_9 a1_10 a2 a3 a4 a5 = some r) :
    Calls Try.prog 14 #[.agg #[.int .i64 a0_0, .int .i64 a0_1, .int .i64 a0_2, .int .i64 a0_3, .int .i64 a0_4, .int .i64 a0_5, .int .i64 a0_6, .int .i64 a0_7, .int .i64 a0_8, .int .i64 a0_9, .int .i64 a0_10, .int .i64 a0_11, .int .i64 a0_12, .bool a0_13], .agg #[.int .i64 a1_0, .int .i64 a1_1, .int .i64 a1_2, .int .i64 a1_3, .int .i64 a1_4, .int .i64 a1_5, .int .i64 a1_6, .int .i64 a1_7, .int .i64 a1_8, .int .i64 a1_9, .int .i64 a1_10], .int .i64 a2, .int .i64 a3, .int .i64 a4, .bool a5] w fun e w' => e = .returned (.bool r) ∧ Below w.heap.size w w' := by
  have hu48 := Try.underlying48
  have hu23 := Try.underlying23
  have hu25 := Try.underlying25
  have HB := Aside0.mk (Below.refl w.heap.size w)
  have H : ((rules_Pass.f a0_0 a0_1 a0_2 a0_3 a0_4 a0_5 a0_6 a0_7 a0_8 a0_9 a0_10 a0_11 a0_12 a0_13 a1_0 a1_1 a1_2 a1_3 a1_4 a1_5 a1_6 a1_7 a1_8 a1_9 a1_10 a2 a4 a5).bind fun bt361 => ((rules_Pass.f a0_0 a0_1 a0_2 a0_3 a0_4 a0_5 a0_6 a0_7 a0_8 a0_9 a0_10 a0_11 a0_12 a0_13 a1_0 a1_1 a1_2 a1_3 a1_4 a1_5 a1_6 a1_7 a1_8 a1_9 a1_10 a3 a4 a5).bind fun bt366 => (if bt361.2.2.2 = bt366.2.2.2 then (if bt361.2.2.2 = 0 then (if bt361.2.2.1 = 7 then (gatelinelaw25_RulesDays.j0 k bt361.2.2.1 bt361.2.2.2 bt366.2.2.1 bt366.2.2.2 true bt361.1 bt361.2.1 bt366.1 bt366.2.1) else (if bt361.2.2.1 = 8 then (gatelinelaw25_RulesDays.j0 k bt361.2.2.1 bt361.2.2.2 bt366.2.2.1 bt366.2.2.2 true bt361.1 bt361.2.1 bt366.1 bt366.2.1) else (if bt366.2.2.1 = 7 then (gatelinelaw25_RulesDays.j0 k bt361.2.2.1 bt361.2.2.2 bt366.2.2.1 bt366.2.2.2 true bt361.1 bt361.2.1 bt366.1 bt366.2.1) else (gatelinelaw25_RulesDays.j0 k bt361.2.2.1 bt361.2.2.2 bt366.2.2.1 bt366.2.2.2 (bt366.2.2.1 == 8) bt361.1 bt361.2.1 bt366.1 bt366.2.1)))) else (gatelinelaw25_RulesDays.j0 k bt361.2.2.1 bt361.2.2.2 bt366.2.2.1 bt366.2.2.2 true bt361.1 bt361.2.1 bt366.1 bt366.2.1)) else (gatelinelaw25_RulesDays.j0 k bt361.2.2.1 bt361.2.2.2 bt366.2.2.1 bt366.2.2.2 true bt361.1 bt361.2.1 bt366.1 bt366.2.1)))) = some r := h
  clear h
  replace H := Option.bind_eq_some_iff.mp H
  obtain ⟨⟨t361, t362, t363, t364⟩, A70, H⟩ := H
  replace H : ((rules_Pass.f a0_0 a0_1 a0_2 a0_3 a0_4 a0_5 a0_6 a0_7 a0_8 a0_9 a0_10 a0_11 a0_12 a0_13 a1_0 a1_1 a1_2 a1_3 a1_4 a1_5 a1_6 a1_7 a1_8 a1_9 a1_10 a3 a4 a5).bind fun bt366 => (if t364 = bt366.2.2.2 then (if t364 = 0 then (if t363 = 7 then (gatelinelaw25_RulesDays.j0 k t363 t364 bt366.2.2.1 bt366.2.2.2 true t361 t362 bt366.1 bt366.2.1) else (if t363 = 8 then (gatelinelaw25_RulesDays.j0 k t363 t364 bt366.2.2.1 bt366.2.2.2 true t361 t362 bt366.1 bt366.2.1) else (if bt366.2.2.1 = 7 then (gatelinelaw25_RulesDays.j0 k t363 t364 bt366.2.2.1 bt366.2.2.2 true t361 t362 bt366.1 bt366.2.1) else (gatelinelaw25_RulesDays.j0 k t363 t364 bt366.2.2.1 bt366.2.2.2 (bt366.2.2.1 == 8) t361 t362 bt366.1 bt366.2.1)))) else (gatelinelaw25_RulesDays.j0 k t363 t364 bt366.2.2.1 bt366.2.2.2 true t361 t362 bt366.1 bt366.2.1)) else (gatelinelaw25_RulesDays.j0 k t363 t364 bt366.2.2.1 bt366.2.2.2 true t361 t362 bt366.1 bt366.2.1))) = some r := H
  have A7 := Aside0.mk A70
  clear A70
  replace H := Option.bind_eq_some_iff.mp H
  obtain ⟨⟨t366, t367, t368, t369⟩, A80, H⟩ := H
  replace H : (if t364 = t369 then (if t364 = 0 then (if t363 = 7 then (gatelinelaw25_RulesDays.j0 k t363 t364 t368 t369 true t361 t362 t366 t367) else (if t363 = 8 then (gatelinelaw25_RulesDays.j0 k t363 t364 t368 t369 true t361 t362 t366 t367) else (if t368 = 7 then (gatelinelaw25_RulesDays.j0 k t363 t364 t368 t369 true t361 t362 t366 t367) else (gatelinelaw25_RulesDays.j0 k t363 t364 t368 t369 (t368 == 8) t361 t362 t366 t367)))) else (gatelinelaw25_RulesDays.j0 k t363 t364 t368 t369 true t361 t362 t366 t367)) else (gatelinelaw25_RulesDays.j0 k t363 t364 t368 t369 true t361 t362 t366 t367)) = some r := H
  have A8 := Aside0.mk A80
  clear A80
  have HC9 := Aside0.mk H
  clear H
  go_enter Try.func14, Try.ntmps14
  go_upto_region 3 with (first | ((with_reducible refine gate_dst (N := 6) rfl ?_); refine box_event ?hg (N := 6) ?hd (cs := #[.int .i64 a0_0, .int .i64 a0_1, .int .i64 a0_2, .int .i64 a0_3, .int .i64 a0_4, .int .i64 a0_5, .int .i64 a0_6, .int .i64 a0_7, .int .i64 a0_8, .int .i64 a0_9, .int .i64 a0_10, .int .i64 a0_11, .int .i64 a0_12, .bool a0_13]) (t := 48) ?hr ?_; (case hd => rfl); (case hg => rfl); (case hr => first | (go_simp; done) | (go_simp; rfl)); intro gb359 hg w10 hbox hb; have n0_ := Aside0.mk (below_step (by repeat (first | (with_reducible first | exact HB.out | apply below_alloc | apply pw_below_drewN | apply below_drew1) | exact HB.out)) hb); have n1_ := Aside0.mk (hbox); have n2_ := Aside0.mk ((by rw [hg]; exact (below_size (by repeat (first | (with_reducible first | exact HB.out | apply below_alloc | apply pw_below_drewN | apply below_drew1) | exact HB.out))) : w.heap.size ≤ gb359)); have n3_ := Aside0.mk ((by rw [hg]; exact (below_size (by repeat (first | (with_reducible first | exact HB.out | apply below_alloc | apply pw_below_drewN | apply below_drew1) | exact HB.out))) : w.heap.size ≤ gb359)); clear HB; have HB := n0_; have BK359 := n1_; have GW359 := n2_; have GE359 := n3_; clear n0_ n1_ n2_ n3_; clear hb hbox hg) | ((with_reducible refine gate_dst (N := 7) rfl ?_); refine box_event ?hg (N := 7) ?hd (cs := #[.int .i64 a1_0, .int .i64 a1_1, .int .i64 a1_2, .int .i64 a1_3, .int .i64 a1_4, .int .i64 a1_5, .int .i64 a1_6, .int .i64 a1_7, .int .i64 a1_8, .int .i64 a1_9, .int .i64 a1_10]) (t := 23) ?hr ?_; (case hd => rfl); (case hg => rfl); (case hr => first | (go_simp; done) | (go_simp; rfl)); intro gb360 hg w11 hbox hb; have n0_ := Aside0.mk (blk_below (g := gb359) (o := .cells #[.int .i64 a0_0, .int .i64 a0_1, .int .i64 a0_2, .int .i64 a0_3, .int .i64 a0_4, .int .i64 a0_5, .int .i64 a0_6, .int .i64 a0_7, .int .i64 a0_8, .int .i64 a0_9, .int .i64 a0_10, .int .i64 a0_11, .int .i64 a0_12, .bool a0_13] 48 (0, 0)) (by (with_reducible repeat (first | refine blk_drewN ?_ _ | refine blk_drew ?_ | refine blk_alloc ?_ _)); exact BK359.out) hb); have n1_ := Aside0.mk (below_step (by repeat (first | (with_reducible first | exact HB.out | apply below_alloc | apply pw_below_drewN | apply below_drew1 | refine below_set ?_ GE359.out) | exact HB.out)) hb); have n2_ := Aside0.mk (hbox); have n3_ := Aside0.mk ((by rw [hg]; exact (below_size (by repeat (first | (with_reducible first | exact HB.out | apply below_alloc | apply pw_below_drewN | apply below_drew1 | refine below_set ?_ GE359.out) | exact HB.out))) : w.heap.size ≤ gb360)); have n4_ := Aside0.mk ((by rw [hg]; exact (below_size (by repeat (first | (with_reducible first | exact HB.out | apply below_alloc | apply pw_below_drewN | apply below_drew1 | refine below_set ?_ GE359.out) | exact HB.out))) : w.heap.size ≤ gb360)); have n5_ := Aside0.mk ((by rw [hg]; exact Nat.ne_of_lt (blk_lt (g := gb359) (o := .cells #[.int .i64 a0_0, .int .i64 a0_1, .int .i64 a0_2, .int .i64 a0_3, .int .i64 a0_4, .int .i64 a0_5, .int .i64 a0_6, .int .i64 a0_7, .int .i64 a0_8, .int .i64 a0_9, .int .i64 a0_10, .int .i64 a0_11, .int .i64 a0_12, .bool a0_13] 48 (0, 0)) (by (with_reducible repeat (first | refine blk_drewN ?_ _ | refine blk_drew ?_ | refine blk_alloc ?_ _)); exact BK359.out)) : gb359 ≠ gb360)); have n6_ := Aside0.mk ((by rw [hg]; exact Nat.ne_of_gt (blk_lt (g := gb359) (o := .cells #[.int .i64 a0_0, .int .i64 a0_1, .int .i64 a0_2, .int .i64 a0_3, .int .i64 a0_4, .int .i64 a0_5, .int .i64 a0_6, .int .i64 a0_7, .int .i64 a0_8, .int .i64 a0_9, .int .i64 a0_10, .int .i64 a0_11, .int .i64 a0_12, .bool a0_13] 48 (0, 0)) (by (with_reducible repeat (first | refine blk_drewN ?_ _ | refine blk_drew ?_ | refine blk_alloc ?_ _)); exact BK359.out)) : gb360 ≠ gb359)); clear BK359; clear HB; have BK359 := n0_; have HB := n1_; have BK360 := n2_; have GW360 := n3_; have GE360 := n4_; have NB359_360 := n5_; have NB360_359 := n6_; clear n0_ n1_ n2_ n3_ n4_ n5_ n6_; clear hb hbox hg; have hnb12 := NB359_360.out; have hnc12 := NB360_359.out; have hcz13_0 : w11.cell? ⟨gb359, 0, none⟩ = some (.int .i64 a0_0) := (blk_cell BK359.out 0).trans rfl; have hcz13_1 : w11.cell? ⟨gb359, 1, none⟩ = some (.int .i64 a0_1) := (blk_cell BK359.out 1).trans rfl; have hcz13_2 : w11.cell? ⟨gb359, 2, none⟩ = some (.int .i64 a0_2) := (blk_cell BK359.out 2).trans rfl; have hcz13_3 : w11.cell? ⟨gb359, 3, none⟩ = some (.int .i64 a0_3) := (blk_cell BK359.out 3).trans rfl; have hcz13_4 : w11.cell? ⟨gb359, 4, none⟩ = some (.int .i64 a0_4) := (blk_cell BK359.out 4).trans rfl; have hcz13_5 : w11.cell? ⟨gb359, 5, none⟩ = some (.int .i64 a0_5) := (blk_cell BK359.out 5).trans rfl; have hcz13_6 : w11.cell? ⟨gb359, 6, none⟩ = some (.int .i64 a0_6) := (blk_cell BK359.out 6).trans rfl; have hcz13_7 : w11.cell? ⟨gb359, 7, none⟩ = some (.int .i64 a0_7) := (blk_cell BK359.out 7).trans rfl; have hcz13_8 : w11.cell? ⟨gb359, 8, none⟩ = some (.int .i64 a0_8) := (blk_cell BK359.out 8).trans rfl; have hcz13_9 : w11.cell? ⟨gb359, 9, none⟩ = some (.int .i64 a0_9) := (blk_cell BK359.out 9).trans rfl; have hcz13_10 : w11.cell? ⟨gb359, 10, none⟩ = some (.int .i64 a0_10) := (blk_cell BK359.out 10).trans rfl; have hcz13_11 : w11.cell? ⟨gb359, 11, none⟩ = some (.int .i64 a0_11) := (blk_cell BK359.out 11).trans rfl; have hcz13_12 : w11.cell? ⟨gb359, 12, none⟩ = some (.int .i64 a0_12) := (blk_cell BK359.out 12).trans rfl; have hcz13_13 : w11.cell? ⟨gb359, 13, none⟩ = some (.bool a0_13) := (blk_cell BK359.out 13).trans rfl; have hfz13_0 := blk_frozen BK359.out 0; have hfz13_1 := blk_frozen BK359.out 1; have hfz13_2 := blk_frozen BK359.out 2; have hfz13_3 := blk_frozen BK359.out 3; have hfz13_4 := blk_frozen BK359.out 4; have hfz13_5 := blk_frozen BK359.out 5; have hfz13_6 := blk_frozen BK359.out 6; have hfz13_7 := blk_frozen BK359.out 7; have hfz13_8 := blk_frozen BK359.out 8; have hfz13_9 := blk_frozen BK359.out 9; have hfz13_10 := blk_frozen BK359.out 10; have hfz13_11 := blk_frozen BK359.out 11; have hfz13_12 := blk_frozen BK359.out 12; have hfz13_13 := blk_frozen BK359.out 13; have hcz14_0 : w11.cell? ⟨gb360, 0, none⟩ = some (.int .i64 a1_0) := (blk_cell BK360.out 0).trans rfl; have hcz14_1 : w11.cell? ⟨gb360, 1, none⟩ = some (.int .i64 a1_1) := (blk_cell BK360.out 1).trans rfl; have hcz14_2 : w11.cell? ⟨gb360, 2, none⟩ = some (.int .i64 a1_2) := (blk_cell BK360.out 2).trans rfl; have hcz14_3 : w11.cell? ⟨gb360, 3, none⟩ = some (.int .i64 a1_3) := (blk_cell BK360.out 3).trans rfl; have hcz14_4 : w11.cell? ⟨gb360, 4, none⟩ = some (.int .i64 a1_4) := (blk_cell BK360.out 4).trans rfl; have hcz14_5 : w11.cell? ⟨gb360, 5, none⟩ = some (.int .i64 a1_5) := (blk_cell BK360.out 5).trans rfl; have hcz14_6 : w11.cell? ⟨gb360, 6, none⟩ = some (.int .i64 a1_6) := (blk_cell BK360.out 6).trans rfl; have hcz14_7 : w11.cell? ⟨gb360, 7, none⟩ = some (.int .i64 a1_7) := (blk_cell BK360.out 7).trans rfl; have hcz14_8 : w11.cell? ⟨gb360, 8, none⟩ = some (.int .i64 a1_8) := (blk_cell BK360.out 8).trans rfl; have hcz14_9 : w11.cell? ⟨gb360, 9, none⟩ = some (.int .i64 a1_9) := (blk_cell BK360.out 9).trans rfl; have hcz14_10 : w11.cell? ⟨gb360, 10, none⟩ = some (.int .i64 a1_10) := (blk_cell BK360.out 10).trans rfl; have hfz14_0 := blk_frozen BK360.out 0; have hfz14_1 := blk_frozen BK360.out 1; have hfz14_2 := blk_frozen BK360.out 2; have hfz14_3 := blk_frozen BK360.out 3; have hfz14_4 := blk_frozen BK360.out 4; have hfz14_5 := blk_frozen BK360.out 5; have hfz14_6 := blk_frozen BK360.out 6; have hfz14_7 := blk_frozen BK360.out 7; have hfz14_8 := blk_frozen BK360.out 8; have hfz14_9 := blk_frozen BK360.out 9; have hfz14_10 := blk_frozen BK360.out 10) | ((with_reducible refine gate_callee (f := 35) rfl ?_); refine goesL_ (some 25) rfl rfl Try.func35 (by kernel_rfl) rfl #[.agg #[.int .i64 a0_0, .int .i64 a0_1, .int .i64 a0_2, .int .i64 a0_3, .int .i64 a0_4, .int .i64 a0_5, .int .i64 a0_6, .int .i64 a0_7, .int .i64 a0_8, .int .i64 a0_9, .int .i64 a0_10, .int .i64 a0_11, .int .i64 a0_12, .bool a0_13], .agg #[.int .i64 a1_0, .int .i64 a1_1, .int .i64 a1_2, .int .i64 a1_3, .int .i64 a1_4, .int .i64 a1_5, .int .i64 a1_6, .int .i64 a1_7, .int .i64 a1_8, .int .i64 a1_9, .int .i64 a1_10], .int .i64 a2, .int .i64 a4, .bool a5] rfl (by (try simp only [List.map_toArray, List.map_cons, List.map_nil]); first | done | rfl | (simp only [List.length_drop, List.length_take]; rfl)) ?_; (with_reducible refine (rules_Pass.calls a0_0 a0_1 a0_2 a0_3 a0_4 a0_5 a0_6 a0_7 a0_8 a0_9 a0_10 a0_11 a0_12 a0_13 a1_0 a1_1 a1_2 a1_3 a1_4 a1_5 a1_6 a1_7 a1_8 a1_9 a1_10 a2 a4 a5 t361 t362 t363 t364 _ A7.out).mono ?_); rintro e w15 ⟨rfl, hb⟩; refine ⟨_, rfl, ?_⟩; have n0_ := Aside0.mk (blk_below (g := gb359) (o := .cells #[.int .i64 a0_0, .int .i64 a0_1, .int .i64 a0_2, .int .i64 a0_3, .int .i64 a0_4, .int .i64 a0_5, .int .i64 a0_6, .int .i64 a0_7, .int .i64 a0_8, .int .i64 a0_9, .int .i64 a0_10, .int .i64 a0_11, .int .i64 a0_12, .bool a0_13] 48 (0, 0)) (by (with_reducible repeat (first | refine blk_drewN ?_ _ | refine blk_drew ?_ | refine blk_alloc ?_ _)); exact BK359.out) hb); have n1_ := Aside0.mk (blk_below (g := gb360) (o := .cells #[.int .i64 a1_0, .int .i64 a1_1, .int .i64 a1_2, .int .i64 a1_3, .int .i64 a1_4, .int .i64 a1_5, .int .i64 a1_6, .int .i64 a1_7, .int .i64 a1_8, .int .i64 a1_9, .int .i64 a1_10] 23 (0, 0)) (by (with_reducible repeat (first | refine blk_drewN ?_ _ | refine blk_drew ?_ | refine blk_alloc ?_ _)); exact BK360.out) hb); have n2_ := Aside0.mk (below_step (by repeat (first | (with_reducible first | exact HB.out | apply below_alloc | apply pw_below_drewN | apply below_drew1 | refine below_set ?_ GE359.out | refine below_set ?_ GE360.out) | exact HB.out)) hb); clear BK359; clear BK360; clear HB; have BK359 := n0_; have BK360 := n1_; have HB := n2_; clear n0_ n1_ n2_; (try clear hb); (try clear hb2); (try clear hk); (try clear hi); (try clear A7)) | ((with_reducible refine gate_dst (N := 13) rfl ?_); refine box_event ?hg (N := 13) ?hd (cs := #[.int .i64 0, .int .i64 0]) (t := 25) ?hr ?_; (case hd => rfl); (case hg => rfl); (case hr => first | (go_simp; done) | (go_simp; rfl)); intro gb365 hg w16 hbox hb; have n0_ := Aside0.mk (blk_below (g := gb359) (o := .cells #[.int .i64 a0_0, .int .i64 a0_1, .int .i64 a0_2, .int .i64 a0_3, .int .i64 a0_4, .int .i64 a0_5, .int .i64 a0_6, .int .i64 a0_7, .int .i64 a0_8, .int .i64 a0_9, .int .i64 a0_10, .int .i64 a0_11, .int .i64 a0_12, .bool a0_13] 48 (0, 0)) (by (with_reducible repeat (first | refine blk_drewN ?_ _ | refine blk_drew ?_ | refine blk_alloc ?_ _)); exact BK359.out) hb); have n1_ := Aside0.mk (blk_below (g := gb360) (o := .cells #[.int .i64 a1_0, .int .i64 a1_1, .int .i64 a1_2, .int .i64 a1_3, .int .i64 a1_4, .int .i64 a1_5, .int .i64 a1_6, .int .i64 a1_7, .int .i64 a1_8, .int .i64 a1_9, .int .i64 a1_10] 23 (0, 0)) (by (with_reducible repeat (first | refine blk_drewN ?_ _ | refine blk_drew ?_ | refine blk_alloc ?_ _)); exact BK360.out) hb); have n2_ := Aside0.mk (below_step (by repeat (first | (with_reducible first | exact HB.out | apply below_alloc | apply pw_below_drewN | apply below_drew1 | refine below_set ?_ GE359.out | refine below_set ?_ GE360.out) | exact HB.out)) hb); have n3_ := Aside0.mk (hbox); have n4_ := Aside0.mk ((by rw [hg]; exact (below_size (by repeat (first | (with_reducible first | exact HB.out | apply below_alloc | apply pw_below_drewN | apply below_drew1 | refine below_set ?_ GE359.out | refine below_set ?_ GE360.out) | exact HB.out))) : w.heap.size ≤ gb365)); have n5_ := Aside0.mk ((by rw [hg]; exact (below_size (by repeat (first | (with_reducible first | exact HB.out | apply below_alloc | apply pw_below_drewN | apply below_drew1 | refine below_set ?_ GE359.out | refine below_set ?_ GE360.out) | exact HB.out))) : w.heap.size ≤ gb365)); have n6_ := Aside0.mk ((by rw [hg]; exact Nat.ne_of_lt (blk_lt (g := gb359) (o := .cells #[.int .i64 a0_0, .int .i64 a0_1, .int .i64 a0_2, .int .i64 a0_3, .int .i64 a0_4, .int .i64 a0_5, .int .i64 a0_6, .int .i64 a0_7, .int .i64 a0_8, .int .i64 a0_9, .int .i64 a0_10, .int .i64 a0_11, .int .i64 a0_12, .bool a0_13] 48 (0, 0)) (by (with_reducible repeat (first | refine blk_drewN ?_ _ | refine blk_drew ?_ | refine blk_alloc ?_ _)); exact BK359.out)) : gb359 ≠ gb365)); have n7_ := Aside0.mk ((by rw [hg]; exact Nat.ne_of_gt (blk_lt (g := gb359) (o := .cells #[.int .i64 a0_0, .int .i64 a0_1, .int .i64 a0_2, .int .i64 a0_3, .int .i64 a0_4, .int .i64 a0_5, .int .i64 a0_6, .int .i64 a0_7, .int .i64 a0_8, .int .i64 a0_9, .int .i64 a0_10, .int .i64 a0_11, .int .i64 a0_12, .bool a0_13] 48 (0, 0)) (by (with_reducible repeat (first | refine blk_drewN ?_ _ | refine blk_drew ?_ | refine blk_alloc ?_ _)); exact BK359.out)) : gb365 ≠ gb359)); have n8_ := Aside0.mk ((by rw [hg]; exact Nat.ne_of_lt (blk_lt (g := gb360) (o := .cells #[.int .i64 a1_0, .int .i64 a1_1, .int .i64 a1_2, .int .i64 a1_3, .int .i64 a1_4, .int .i64 a1_5, .int .i64 a1_6, .int .i64 a1_7, .int .i64 a1_8, .int .i64 a1_9, .int .i64 a1_10] 23 (0, 0)) (by (with_reducible repeat (first | refine blk_drewN ?_ _ | refine blk_drew ?_ | refine blk_alloc ?_ _)); exact BK360.out)) : gb360 ≠ gb365)); have n9_ := Aside0.mk ((by rw [hg]; exact Nat.ne_of_gt (blk_lt (g := gb360) (o := .cells #[.int .i64 a1_0, .int .i64 a1_1, .int .i64 a1_2, .int .i64 a1_3, .int .i64 a1_4, .int .i64 a1_5, .int .i64 a1_6, .int .i64 a1_7, .int .i64 a1_8, .int .i64 a1_9, .int .i64 a1_10] 23 (0, 0)) (by (with_reducible repeat (first | refine blk_drewN ?_ _ | refine blk_drew ?_ | refine blk_alloc ?_ _)); exact BK360.out)) : gb365 ≠ gb360)); clear BK359; clear BK360; clear HB; have BK359 := n0_; have BK360 := n1_; have HB := n2_; have BK365 := n3_; have GW365 := n4_; have GE365 := n5_; have NB359_365 := n6_; have NB365_359 := n7_; have NB360_365 := n8_; have NB365_360 := n9_; clear n0_ n1_ n2_ n3_ n4_ n5_ n6_ n7_ n8_ n9_; clear hb hbox hg; have hnb17 := NB365_359.out; have hnc17 := NB359_365.out; have hnb18 := NB365_360.out; have hnc18 := NB360_365.out; have hcz19_0 : w16.cell? ⟨gb365, 0, none⟩ = some (.int .i64 0) := (blk_cell BK365.out 0).trans rfl; have hcz19_1 : w16.cell? ⟨gb365, 1, none⟩ = some (.int .i64 0) := (blk_cell BK365.out 1).trans rfl; have hfz19_0 := blk_frozen BK365.out 0; have hfz19_1 := blk_frozen BK365.out 1; have hcz20_0 : w16.cell? ⟨gb359, 0, none⟩ = some (.int .i64 a0_0) := (blk_cell BK359.out 0).trans rfl; have hcz20_1 : w16.cell? ⟨gb359, 1, none⟩ = some (.int .i64 a0_1) := (blk_cell BK359.out 1).trans rfl; have hcz20_2 : w16.cell? ⟨gb359, 2, none⟩ = some (.int .i64 a0_2) := (blk_cell BK359.out 2).trans rfl; have hcz20_3 : w16.cell? ⟨gb359, 3, none⟩ = some (.int .i64 a0_3) := (blk_cell BK359.out 3).trans rfl; have hcz20_4 : w16.cell? ⟨gb359, 4, none⟩ = some (.int .i64 a0_4) := (blk_cell BK359.out 4).trans rfl; have hcz20_5 : w16.cell? ⟨gb359, 5, none⟩ = some (.int .i64 a0_5) := (blk_cell BK359.out 5).trans rfl; have hcz20_6 : w16.cell? ⟨gb359, 6, none⟩ = some (.int .i64 a0_6) := (blk_cell BK359.out 6).trans rfl; have hcz20_7 : w16.cell? ⟨gb359, 7, none⟩ = some (.int .i64 a0_7) := (blk_cell BK359.out 7).trans rfl; have hcz20_8 : w16.cell? ⟨gb359, 8, none⟩ = some (.int .i64 a0_8) := (blk_cell BK359.out 8).trans rfl; have hcz20_9 : w16.cell? ⟨gb359, 9, none⟩ = some (.int .i64 a0_9) := (blk_cell BK359.out 9).trans rfl; have hcz20_10 : w16.cell? ⟨gb359, 10, none⟩ = some (.int .i64 a0_10) := (blk_cell BK359.out 10).trans rfl; have hcz20_11 : w16.cell? ⟨gb359, 11, none⟩ = some (.int .i64 a0_11) := (blk_cell BK359.out 11).trans rfl; have hcz20_12 : w16.cell? ⟨gb359, 12, none⟩ = some (.int .i64 a0_12) := (blk_cell BK359.out 12).trans rfl; have hcz20_13 : w16.cell? ⟨gb359, 13, none⟩ = some (.bool a0_13) := (blk_cell BK359.out 13).trans rfl; have hfz20_0 := blk_frozen BK359.out 0; have hfz20_1 := blk_frozen BK359.out 1; have hfz20_2 := blk_frozen BK359.out 2; have hfz20_3 := blk_frozen BK359.out 3; have hfz20_4 := blk_frozen BK359.out 4; have hfz20_5 := blk_frozen BK359.out 5; have hfz20_6 := blk_frozen BK359.out 6; have hfz20_7 := blk_frozen BK359.out 7; have hfz20_8 := blk_frozen BK359.out 8; have hfz20_9 := blk_frozen BK359.out 9; have hfz20_10 := blk_frozen BK359.out 10; have hfz20_11 := blk_frozen BK359.out 11; have hfz20_12 := blk_frozen BK359.out 12; have hfz20_13 := blk_frozen BK359.out 13; have hcz21_0 : w16.cell? ⟨gb360, 0, none⟩ = some (.int .i64 a1_0) := (blk_cell BK360.out 0).trans rfl; have hcz21_1 : w16.cell? ⟨gb360, 1, none⟩ = some (.int .i64 a1_1) := (blk_cell BK360.out 1).trans rfl; have hcz21_2 : w16.cell? ⟨gb360, 2, none⟩ = some (.int .i64 a1_2) := (blk_cell BK360.out 2).trans rfl; have hcz21_3 : w16.cell? ⟨gb360, 3, none⟩ = some (.int .i64 a1_3) := (blk_cell BK360.out 3).trans rfl; have hcz21_4 : w16.cell? ⟨gb360, 4, none⟩ = some (.int .i64 a1_4) := (blk_cell BK360.out 4).trans rfl; have hcz21_5 : w16.cell? ⟨gb360, 5, none⟩ = some (.int .i64 a1_5) := (blk_cell BK360.out 5).trans rfl; have hcz21_6 : w16.cell? ⟨gb360, 6, none⟩ = some (.int .i64 a1_6) := (blk_cell BK360.out 6).trans rfl; have hcz21_7 : w16.cell? ⟨gb360, 7, none⟩ = some (.int .i64 a1_7) := (blk_cell BK360.out 7).trans rfl; have hcz21_8 : w16.cell? ⟨gb360, 8, none⟩ = some (.int .i64 a1_8) := (blk_cell BK360.out 8).trans rfl; have hcz21_9 : w16.cell? ⟨gb360, 9, none⟩ = some (.int .i64 a1_9) := (blk_cell BK360.out 9).trans rfl; have hcz21_10 : w16.cell? ⟨gb360, 10, none⟩ = some (.int .i64 a1_10) := (blk_cell BK360.out 10).trans rfl; have hfz21_0 := blk_frozen BK360.out 0; have hfz21_1 := blk_frozen BK360.out 1; have hfz21_2 := blk_frozen BK360.out 2; have hfz21_3 := blk_frozen BK360.out 3; have hfz21_4 := blk_frozen BK360.out 4; have hfz21_5 := blk_frozen BK360.out 5; have hfz21_6 := blk_frozen BK360.out 6; have hfz21_7 := blk_frozen BK360.out 7; have hfz21_8 := blk_frozen BK360.out 8; have hfz21_9 := blk_frozen BK360.out 9; have hfz21_10 := blk_frozen BK360.out 10) | ((with_reducible refine gate_callee (f := 35) rfl ?_); refine goesL_ (some 35) rfl rfl Try.func35 (by kernel_rfl) rfl #[.agg #[.int .i64 a0_0, .int .i64 a0_1, .int .i64 a0_2, .int .i64 a0_3, .int .i64 a0_4, .int .i64 a0_5, .int .i64 a0_6, .int .i64 a0_7, .int .i64 a0_8, .int .i64 a0_9, .int .i64 a0_10, .int .i64 a0_11, .int .i64 a0_12, .bool a0_13], .agg #[.int .i64 a1_0, .int .i64 a1_1, .int .i64 a1_2, .int .i64 a1_3, .int .i64 a1_4, .int .i64 a1_5, .int .i64 a1_6, .int .i64 a1_7, .int .i64 a1_8, .int .i64 a1_9, .int .i64 a1_10], .int .i64 a3, .int .i64 a4, .bool a5] rfl (by (try simp only [List.map_toArray, List.map_cons, List.map_nil]); first | done | rfl | (simp only [List.length_drop, List.length_take]; rfl)) ?_; (with_reducible refine (rules_Pass.calls a0_0 a0_1 a0_2 a0_3 a0_4 a0_5 a0_6 a0_7 a0_8 a0_9 a0_10 a0_11 a0_12 a0_13 a1_0 a1_1 a1_2 a1_3 a1_4 a1_5 a1_6 a1_7 a1_8 a1_9 a1_10 a3 a4 a5 t366 t367 t368 t369 _ A8.out).mono ?_); rintro e w22 ⟨rfl, hb⟩; refine ⟨_, rfl, ?_⟩; have n0_ := Aside0.mk (blk_below (g := gb359) (o := .cells #[.int .i64 a0_0, .int .i64 a0_1, .int .i64 a0_2, .int .i64 a0_3, .int .i64 a0_4, .int .i64 a0_5, .int .i64 a0_6, .int .i64 a0_7, .int .i64 a0_8, .int .i64 a0_9, .int .i64 a0_10, .int .i64 a0_11, .int .i64 a0_12, .bool a0_13] 48 (0, 0)) (by (with_reducible repeat (first | refine blk_drewN ?_ _ | refine blk_drew ?_ | refine blk_alloc ?_ _)); refine blk_far ?_ NB359_365.out _; (with_reducible repeat (first | refine blk_drewN ?_ _ | refine blk_drew ?_ | refine blk_alloc ?_ _)); refine blk_far ?_ NB359_365.out _; (with_reducible repeat (first | refine blk_drewN ?_ _ | refine blk_drew ?_ | refine blk_alloc ?_ _)); exact BK359.out) hb); have n1_ := Aside0.mk (blk_below (g := gb360) (o := .cells #[.int .i64 a1_0, .int .i64 a1_1, .int .i64 a1_2, .int .i64 a1_3, .int .i64 a1_4, .int .i64 a1_5, .int .i64 a1_6, .int .i64 a1_7, .int .i64 a1_8, .int .i64 a1_9, .int .i64 a1_10] 23 (0, 0)) (by (with_reducible repeat (first | refine blk_drewN ?_ _ | refine blk_drew ?_ | refine blk_alloc ?_ _)); refine blk_far ?_ NB360_365.out _; (with_reducible repeat (first | refine blk_drewN ?_ _ | refine blk_drew ?_ | refine blk_alloc ?_ _)); refine blk_far ?_ NB360_365.out _; (with_reducible repeat (first | refine blk_drewN ?_ _ | refine blk_drew ?_ | refine blk_alloc ?_ _)); exact BK360.out) hb); have n2_ := Aside0.mk (blk_below (g := gb365) (o := .cells #[.int .i64 t361, .int .i64 t362] 25 (0, 0)) (by (with_reducible repeat (first | refine blk_drewN ?_ _ | refine blk_drew ?_ | refine blk_alloc ?_ _)); refine blk_put (cs := #[.int .i64 t361, .int .i64 0]) ?_ 1 _ rfl; (with_reducible repeat (first | refine blk_drewN ?_ _ | refine blk_drew ?_ | refine blk_alloc ?_ _)); refine blk_put (cs := #[.int .i64 0, .int .i64 0]) ?_ 0 _ rfl; (with_reducible repeat (first | refine blk_drewN ?_ _ | refine blk_drew ?_ | refine blk_alloc ?_ _)); exact BK365.out) hb); have n3_ := Aside0.mk (below_step (by repeat (first | (with_reducible first | exact HB.out | apply below_alloc | apply pw_below_drewN | apply below_drew1 | refine below_set ?_ GE359.out | refine below_set ?_ GE360.out | refine below_set ?_ GE365.out) | exact HB.out)) hb); clear BK359; clear BK360; clear BK365; clear HB; have BK359 := n0_; have BK360 := n1_; have BK365 := n2_; have HB := n3_; clear n0_ n1_ n2_ n3_; (try clear hb); (try clear hb2); (try clear hk); (try clear hi); (try clear A8)) | ((with_reducible refine gate_dst (N := 16) rfl ?_); refine box_event ?hg (N := 16) ?hd (cs := #[.int .i64 0, .int .i64 0]) (t := 25) ?hr ?_; (case hd => rfl); (case hg => rfl); (case hr => first | (go_simp; done) | (go_simp; rfl)); intro gb370 hg w23 hbox hb; have n0_ := Aside0.mk (blk_below (g := gb359) (o := .cells #[.int .i64 a0_0, .int .i64 a0_1, .int .i64 a0_2, .int .i64 a0_3, .int .i64 a0_4, .int .i64 a0_5, .int .i64 a0_6, .int .i64 a0_7, .int .i64 a0_8, .int .i64 a0_9, .int .i64 a0_10, .int .i64 a0_11, .int .i64 a0_12, .bool a0_13] 48 (0, 0)) (by (with_reducible repeat (first | refine blk_drewN ?_ _ | refine blk_drew ?_ | refine blk_alloc ?_ _)); exact BK359.out) hb); have n1_ := Aside0.mk (blk_below (g := gb360) (o := .cells #[.int .i64 a1_0, .int .i64 a1_1, .int .i64 a1_2, .int .i64 a1_3, .int .i64 a1_4, .int .i64 a1_5, .int .i64 a1_6, .int .i64 a1_7, .int .i64 a1_8, .int .i64 a1_9, .int .i64 a1_10] 23 (0, 0)) (by (with_reducible repeat (first | refine blk_drewN ?_ _ | refine blk_drew ?_ | refine blk_alloc ?_ _)); exact BK360.out) hb); have n2_ := Aside0.mk (blk_below (g := gb365) (o := .cells #[.int .i64 t361, .int .i64 t362] 25 (0, 0)) (by (with_reducible repeat (first | refine blk_drewN ?_ _ | refine blk_drew ?_ | refine blk_alloc ?_ _)); exact BK365.out) hb); have n3_ := Aside0.mk (below_step (by repeat (first | (with_reducible first | exact HB.out | apply below_alloc | apply pw_below_drewN | apply below_drew1 | refine below_set ?_ GE359.out | refine below_set ?_ GE360.out | refine below_set ?_ GE365.out) | exact HB.out)) hb); have n4_ := Aside0.mk (hbox); have n5_ := Aside0.mk ((by rw [hg]; exact (below_size (by repeat (first | (with_reducible first | exact HB.out | apply below_alloc | apply pw_below_drewN | apply below_drew1 | refine below_set ?_ GE359.out | refine below_set ?_ GE360.out | refine below_set ?_ GE365.out) | exact HB.out))) : w.heap.size ≤ gb370)); have n6_ := Aside0.mk ((by rw [hg]; exact (below_size (by repeat (first | (with_reducible first | exact HB.out | apply below_alloc | apply pw_below_drewN | apply below_drew1 | refine below_set ?_ GE359.out | refine below_set ?_ GE360.out | refine below_set ?_ GE365.out) | exact HB.out))) : w.heap.size ≤ gb370)); have n7_ := Aside0.mk ((by rw [hg]; exact Nat.ne_of_lt (blk_lt (g := gb359) (o := .cells #[.int .i64 a0_0, .int .i64 a0_1, .int .i64 a0_2, .int .i64 a0_3, .int .i64 a0_4, .int .i64 a0_5, .int .i64 a0_6, .int .i64 a0_7, .int .i64 a0_8, .int .i64 a0_9, .int .i64 a0_10, .int .i64 a0_11, .int .i64 a0_12, .bool a0_13] 48 (0, 0)) (by (with_reducible repeat (first | refine blk_drewN ?_ _ | refine blk_drew ?_ | refine blk_alloc ?_ _)); exact BK359.out)) : gb359 ≠ gb370)); have n8_ := Aside0.mk ((by rw [hg]; exact Nat.ne_of_gt (blk_lt (g := gb359) (o := .cells #[.int .i64 a0_0, .int .i64 a0_1, .int .i64 a0_2, .int .i64 a0_3, .int .i64 a0_4, .int .i64 a0_5, .int .i64 a0_6, .int .i64 a0_7, .int .i64 a0_8, .int .i64 a0_9, .int .i64 a0_10, .int .i64 a0_11, .int .i64 a0_12, .bool a0_13] 48 (0, 0)) (by (with_reducible repeat (first | refine blk_drewN ?_ _ | refine blk_drew ?_ | refine blk_alloc ?_ _)); exact BK359.out)) : gb370 ≠ gb359)); have n9_ := Aside0.mk ((by rw [hg]; exact Nat.ne_of_lt (blk_lt (g := gb360) (o := .cells #[.int .i64 a1_0, .int .i64 a1_1, .int .i64 a1_2, .int .i64 a1_3, .int .i64 a1_4, .int .i64 a1_5, .int .i64 a1_6, .int .i64 a1_7, .int .i64 a1_8, .int .i64 a1_9, .int .i64 a1_10] 23 (0, 0)) (by (with_reducible repeat (first | refine blk_drewN ?_ _ | refine blk_drew ?_ | refine blk_alloc ?_ _)); exact BK360.out)) : gb360 ≠ gb370)); have n10_ := Aside0.mk ((by rw [hg]; exact Nat.ne_of_gt (blk_lt (g := gb360) (o := .cells #[.int .i64 a1_0, .int .i64 a1_1, .int .i64 a1_2, .int .i64 a1_3, .int .i64 a1_4, .int .i64 a1_5, .int .i64 a1_6, .int .i64 a1_7, .int .i64 a1_8, .int .i64 a1_9, .int .i64 a1_10] 23 (0, 0)) (by (with_reducible repeat (first | refine blk_drewN ?_ _ | refine blk_drew ?_ | refine blk_alloc ?_ _)); exact BK360.out)) : gb370 ≠ gb360)); have n11_ := Aside0.mk ((by rw [hg]; exact Nat.ne_of_lt (blk_lt (g := gb365) (o := .cells #[.int .i64 t361, .int .i64 t362] 25 (0, 0)) (by (with_reducible repeat (first | refine blk_drewN ?_ _ | refine blk_drew ?_ | refine blk_alloc ?_ _)); exact BK365.out)) : gb365 ≠ gb370)); have n12_ := Aside0.mk ((by rw [hg]; exact Nat.ne_of_gt (blk_lt (g := gb365) (o := .cells #[.int .i64 t361, .int .i64 t362] 25 (0, 0)) (by (with_reducible repeat (first | refine blk_drewN ?_ _ | refine blk_drew ?_ | refine blk_alloc ?_ _)); exact BK365.out)) : gb370 ≠ gb365)); clear BK359; clear BK360; clear BK365; clear HB; have BK359 := n0_; have BK360 := n1_; have BK365 := n2_; have HB := n3_; have BK370 := n4_; have GW370 := n5_; have GE370 := n6_; have NB359_370 := n7_; have NB370_359 := n8_; have NB360_370 := n9_; have NB370_360 := n10_; have NB365_370 := n11_; have NB370_365 := n12_; clear n0_ n1_ n2_ n3_ n4_ n5_ n6_ n7_ n8_ n9_ n10_ n11_ n12_; clear hb hbox hg; have hnb24 := NB370_359.out; have hnc24 := NB359_370.out; have hnb25 := NB370_360.out; have hnc25 := NB360_370.out; have hnb26 := NB370_365.out; have hnc26 := NB365_370.out; have hcz27_0 : w23.cell? ⟨gb370, 0, none⟩ = some (.int .i64 0) := (blk_cell BK370.out 0).trans rfl; have hcz27_1 : w23.cell? ⟨gb370, 1, none⟩ = some (.int .i64 0) := (blk_cell BK370.out 1).trans rfl; have hfz27_0 := blk_frozen BK370.out 0; have hfz27_1 := blk_frozen BK370.out 1))
  (try simp only [Act.put, List.setIfInBounds_toArray, List.set_cons_zero, List.set_cons_succ])
  go_cut [61] (fun v61 wc => ∃ (kq : Nat) (x61_8 : Bool), v61 = .bool x61_8 ∧ Aside0 (gatelinelaw25_RulesDays.j0 kq t363 t364 t368 t369 x61_8 t361 t362 t366 t367 = some r) ∧ Aside0 (kq ≤ k) ∧ Aside0 (wc.heap[gb359]? = some (.cells #[.int .i64 a0_0, .int .i64 a0_1, .int .i64 a0_2, .int .i64 a0_3, .int .i64 a0_4, .int .i64 a0_5, .int .i64 a0_6, .int .i64 a0_7, .int .i64 a0_8, .int .i64 a0_9, .int .i64 a0_10, .int .i64 a0_11, .int .i64 a0_12, .bool a0_13] 48 (0, 0))) ∧ Aside0 (wc.heap[gb360]? = some (.cells #[.int .i64 a1_0, .int .i64 a1_1, .int .i64 a1_2, .int .i64 a1_3, .int .i64 a1_4, .int .i64 a1_5, .int .i64 a1_6, .int .i64 a1_7, .int .i64 a1_8, .int .i64 a1_9, .int .i64 a1_10] 23 (0, 0))) ∧ Aside0 (wc.heap[gb365]? = some (.cells #[.int .i64 t361, .int .i64 t362] 25 (0, 0))) ∧ Aside0 (wc.heap[gb370]? = some (.cells #[.int .i64 t366, .int .i64 t367] 25 (0, 0))) ∧ Aside0 (Below w.heap.size w wc))
  case first =>
    have H := HC9.out
    clear HC9
    by_cases c28 : t364 = t369
    · rw [if_pos c28] at H
      have c28b0 : (t364 == t369) = true := beq_iff_eq.mpr c28
      have c28b1 : (t364 != t369) = false := bne_eq_false_iff_eq.mpr c28
      clear c28
      (first | rw [c28b0] | (simp only [i64_w, i32_w]; rw [c28b0]) | skip)
      by_cases c29 : t364 = 0
      · rw [if_pos c29] at H
        have c29b0 : (t364 == 0) = true := beq_iff_eq.mpr c29
        have c29b1 : (t364 != 0) = false := bne_eq_false_iff_eq.mpr c29
        clear c29
        by_cases c30 : t363 = 7
        · rw [if_pos c30] at H
          have c30b0 : (t363 == 7) = true := beq_iff_eq.mpr c30
          have c30b1 : (t363 != 7) = false := bne_eq_false_iff_eq.mpr c30
          clear c30
          have H' := Aside0.mk H
          clear H
          go_wp2
          go_meet
          case rel => exact ⟨_, (true), (by first | rfl | (simp; done) | (simp [*]; done)), H', ⟨by first | omega | exact Nat.le_refl _⟩, ⟨by (with_reducible repeat (first | refine blk_drewN ?_ _ | refine blk_drew ?_ | refine blk_alloc ?_ _)); refine blk_far ?_ NB359_370.out _; (with_reducible repeat (first | refine blk_drewN ?_ _ | refine blk_drew ?_ | refine blk_alloc ?_ _)); refine blk_far ?_ NB359_370.out _; (with_reducible repeat (first | refine blk_drewN ?_ _ | refine blk_drew ?_ | refine blk_alloc ?_ _)); exact BK359.out⟩, ⟨by (with_reducible repeat (first | refine blk_drewN ?_ _ | refine blk_drew ?_ | refine blk_alloc ?_ _)); refine blk_far ?_ NB360_370.out _; (with_reducible repeat (first | refine blk_drewN ?_ _ | refine blk_drew ?_ | refine blk_alloc ?_ _)); refine blk_far ?_ NB360_370.out _; (with_reducible repeat (first | refine blk_drewN ?_ _ | refine blk_drew ?_ | refine blk_alloc ?_ _)); exact BK360.out⟩, ⟨by (with_reducible repeat (first | refine blk_drewN ?_ _ | refine blk_drew ?_ | refine blk_alloc ?_ _)); refine blk_far ?_ NB365_370.out _; (with_reducible repeat (first | refine blk_drewN ?_ _ | refine blk_drew ?_ | refine blk_alloc ?_ _)); refine blk_far ?_ NB365_370.out _; (with_reducible repeat (first | refine blk_drewN ?_ _ | refine blk_drew ?_ | refine blk_alloc ?_ _)); exact BK365.out⟩, ⟨by (with_reducible repeat (first | refine blk_drewN ?_ _ | refine blk_drew ?_ | refine blk_alloc ?_ _)); refine blk_put (cs := #[.int .i64 t366, .int .i64 0]) ?_ 1 _ rfl; (with_reducible repeat (first | refine blk_drewN ?_ _ | refine blk_drew ?_ | refine blk_alloc ?_ _)); refine blk_put (cs := #[.int .i64 0, .int .i64 0]) ?_ 0 _ rfl; (with_reducible repeat (first | refine blk_drewN ?_ _ | refine blk_drew ?_ | refine blk_alloc ?_ _)); exact BK370.out⟩, ⟨by repeat (first | (with_reducible first | exact HB.out | apply below_alloc | apply pw_below_drewN | apply below_drew1 | refine below_set ?_ GE359.out | refine below_set ?_ GE360.out | refine below_set ?_ GE365.out | refine below_set ?_ GE370.out) | exact HB.out)⟩⟩
        · rw [if_neg c30] at H
          have c30b0 : (t363 == 7) = false := beq_eq_false_iff_ne.mpr c30
          have c30b1 : (t363 != 7) = true := bne_iff_ne.mpr c30
          by_cases c31 : t363 = 8
          · rw [if_pos c31] at H
            have c31b0 : (t363 == 8) = true := beq_iff_eq.mpr c31
            have c31b1 : (t363 != 8) = false := bne_eq_false_iff_eq.mpr c31
            clear c31
            have H' := Aside0.mk H
            clear H
            go_wp2
            go_meet
            case rel => exact ⟨_, (true), (by first | rfl | (simp; done) | (simp [*]; done)), H', ⟨by first | omega | exact Nat.le_refl _⟩, ⟨by (with_reducible repeat (first | refine blk_drewN ?_ _ | refine blk_drew ?_ | refine blk_alloc ?_ _)); refine blk_far ?_ NB359_370.out _; (with_reducible repeat (first | refine blk_drewN ?_ _ | refine blk_drew ?_ | refine blk_alloc ?_ _)); refine blk_far ?_ NB359_370.out _; (with_reducible repeat (first | refine blk_drewN ?_ _ | refine blk_drew ?_ | refine blk_alloc ?_ _)); exact BK359.out⟩, ⟨by (with_reducible repeat (first | refine blk_drewN ?_ _ | refine blk_drew ?_ | refine blk_alloc ?_ _)); refine blk_far ?_ NB360_370.out _; (with_reducible repeat (first | refine blk_drewN ?_ _ | refine blk_drew ?_ | refine blk_alloc ?_ _)); refine blk_far ?_ NB360_370.out _; (with_reducible repeat (first | refine blk_drewN ?_ _ | refine blk_drew ?_ | refine blk_alloc ?_ _)); exact BK360.out⟩, ⟨by (with_reducible repeat (first | refine blk_drewN ?_ _ | refine blk_drew ?_ | refine blk_alloc ?_ _)); refine blk_far ?_ NB365_370.out _; (with_reducible repeat (first | refine blk_drewN ?_ _ | refine blk_drew ?_ | refine blk_alloc ?_ _)); refine blk_far ?_ NB365_370.out _; (with_reducible repeat (first | refine blk_drewN ?_ _ | refine blk_drew ?_ | refine blk_alloc ?_ _)); exact BK365.out⟩, ⟨by (with_reducible repeat (first | refine blk_drewN ?_ _ | refine blk_drew ?_ | refine blk_alloc ?_ _)); refine blk_put (cs := #[.int .i64 t366, .int .i64 0]) ?_ 1 _ rfl; (with_reducible repeat (first | refine blk_drewN ?_ _ | refine blk_drew ?_ | refine blk_alloc ?_ _)); refine blk_put (cs := #[.int .i64 0, .int .i64 0]) ?_ 0 _ rfl; (with_reducible repeat (first | refine blk_drewN ?_ _ | refine blk_drew ?_ | refine blk_alloc ?_ _)); exact BK370.out⟩, ⟨by repeat (first | (with_reducible first | exact HB.out | apply below_alloc | apply pw_below_drewN | apply below_drew1 | refine below_set ?_ GE359.out | refine below_set ?_ GE360.out | refine below_set ?_ GE365.out | refine below_set ?_ GE370.out) | exact HB.out)⟩⟩
          · rw [if_neg c31] at H
            have c31b0 : (t363 == 8) = false := beq_eq_false_iff_ne.mpr c31
            have c31b1 : (t363 != 8) = true := bne_iff_ne.mpr c31
            by_cases c32 : t368 = 7
            · rw [if_pos c32] at H
              have c32b0 : (t368 == 7) = true := beq_iff_eq.mpr c32
              have c32b1 : (t368 != 7) = false := bne_eq_false_iff_eq.mpr c32
              clear c32
              have H' := Aside0.mk H
              clear H
              go_wp2
              go_meet
              case rel => exact ⟨_, (true), (by first | rfl | (simp; done) | (simp [*]; done)), H', ⟨by first | omega | exact Nat.le_refl _⟩, ⟨by (with_reducible repeat (first | refine blk_drewN ?_ _ | refine blk_drew ?_ | refine blk_alloc ?_ _)); refine blk_far ?_ NB359_370.out _; (with_reducible repeat (first | refine blk_drewN ?_ _ | refine blk_drew ?_ | refine blk_alloc ?_ _)); refine blk_far ?_ NB359_370.out _; (with_reducible repeat (first | refine blk_drewN ?_ _ | refine blk_drew ?_ | refine blk_alloc ?_ _)); exact BK359.out⟩, ⟨by (with_reducible repeat (first | refine blk_drewN ?_ _ | refine blk_drew ?_ | refine blk_alloc ?_ _)); refine blk_far ?_ NB360_370.out _; (with_reducible repeat (first | refine blk_drewN ?_ _ | refine blk_drew ?_ | refine blk_alloc ?_ _)); refine blk_far ?_ NB360_370.out _; (with_reducible repeat (first | refine blk_drewN ?_ _ | refine blk_drew ?_ | refine blk_alloc ?_ _)); exact BK360.out⟩, ⟨by (with_reducible repeat (first | refine blk_drewN ?_ _ | refine blk_drew ?_ | refine blk_alloc ?_ _)); refine blk_far ?_ NB365_370.out _; (with_reducible repeat (first | refine blk_drewN ?_ _ | refine blk_drew ?_ | refine blk_alloc ?_ _)); refine blk_far ?_ NB365_370.out _; (with_reducible repeat (first | refine blk_drewN ?_ _ | refine blk_drew ?_ | refine blk_alloc ?_ _)); exact BK365.out⟩, ⟨by (with_reducible repeat (first | refine blk_drewN ?_ _ | refine blk_drew ?_ | refine blk_alloc ?_ _)); refine blk_put (cs := #[.int .i64 t366, .int .i64 0]) ?_ 1 _ rfl; (with_reducible repeat (first | refine blk_drewN ?_ _ | refine blk_drew ?_ | refine blk_alloc ?_ _)); refine blk_put (cs := #[.int .i64 0, .int .i64 0]) ?_ 0 _ rfl; (with_reducible repeat (first | refine blk_drewN ?_ _ | refine blk_drew ?_ | refine blk_alloc ?_ _)); exact BK370.out⟩, ⟨by repeat (first | (with_reducible first | exact HB.out | apply below_alloc | apply pw_below_drewN | apply below_drew1 | refine below_set ?_ GE359.out | refine below_set ?_ GE360.out | refine below_set ?_ GE365.out | refine below_set ?_ GE370.out) | exact HB.out)⟩⟩
            · rw [if_neg c32] at H
              have c32b0 : (t368 == 7) = false := beq_eq_false_iff_ne.mpr c32
              have c32b1 : (t368 != 7) = true := bne_iff_ne.mpr c32
              have H' := Aside0.mk H
              clear H
              go_wp2
              go_meet
              case rel => exact ⟨_, ((t368 == 8)), (by first | rfl | (simp; done) | (simp [*]; done)), H', ⟨by first | omega | exact Nat.le_refl _⟩, ⟨by (with_reducible repeat (first | refine blk_drewN ?_ _ | refine blk_drew ?_ | refine blk_alloc ?_ _)); refine blk_far ?_ NB359_370.out _; (with_reducible repeat (first | refine blk_drewN ?_ _ | refine blk_drew ?_ | refine blk_alloc ?_ _)); refine blk_far ?_ NB359_370.out _; (with_reducible repeat (first | refine blk_drewN ?_ _ | refine blk_drew ?_ | refine blk_alloc ?_ _)); exact BK359.out⟩, ⟨by (with_reducible repeat (first | refine blk_drewN ?_ _ | refine blk_drew ?_ | refine blk_alloc ?_ _)); refine blk_far ?_ NB360_370.out _; (with_reducible repeat (first | refine blk_drewN ?_ _ | refine blk_drew ?_ | refine blk_alloc ?_ _)); refine blk_far ?_ NB360_370.out _; (with_reducible repeat (first | refine blk_drewN ?_ _ | refine blk_drew ?_ | refine blk_alloc ?_ _)); exact BK360.out⟩, ⟨by (with_reducible repeat (first | refine blk_drewN ?_ _ | refine blk_drew ?_ | refine blk_alloc ?_ _)); refine blk_far ?_ NB365_370.out _; (with_reducible repeat (first | refine blk_drewN ?_ _ | refine blk_drew ?_ | refine blk_alloc ?_ _)); refine blk_far ?_ NB365_370.out _; (with_reducible repeat (first | refine blk_drewN ?_ _ | refine blk_drew ?_ | refine blk_alloc ?_ _)); exact BK365.out⟩, ⟨by (with_reducible repeat (first | refine blk_drewN ?_ _ | refine blk_drew ?_ | refine blk_alloc ?_ _)); refine blk_put (cs := #[.int .i64 t366, .int .i64 0]) ?_ 1 _ rfl; (with_reducible repeat (first | refine blk_drewN ?_ _ | refine blk_drew ?_ | refine blk_alloc ?_ _)); refine blk_put (cs := #[.int .i64 0, .int .i64 0]) ?_ 0 _ rfl; (with_reducible repeat (first | refine blk_drewN ?_ _ | refine blk_drew ?_ | refine blk_alloc ?_ _)); exact BK370.out⟩, ⟨by repeat (first | (with_reducible first | exact HB.out | apply below_alloc | apply pw_below_drewN | apply below_drew1 | refine below_set ?_ GE359.out | refine below_set ?_ GE360.out | refine below_set ?_ GE365.out | refine below_set ?_ GE370.out) | exact HB.out)⟩⟩
      · rw [if_neg c29] at H
        have c29b0 : (t364 == 0) = false := beq_eq_false_iff_ne.mpr c29
        have c29b1 : (t364 != 0) = true := bne_iff_ne.mpr c29
        have H' := Aside0.mk H
        clear H
        go_wp2
        go_meet
        case rel => exact ⟨_, (true), (by first | rfl | (simp; done) | (simp [*]; done)), H', ⟨by first | omega | exact Nat.le_refl _⟩, ⟨by (with_reducible repeat (first | refine blk_drewN ?_ _ | refine blk_drew ?_ | refine blk_alloc ?_ _)); refine blk_far ?_ NB359_370.out _; (with_reducible repeat (first | refine blk_drewN ?_ _ | refine blk_drew ?_ | refine blk_alloc ?_ _)); refine blk_far ?_ NB359_370.out _; (with_reducible repeat (first | refine blk_drewN ?_ _ | refine blk_drew ?_ | refine blk_alloc ?_ _)); exact BK359.out⟩, ⟨by (with_reducible repeat (first | refine blk_drewN ?_ _ | refine blk_drew ?_ | refine blk_alloc ?_ _)); refine blk_far ?_ NB360_370.out _; (with_reducible repeat (first | refine blk_drewN ?_ _ | refine blk_drew ?_ | refine blk_alloc ?_ _)); refine blk_far ?_ NB360_370.out _; (with_reducible repeat (first | refine blk_drewN ?_ _ | refine blk_drew ?_ | refine blk_alloc ?_ _)); exact BK360.out⟩, ⟨by (with_reducible repeat (first | refine blk_drewN ?_ _ | refine blk_drew ?_ | refine blk_alloc ?_ _)); refine blk_far ?_ NB365_370.out _; (with_reducible repeat (first | refine blk_drewN ?_ _ | refine blk_drew ?_ | refine blk_alloc ?_ _)); refine blk_far ?_ NB365_370.out _; (with_reducible repeat (first | refine blk_drewN ?_ _ | refine blk_drew ?_ | refine blk_alloc ?_ _)); exact BK365.out⟩, ⟨by (with_reducible repeat (first | refine blk_drewN ?_ _ | refine blk_drew ?_ | refine blk_alloc ?_ _)); refine blk_put (cs := #[.int .i64 t366, .int .i64 0]) ?_ 1 _ rfl; (with_reducible repeat (first | refine blk_drewN ?_ _ | refine blk_drew ?_ | refine blk_alloc ?_ _)); refine blk_put (cs := #[.int .i64 0, .int .i64 0]) ?_ 0 _ rfl; (with_reducible repeat (first | refine blk_drewN ?_ _ | refine blk_drew ?_ | refine blk_alloc ?_ _)); exact BK370.out⟩, ⟨by repeat (first | (with_reducible first | exact HB.out | apply below_alloc | apply pw_below_drewN | apply below_drew1 | refine below_set ?_ GE359.out | refine below_set ?_ GE360.out | refine below_set ?_ GE365.out | refine below_set ?_ GE370.out) | exact HB.out)⟩⟩
    · rw [if_neg c28] at H
      have c28b0 : (t364 == t369) = false := beq_eq_false_iff_ne.mpr c28
      have c28b1 : (t364 != t369) = true := bne_iff_ne.mpr c28
      (first | rw [c28b0] | (simp only [i64_w, i32_w]; rw [c28b0]) | skip)
      have H' := Aside0.mk H
      clear H
      go_wp2
      go_meet
      case rel => exact ⟨_, (true), (by first | rfl | (simp; done) | (simp [*]; done)), H', ⟨by first | omega | exact Nat.le_refl _⟩, ⟨by (with_reducible repeat (first | refine blk_drewN ?_ _ | refine blk_drew ?_ | refine blk_alloc ?_ _)); refine blk_far ?_ NB359_370.out _; (with_reducible repeat (first | refine blk_drewN ?_ _ | refine blk_drew ?_ | refine blk_alloc ?_ _)); refine blk_far ?_ NB359_370.out _; (with_reducible repeat (first | refine blk_drewN ?_ _ | refine blk_drew ?_ | refine blk_alloc ?_ _)); exact BK359.out⟩, ⟨by (with_reducible repeat (first | refine blk_drewN ?_ _ | refine blk_drew ?_ | refine blk_alloc ?_ _)); refine blk_far ?_ NB360_370.out _; (with_reducible repeat (first | refine blk_drewN ?_ _ | refine blk_drew ?_ | refine blk_alloc ?_ _)); refine blk_far ?_ NB360_370.out _; (with_reducible repeat (first | refine blk_drewN ?_ _ | refine blk_drew ?_ | refine blk_alloc ?_ _)); exact BK360.out⟩, ⟨by (with_reducible repeat (first | refine blk_drewN ?_ _ | refine blk_drew ?_ | refine blk_alloc ?_ _)); refine blk_far ?_ NB365_370.out _; (with_reducible repeat (first | refine blk_drewN ?_ _ | refine blk_drew ?_ | refine blk_alloc ?_ _)); refine blk_far ?_ NB365_370.out _; (with_reducible repeat (first | refine blk_drewN ?_ _ | refine blk_drew ?_ | refine blk_alloc ?_ _)); exact BK365.out⟩, ⟨by (with_reducible repeat (first | refine blk_drewN ?_ _ | refine blk_drew ?_ | refine blk_alloc ?_ _)); refine blk_put (cs := #[.int .i64 t366, .int .i64 0]) ?_ 1 _ rfl; (with_reducible repeat (first | refine blk_drewN ?_ _ | refine blk_drew ?_ | refine blk_alloc ?_ _)); refine blk_put (cs := #[.int .i64 0, .int .i64 0]) ?_ 0 _ rfl; (with_reducible repeat (first | refine blk_drewN ?_ _ | refine blk_drew ?_ | refine blk_alloc ?_ _)); exact BK370.out⟩, ⟨by repeat (first | (with_reducible first | exact HB.out | apply below_alloc | apply pw_below_drewN | apply below_drew1 | refine below_set ?_ GE359.out | refine below_set ?_ GE360.out | refine below_set ?_ GE365.out | refine below_set ?_ GE370.out) | exact HB.out)⟩⟩
  case rest =>
    clear HC9
    try clear c1
    try clear c2
    try clear p2
    try clear c3
    try clear c12
    try clear c14
    try clear c17
    try clear c18
    try clear c24
    try clear c25
    try clear c26
    try clear c28
    try clear c28b0
    try clear c28b1
    try clear c29
    try clear c29b0
    try clear c29b1
    try clear c30
    try clear c30b0
    try clear c30b1
    try clear c31
    try clear c31b0
    try clear c31b1
    try clear c32
    try clear c32b0
    try clear c32b1
    try clear hcz13_0
    try clear hcz13_1
    try clear hcz13_10
    try clear hcz13_11
    try clear hcz13_12
    try clear hcz13_13
    try clear hcz13_2
    try clear hcz13_3
    try clear hcz13_4
    try clear hcz13_5
    try clear hcz13_6
    try clear hcz13_7
    try clear hcz13_8
    try clear hcz13_9
    try clear hcz14_0
    try clear hcz14_1
    try clear hcz14_10
    try clear hcz14_2
    try clear hcz14_3
    try clear hcz14_4
    try clear hcz14_5
    try clear hcz14_6
    try clear hcz14_7
    try clear hcz14_8
    try clear hcz14_9
    try clear hcz19_0
    try clear hcz19_1
    try clear hcz20_0
    try clear hcz20_1
    try clear hcz20_10
    try clear hcz20_11
    try clear hcz20_12
    try clear hcz20_13
    try clear hcz20_2
    try clear hcz20_3
    try clear hcz20_4
    try clear hcz20_5
    try clear hcz20_6
    try clear hcz20_7
    try clear hcz20_8
    try clear hcz20_9
    try clear hcz21_0
    try clear hcz21_1
    try clear hcz21_10
    try clear hcz21_2
    try clear hcz21_3
    try clear hcz21_4
    try clear hcz21_5
    try clear hcz21_6
    try clear hcz21_7
    try clear hcz21_8
    try clear hcz21_9
    try clear hcz27_0
    try clear hcz27_1
    try clear hfz13_0
    try clear hfz13_1
    try clear hfz13_10
    try clear hfz13_11
    try clear hfz13_12
    try clear hfz13_13
    try clear hfz13_2
    try clear hfz13_3
    try clear hfz13_4
    try clear hfz13_5
    try clear hfz13_6
    try clear hfz13_7
    try clear hfz13_8
    try clear hfz13_9
    try clear hfz14_0
    try clear hfz14_1
    try clear hfz14_10
    try clear hfz14_2
    try clear hfz14_3
    try clear hfz14_4
    try clear hfz14_5
    try clear hfz14_6
    try clear hfz14_7
    try clear hfz14_8
    try clear hfz14_9
    try clear hfz19_0
    try clear hfz19_1
    try clear hfz20_0
    try clear hfz20_1
    try clear hfz20_10
    try clear hfz20_11
    try clear hfz20_12
    try clear hfz20_13
    try clear hfz20_2
    try clear hfz20_3
    try clear hfz20_4
    try clear hfz20_5
    try clear hfz20_6
    try clear hfz20_7
    try clear hfz20_8
    try clear hfz20_9
    try clear hfz21_0
    try clear hfz21_1
    try clear hfz21_10
    try clear hfz21_2
    try clear hfz21_3
    try clear hfz21_4
    try clear hfz21_5
    try clear hfz21_6
    try clear hfz21_7
    try clear hfz21_8
    try clear hfz21_9
    try clear hfz27_0
    try clear hfz27_1
    obtain ⟨kq, x61_8, rfl, HA, HJ8, BK359, BK360, BK365, BK370, HB⟩ := hcut
    cases kq with
    | zero => exact absurd HA.out (by simp [gatelinelaw25_RulesDays.j0])
    | succ kj8 =>
      have H := HA.out
      clear HA
      simp only [gatelinelaw25_RulesDays.j0] at H
      by_cases c33 : x61_8 = true
      · subst c33
        have H1 : ((gatelinelaw25_ruled.f).bind fun t371 => (if t371 = true then (some (t364 == t369)) else (some false))) = some r := by rw [if_pos rfl] at H; exact H
        clear H
        have H := H1
        clear H1
        replace H := Option.bind_eq_some_iff.mp H
        obtain ⟨t371, A340, H⟩ := H
        replace H : (if t371 = true then (some (t364 == t369)) else (some false)) = some r := H
        have A34 := Aside0.mk A340
        clear A340
        by_cases c35 : t371 = true
        · subst c35
          have H1 : (some (t364 == t369)) = some r := by rw [if_pos rfl] at H; exact H
          clear H
          have H := H1
          clear H1
          obtain rfl := Option.some.inj H
          go_wp2_with (first | ((with_reducible refine gate_callee (f := 37) rfl ?_); refine goesL_ (some 62) rfl rfl Try.func37 (by kernel_rfl) rfl #[] rfl (by (try simp only [List.map_toArray, List.map_cons, List.map_nil]); first | done | rfl | (simp only [List.length_drop, List.length_take]; rfl)) ?_; (with_reducible refine (gatelinelaw25_ruled.calls  true _ A34.out).mono ?_); rintro e w36 ⟨rfl, hb⟩; refine ⟨_, rfl, ?_⟩; have n0_ := Aside0.mk (blk_below (g := gb359) (o := .cells #[.int .i64 a0_0, .int .i64 a0_1, .int .i64 a0_2, .int .i64 a0_3, .int .i64 a0_4, .int .i64 a0_5, .int .i64 a0_6, .int .i64 a0_7, .int .i64 a0_8, .int .i64 a0_9, .int .i64 a0_10, .int .i64 a0_11, .int .i64 a0_12, .bool a0_13] 48 (0, 0)) (by (with_reducible repeat (first | refine blk_drewN ?_ _ | refine blk_drew ?_ | refine blk_alloc ?_ _)); exact BK359.out) hb); have n1_ := Aside0.mk (blk_below (g := gb360) (o := .cells #[.int .i64 a1_0, .int .i64 a1_1, .int .i64 a1_2, .int .i64 a1_3, .int .i64 a1_4, .int .i64 a1_5, .int .i64 a1_6, .int .i64 a1_7, .int .i64 a1_8, .int .i64 a1_9, .int .i64 a1_10] 23 (0, 0)) (by (with_reducible repeat (first | refine blk_drewN ?_ _ | refine blk_drew ?_ | refine blk_alloc ?_ _)); exact BK360.out) hb); have n2_ := Aside0.mk (blk_below (g := gb365) (o := .cells #[.int .i64 t361, .int .i64 t362] 25 (0, 0)) (by (with_reducible repeat (first | refine blk_drewN ?_ _ | refine blk_drew ?_ | refine blk_alloc ?_ _)); exact BK365.out) hb); have n3_ := Aside0.mk (blk_below (g := gb370) (o := .cells #[.int .i64 t366, .int .i64 t367] 25 (0, 0)) (by (with_reducible repeat (first | refine blk_drewN ?_ _ | refine blk_drew ?_ | refine blk_alloc ?_ _)); exact BK370.out) hb); have n4_ := Aside0.mk (below_step (by repeat (first | (with_reducible first | exact HB.out | apply below_alloc | apply pw_below_drewN | apply below_drew1 | refine below_set ?_ GE359.out | refine below_set ?_ GE360.out | refine below_set ?_ GE365.out | refine below_set ?_ GE370.out) | exact HB.out)) hb); clear BK359; clear BK360; clear BK365; clear BK370; clear HB; have BK359 := n0_; have BK360 := n1_; have BK365 := n2_; have BK370 := n3_; have HB := n4_; clear n0_ n1_ n2_ n3_ n4_; (try clear hb); (try clear hb2); (try clear hk); (try clear hi); (try clear A34)))
          go_ret
          exact ⟨by first | rfl | (simp [errW_none, errW_some] <;> rfl) | (simp [*, errW_none, errW_some] <;> rfl), by repeat (first | (with_reducible first | exact HB.out | apply below_alloc | apply pw_below_drewN | apply below_drew1 | refine below_set ?_ GE359.out | refine below_set ?_ GE360.out | refine below_set ?_ GE365.out | refine below_set ?_ GE370.out) | exact HB.out)⟩
        · replace c35 := Bool.eq_false_iff.mpr c35
          subst c35
          have H1 : (some false) = some r := by rw [if_neg (show ¬ (false = true) by decide)] at H; exact H
          clear H
          have H := H1
          clear H1
          obtain rfl := Option.some.inj H
          go_wp2_with (first | ((with_reducible refine gate_callee (f := 37) rfl ?_); refine goesL_ (some 62) rfl rfl Try.func37 (by kernel_rfl) rfl #[] rfl (by (try simp only [List.map_toArray, List.map_cons, List.map_nil]); first | done | rfl | (simp only [List.length_drop, List.length_take]; rfl)) ?_; (with_reducible refine (gatelinelaw25_ruled.calls  false _ A34.out).mono ?_); rintro e w37 ⟨rfl, hb⟩; refine ⟨_, rfl, ?_⟩; have n0_ := Aside0.mk (blk_below (g := gb359) (o := .cells #[.int .i64 a0_0, .int .i64 a0_1, .int .i64 a0_2, .int .i64 a0_3, .int .i64 a0_4, .int .i64 a0_5, .int .i64 a0_6, .int .i64 a0_7, .int .i64 a0_8, .int .i64 a0_9, .int .i64 a0_10, .int .i64 a0_11, .int .i64 a0_12, .bool a0_13] 48 (0, 0)) (by (with_reducible repeat (first | refine blk_drewN ?_ _ | refine blk_drew ?_ | refine blk_alloc ?_ _)); exact BK359.out) hb); have n1_ := Aside0.mk (blk_below (g := gb360) (o := .cells #[.int .i64 a1_0, .int .i64 a1_1, .int .i64 a1_2, .int .i64 a1_3, .int .i64 a1_4, .int .i64 a1_5, .int .i64 a1_6, .int .i64 a1_7, .int .i64 a1_8, .int .i64 a1_9, .int .i64 a1_10] 23 (0, 0)) (by (with_reducible repeat (first | refine blk_drewN ?_ _ | refine blk_drew ?_ | refine blk_alloc ?_ _)); exact BK360.out) hb); have n2_ := Aside0.mk (blk_below (g := gb365) (o := .cells #[.int .i64 t361, .int .i64 t362] 25 (0, 0)) (by (with_reducible repeat (first | refine blk_drewN ?_ _ | refine blk_drew ?_ | refine blk_alloc ?_ _)); exact BK365.out) hb); have n3_ := Aside0.mk (blk_below (g := gb370) (o := .cells #[.int .i64 t366, .int .i64 t367] 25 (0, 0)) (by (with_reducible repeat (first | refine blk_drewN ?_ _ | refine blk_drew ?_ | refine blk_alloc ?_ _)); exact BK370.out) hb); have n4_ := Aside0.mk (below_step (by repeat (first | (with_reducible first | exact HB.out | apply below_alloc | apply pw_below_drewN | apply below_drew1 | refine below_set ?_ GE359.out | refine below_set ?_ GE360.out | refine below_set ?_ GE365.out | refine below_set ?_ GE370.out) | exact HB.out)) hb); clear BK359; clear BK360; clear BK365; clear BK370; clear HB; have BK359 := n0_; have BK360 := n1_; have BK365 := n2_; have BK370 := n3_; have HB := n4_; clear n0_ n1_ n2_ n3_ n4_; (try clear hb); (try clear hb2); (try clear hk); (try clear hi); (try clear A34)))
          go_ret
          exact ⟨by first | rfl | (simp [errW_none, errW_some] <;> rfl) | (simp [*, errW_none, errW_some] <;> rfl), by repeat (first | (with_reducible first | exact HB.out | apply below_alloc | apply pw_below_drewN | apply below_drew1 | refine below_set ?_ GE359.out | refine below_set ?_ GE360.out | refine below_set ?_ GE365.out | refine below_set ?_ GE370.out) | exact HB.out)⟩
      · replace c33 := Bool.eq_false_iff.mpr c33
        subst c33
        have H1 : ((gatelinelaw25_ruled.f).bind fun t372 => (if t372 = true then (if (t361 == t366 && (t362 == t367)) = true then (some (t363 == t368)) else (some false)) else (some false))) = some r := by rw [if_neg (show ¬ (false = true) by decide)] at H; exact H
        clear H
        have H := H1
        clear H1
        replace H := Option.bind_eq_some_iff.mp H
        obtain ⟨t372, A380, H⟩ := H
        replace H : (if t372 = true then (if (t361 == t366 && (t362 == t367)) = true then (some (t363 == t368)) else (some false)) else (some false)) = some r := H
        have A38 := Aside0.mk A380
        clear A380
        by_cases c39 : t372 = true
        · subst c39
          have H1 : (if (t361 == t366 && (t362 == t367)) = true then (some (t363 == t368)) else (some false)) = some r := by rw [if_pos rfl] at H; exact H
          clear H
          have H := H1
          clear H1
          by_cases c40 : (t361 == t366 && (t362 == t367)) = true
          · rw [if_pos c40] at H
            have c40b0 : (t361 == t366 && (t362 == t367)) = true := c40
            (try (have c40b1 : decide (t361 = t366 && (t362 == t367)) = true := by simpa using c40))
            (try (have c40b2 : (t361 == t366 && (t362 == t367)) = true := by simpa using c40))
            clear c40
            obtain rfl := Option.some.inj H
            go_wp2_with (first | ((with_reducible refine gate_callee (f := 37) rfl ?_); refine goesL_ (some 68) rfl rfl Try.func37 (by kernel_rfl) rfl #[] rfl (by (try simp only [List.map_toArray, List.map_cons, List.map_nil]); first | done | rfl | (simp only [List.length_drop, List.length_take]; rfl)) ?_; (with_reducible refine (gatelinelaw25_ruled.calls  true _ A38.out).mono ?_); rintro e w41 ⟨rfl, hb⟩; refine ⟨_, rfl, ?_⟩; have n0_ := Aside0.mk (blk_below (g := gb359) (o := .cells #[.int .i64 a0_0, .int .i64 a0_1, .int .i64 a0_2, .int .i64 a0_3, .int .i64 a0_4, .int .i64 a0_5, .int .i64 a0_6, .int .i64 a0_7, .int .i64 a0_8, .int .i64 a0_9, .int .i64 a0_10, .int .i64 a0_11, .int .i64 a0_12, .bool a0_13] 48 (0, 0)) (by (with_reducible repeat (first | refine blk_drewN ?_ _ | refine blk_drew ?_ | refine blk_alloc ?_ _)); exact BK359.out) hb); have n1_ := Aside0.mk (blk_below (g := gb360) (o := .cells #[.int .i64 a1_0, .int .i64 a1_1, .int .i64 a1_2, .int .i64 a1_3, .int .i64 a1_4, .int .i64 a1_5, .int .i64 a1_6, .int .i64 a1_7, .int .i64 a1_8, .int .i64 a1_9, .int .i64 a1_10] 23 (0, 0)) (by (with_reducible repeat (first | refine blk_drewN ?_ _ | refine blk_drew ?_ | refine blk_alloc ?_ _)); exact BK360.out) hb); have n2_ := Aside0.mk (blk_below (g := gb365) (o := .cells #[.int .i64 t361, .int .i64 t362] 25 (0, 0)) (by (with_reducible repeat (first | refine blk_drewN ?_ _ | refine blk_drew ?_ | refine blk_alloc ?_ _)); exact BK365.out) hb); have n3_ := Aside0.mk (blk_below (g := gb370) (o := .cells #[.int .i64 t366, .int .i64 t367] 25 (0, 0)) (by (with_reducible repeat (first | refine blk_drewN ?_ _ | refine blk_drew ?_ | refine blk_alloc ?_ _)); exact BK370.out) hb); have n4_ := Aside0.mk (below_step (by repeat (first | (with_reducible first | exact HB.out | apply below_alloc | apply pw_below_drewN | apply below_drew1 | refine below_set ?_ GE359.out | refine below_set ?_ GE360.out | refine below_set ?_ GE365.out | refine below_set ?_ GE370.out) | exact HB.out)) hb); clear BK359; clear BK360; clear BK365; clear BK370; clear HB; have BK359 := n0_; have BK360 := n1_; have BK365 := n2_; have BK370 := n3_; have HB := n4_; clear n0_ n1_ n2_ n3_ n4_; (try clear hb); (try clear hb2); (try clear hk); (try clear hi); (try clear A38); have hnb42 := NB365_359.out; have hnc42 := NB359_365.out; have hnb43 := NB365_360.out; have hnc43 := NB360_365.out; have hnb44 := NB365_370.out; have hnc44 := NB370_365.out; have hcz45_0 : w41.cell? ⟨gb365, 0, none⟩ = some (.int .i64 t361) := (blk_cell BK365.out 0).trans rfl; have hcz45_1 : w41.cell? ⟨gb365, 1, none⟩ = some (.int .i64 t362) := (blk_cell BK365.out 1).trans rfl; have hfz45_0 := blk_frozen BK365.out 0; have hfz45_1 := blk_frozen BK365.out 1; have hnb46 := NB370_359.out; have hnc46 := NB359_370.out; have hnb47 := NB370_360.out; have hnc47 := NB360_370.out; have hcz48_0 : w41.cell? ⟨gb370, 0, none⟩ = some (.int .i64 t366) := (blk_cell BK370.out 0).trans rfl; have hcz48_1 : w41.cell? ⟨gb370, 1, none⟩ = some (.int .i64 t367) := (blk_cell BK370.out 1).trans rfl; have hfz48_0 := blk_frozen BK370.out 0; have hfz48_1 := blk_frozen BK370.out 1))
            go_ret
            exact ⟨by first | rfl | (simp [errW_none, errW_some] <;> rfl) | (simp [*, errW_none, errW_some] <;> rfl), by repeat (first | (with_reducible first | exact HB.out | apply below_alloc | apply pw_below_drewN | apply below_drew1 | refine below_set ?_ GE359.out | refine below_set ?_ GE360.out | refine below_set ?_ GE365.out | refine below_set ?_ GE370.out) | exact HB.out)⟩
          · rw [if_neg c40] at H
            have c40b0 : (t361 == t366 && (t362 == t367)) = false := by simpa using c40
            (try (have c40b1 : decide (t361 = t366 && (t362 == t367)) = false := by simpa using c40))
            (try (have c40b2 : (t361 == t366 && (t362 == t367)) = false := by simpa using c40))
            (try (have c40b3 : ¬ (t361 = t366 && (t362 == t367)) := by simpa using c40))
            clear c40
            obtain rfl := Option.some.inj H
            go_wp2_with (first | ((with_reducible refine gate_callee (f := 37) rfl ?_); refine goesL_ (some 68) rfl rfl Try.func37 (by kernel_rfl) rfl #[] rfl (by (try simp only [List.map_toArray, List.map_cons, List.map_nil]); first | done | rfl | (simp only [List.length_drop, List.length_take]; rfl)) ?_; (with_reducible refine (gatelinelaw25_ruled.calls  true _ A38.out).mono ?_); rintro e w49 ⟨rfl, hb⟩; refine ⟨_, rfl, ?_⟩; have n0_ := Aside0.mk (blk_below (g := gb359) (o := .cells #[.int .i64 a0_0, .int .i64 a0_1, .int .i64 a0_2, .int .i64 a0_3, .int .i64 a0_4, .int .i64 a0_5, .int .i64 a0_6, .int .i64 a0_7, .int .i64 a0_8, .int .i64 a0_9, .int .i64 a0_10, .int .i64 a0_11, .int .i64 a0_12, .bool a0_13] 48 (0, 0)) (by (with_reducible repeat (first | refine blk_drewN ?_ _ | refine blk_drew ?_ | refine blk_alloc ?_ _)); exact BK359.out) hb); have n1_ := Aside0.mk (blk_below (g := gb360) (o := .cells #[.int .i64 a1_0, .int .i64 a1_1, .int .i64 a1_2, .int .i64 a1_3, .int .i64 a1_4, .int .i64 a1_5, .int .i64 a1_6, .int .i64 a1_7, .int .i64 a1_8, .int .i64 a1_9, .int .i64 a1_10] 23 (0, 0)) (by (with_reducible repeat (first | refine blk_drewN ?_ _ | refine blk_drew ?_ | refine blk_alloc ?_ _)); exact BK360.out) hb); have n2_ := Aside0.mk (blk_below (g := gb365) (o := .cells #[.int .i64 t361, .int .i64 t362] 25 (0, 0)) (by (with_reducible repeat (first | refine blk_drewN ?_ _ | refine blk_drew ?_ | refine blk_alloc ?_ _)); exact BK365.out) hb); have n3_ := Aside0.mk (blk_below (g := gb370) (o := .cells #[.int .i64 t366, .int .i64 t367] 25 (0, 0)) (by (with_reducible repeat (first | refine blk_drewN ?_ _ | refine blk_drew ?_ | refine blk_alloc ?_ _)); exact BK370.out) hb); have n4_ := Aside0.mk (below_step (by repeat (first | (with_reducible first | exact HB.out | apply below_alloc | apply pw_below_drewN | apply below_drew1 | refine below_set ?_ GE359.out | refine below_set ?_ GE360.out | refine below_set ?_ GE365.out | refine below_set ?_ GE370.out) | exact HB.out)) hb); clear BK359; clear BK360; clear BK365; clear BK370; clear HB; have BK359 := n0_; have BK360 := n1_; have BK365 := n2_; have BK370 := n3_; have HB := n4_; clear n0_ n1_ n2_ n3_ n4_; (try clear hb); (try clear hb2); (try clear hk); (try clear hi); (try clear A38); have hnb50 := NB365_359.out; have hnc50 := NB359_365.out; have hnb51 := NB365_360.out; have hnc51 := NB360_365.out; have hnb52 := NB365_370.out; have hnc52 := NB370_365.out; have hcz53_0 : w49.cell? ⟨gb365, 0, none⟩ = some (.int .i64 t361) := (blk_cell BK365.out 0).trans rfl; have hcz53_1 : w49.cell? ⟨gb365, 1, none⟩ = some (.int .i64 t362) := (blk_cell BK365.out 1).trans rfl; have hfz53_0 := blk_frozen BK365.out 0; have hfz53_1 := blk_frozen BK365.out 1; have hnb54 := NB370_359.out; have hnc54 := NB359_370.out; have hnb55 := NB370_360.out; have hnc55 := NB360_370.out; have hcz56_0 : w49.cell? ⟨gb370, 0, none⟩ = some (.int .i64 t366) := (blk_cell BK370.out 0).trans rfl; have hcz56_1 : w49.cell? ⟨gb370, 1, none⟩ = some (.int .i64 t367) := (blk_cell BK370.out 1).trans rfl; have hfz56_0 := blk_frozen BK370.out 0; have hfz56_1 := blk_frozen BK370.out 1))
            go_ret
            exact ⟨by first | rfl | (simp [errW_none, errW_some] <;> rfl) | (simp [*, errW_none, errW_some] <;> rfl), by repeat (first | (with_reducible first | exact HB.out | apply below_alloc | apply pw_below_drewN | apply below_drew1 | refine below_set ?_ GE359.out | refine below_set ?_ GE360.out | refine below_set ?_ GE365.out | refine below_set ?_ GE370.out) | exact HB.out)⟩
        · replace c39 := Bool.eq_false_iff.mpr c39
          subst c39
          have H1 : (some false) = some r := by rw [if_neg (show ¬ (false = true) by decide)] at H; exact H
          clear H
          have H := H1
          clear H1
          obtain rfl := Option.some.inj H
          go_wp2_with (first | ((with_reducible refine gate_callee (f := 37) rfl ?_); refine goesL_ (some 68) rfl rfl Try.func37 (by kernel_rfl) rfl #[] rfl (by (try simp only [List.map_toArray, List.map_cons, List.map_nil]); first | done | rfl | (simp only [List.length_drop, List.length_take]; rfl)) ?_; (with_reducible refine (gatelinelaw25_ruled.calls  false _ A38.out).mono ?_); rintro e w57 ⟨rfl, hb⟩; refine ⟨_, rfl, ?_⟩; have n0_ := Aside0.mk (blk_below (g := gb359) (o := .cells #[.int .i64 a0_0, .int .i64 a0_1, .int .i64 a0_2, .int .i64 a0_3, .int .i64 a0_4, .int .i64 a0_5, .int .i64 a0_6, .int .i64 a0_7, .int .i64 a0_8, .int .i64 a0_9, .int .i64 a0_10, .int .i64 a0_11, .int .i64 a0_12, .bool a0_13] 48 (0, 0)) (by (with_reducible repeat (first | refine blk_drewN ?_ _ | refine blk_drew ?_ | refine blk_alloc ?_ _)); exact BK359.out) hb); have n1_ := Aside0.mk (blk_below (g := gb360) (o := .cells #[.int .i64 a1_0, .int .i64 a1_1, .int .i64 a1_2, .int .i64 a1_3, .int .i64 a1_4, .int .i64 a1_5, .int .i64 a1_6, .int .i64 a1_7, .int .i64 a1_8, .int .i64 a1_9, .int .i64 a1_10] 23 (0, 0)) (by (with_reducible repeat (first | refine blk_drewN ?_ _ | refine blk_drew ?_ | refine blk_alloc ?_ _)); exact BK360.out) hb); have n2_ := Aside0.mk (blk_below (g := gb365) (o := .cells #[.int .i64 t361, .int .i64 t362] 25 (0, 0)) (by (with_reducible repeat (first | refine blk_drewN ?_ _ | refine blk_drew ?_ | refine blk_alloc ?_ _)); exact BK365.out) hb); have n3_ := Aside0.mk (blk_below (g := gb370) (o := .cells #[.int .i64 t366, .int .i64 t367] 25 (0, 0)) (by (with_reducible repeat (first | refine blk_drewN ?_ _ | refine blk_drew ?_ | refine blk_alloc ?_ _)); exact BK370.out) hb); have n4_ := Aside0.mk (below_step (by repeat (first | (with_reducible first | exact HB.out | apply below_alloc | apply pw_below_drewN | apply below_drew1 | refine below_set ?_ GE359.out | refine below_set ?_ GE360.out | refine below_set ?_ GE365.out | refine below_set ?_ GE370.out) | exact HB.out)) hb); clear BK359; clear BK360; clear BK365; clear BK370; clear HB; have BK359 := n0_; have BK360 := n1_; have BK365 := n2_; have BK370 := n3_; have HB := n4_; clear n0_ n1_ n2_ n3_ n4_; (try clear hb); (try clear hb2); (try clear hk); (try clear hi); (try clear A38)))
          go_ret
          exact ⟨by first | rfl | (simp [errW_none, errW_some] <;> rfl) | (simp [*, errW_none, errW_some] <;> rfl), by repeat (first | (with_reducible first | exact HB.out | apply below_alloc | apply pw_below_drewN | apply below_drew1 | refine below_set ?_ GE359.out | refine below_set ?_ GE360.out | refine below_set ?_ GE365.out | refine below_set ?_ GE370.out) | exact HB.out)⟩

end Go.Proofs.Ytdiijjdhofaodaa.PL
end
section
namespace Go.Proofs.Ytdiijjdhofaodaa.Pure
open Go Go.RowKit Go.Proofs.Ytdiijjdhofaodaa.G Go.Proofs.Ytdiijjdhofaodaa.PL Go.Proofs.YtdiijjdhofaodaaW.PrintWords Go.Proofs.YtdiijjdhofaodaaW.PrintLast Go.Proofs.YtdiijjdhofaodaaW.PrintMore
theorem ruled_f : gatelinelaw25_ruled.f = some true := by decide +kernel
theorem RulesDays (a0_0 a0_1 a0_2 a0_3 a0_4 a0_5 a0_6 a0_7 a0_8 a0_9 a0_10 a0_11 a0_12 : Int) (a0_13 : Bool) (_ : (Lit.int .i64 a0_0).wf = true) (_ : (Lit.int .i64 a0_1).wf = true) (_ : (Lit.int .i64 a0_2).wf = true) (_ : (Lit.int .i64 a0_3).wf = true) (_ : (Lit.int .i64 a0_4).wf = true) (_ : (Lit.int .i64 a0_5).wf = true) (_ : (Lit.int .i64 a0_6).wf = true) (_ : (Lit.int .i64 a0_7).wf = true) (_ : (Lit.int .i64 a0_8).wf = true) (_ : (Lit.int .i64 a0_9).wf = true) (_ : (Lit.int .i64 a0_10).wf = true) (_ : (Lit.int .i64 a0_11).wf = true) (_ : (Lit.int .i64 a0_12).wf = true) (a1_0 a1_1 a1_2 a1_3 a1_4 a1_5 a1_6 a1_7 a1_8 a1_9 a1_10 : Int) (_ : (Lit.int .i64 a1_0).wf = true) (_ : (Lit.int .i64 a1_1).wf = true) (_ : (Lit.int .i64 a1_2).wf = true) (_ : (Lit.int .i64 a1_3).wf = true) (_ : (Lit.int .i64 a1_4).wf = true) (_ : (Lit.int .i64 a1_5).wf = true) (_ : (Lit.int .i64 a1_6).wf = true) (_ : (Lit.int .i64 a1_7).wf = true) (_ : (Lit.int .i64 a1_8).wf = true) (_ : (Lit.int .i64 a1_9).wf = true) (_ : (Lit.int .i64 a1_10).wf = true) (a2 : Int) (_ : (Lit.int .i64 a2).wf = true) (a3 : Int) (_ : (Lit.int .i64 a3).wf = true) (a4 : Int) (_ : (Lit.int .i64 a4).wf = true) (a5 : Bool) : ∃ k, gatelinelaw25_RulesDays.f k a0_0 a0_1 a0_2 a0_3 a0_4 a0_5 a0_6 a0_7 a0_8 a0_9 a0_10 a0_11 a0_12 a0_13 a1_0 a1_1 a1_2 a1_3 a1_4 a1_5 a1_6 a1_7 a1_8 a1_9 a1_10 a2 a3 a4 a5 = some true := by
  refine ⟨1, ?_⟩
  have e1 : ∀ d, rules_Pass.f a0_0 a0_1 a0_2 a0_3 a0_4 a0_5 a0_6 a0_7 a0_8 a0_9 a0_10 a0_11 a0_12 a0_13 a1_0 a1_1 a1_2 a1_3 a1_4 a1_5 a1_6 a1_7 a1_8 a1_9 a1_10 d a4 a5 = some (passR a0_0 a0_1 a0_2 a0_3 a0_4 a0_5 a0_6 a0_7 a0_8 a0_9 a0_10 a0_11 a0_12 a0_13 a1_0 a1_1 a1_2 a1_3 a1_4 a1_5 a1_6 a1_7 a1_8 a1_9 a1_10 d a4 a5) := fun _ => rfl
  have hc : (passR a0_0 a0_1 a0_2 a0_3 a0_4 a0_5 a0_6 a0_7 a0_8 a0_9 a0_10 a0_11 a0_12 a0_13 a1_0 a1_1 a1_2 a1_3 a1_4 a1_5 a1_6 a1_7 a1_8 a1_9 a1_10 a2 a4 a5).2.2.2 = (passR a0_0 a0_1 a0_2 a0_3 a0_4 a0_5 a0_6 a0_7 a0_8 a0_9 a0_10 a0_11 a0_12 a0_13 a1_0 a1_1 a1_2 a1_3 a1_4 a1_5 a1_6 a1_7 a1_8 a1_9 a1_10 a3 a4 a5).2.2.2 := by rw [pass_code, pass_code]
  have hd := pass_days a0_0 a0_1 a0_2 a0_3 a0_4 a0_5 a0_6 a0_7 a0_8 a0_9 a0_10 a0_11 a0_12 a0_13 a1_0 a1_1 a1_2 a1_3 a1_4 a1_5 a1_6 a1_7 a1_8 a1_9 a1_10 a4 a5 a2 a3
  unfold gatelinelaw25_RulesDays.f
  rw [e1, Option.bind_some, e1, Option.bind_some, if_pos hc]
  clear e1
  generalize passR a0_0 a0_1 a0_2 a0_3 a0_4 a0_5 a0_6 a0_7 a0_8 a0_9 a0_10 a0_11 a0_12 a0_13 a1_0 a1_1 a1_2 a1_3 a1_4 a1_5 a1_6 a1_7 a1_8 a1_9 a1_10 a2 a4 a5 = A at *
  generalize passR a0_0 a0_1 a0_2 a0_3 a0_4 a0_5 a0_6 a0_7 a0_8 a0_9 a0_10 a0_11 a0_12 a0_13 a1_0 a1_1 a1_2 a1_3 a1_4 a1_5 a1_6 a1_7 a1_8 a1_9 a1_10 a3 a4 a5 = B at *
  have yes : gatelinelaw25_RulesDays.j0 1 A.2.2.1 A.2.2.2 B.2.2.1 B.2.2.2 true A.1 A.2.1 B.1 B.2.1 = some true := by
    rw [gatelinelaw25_RulesDays.j0, if_pos rfl, ruled_f, Option.bind_some, if_pos rfl, hc, beq_self_eq_true]
  have alike (h : A = B) (b : Bool) : gatelinelaw25_RulesDays.j0 1 A.2.2.1 A.2.2.2 B.2.2.1 B.2.2.2 b A.1 A.2.1 B.1 B.2.1 = some true := by
    subst h
    cases b
    · rw [gatelinelaw25_RulesDays.j0, if_neg (by decide), ruled_f, Option.bind_some, if_pos rfl, beq_self_eq_true, beq_self_eq_true, beq_self_eq_true, if_pos (by decide)]
    · exact yes
  by_cases h0 : A.2.2.2 = 0
  · rw [if_pos h0]
    by_cases h1 : A.2.2.1 = 7
    · rw [if_pos h1]
      exact yes
    · rw [if_neg h1]
      by_cases h2 : A.2.2.1 = 8
      · rw [if_pos h2]
        exact yes
      · rw [if_neg h2]
        by_cases h3 : B.2.2.1 = 7
        · rw [if_pos h3]
          exact yes
        · rw [if_neg h3]
          cases hb : (B.2.2.1 == 8)
          · have h4 : ¬ B.2.2.1 = 8 := beq_eq_false_iff_ne.1 hb
            exact alike (by rcases hd with h | h | h | h | h <;> first | exact h | exact absurd h ‹_›) false
          · exact yes
  · rw [if_neg h0]
    exact yes
end Go.Proofs.Ytdiijjdhofaodaa.Pure
end
section
namespace Go.Proofs.Ytdiijjdhofaodaa.rulesDays
open Go.ChangeShapes Go.WideShapes Go.ChangeAt Go.RowKit Go.Proofs.YtdiijjdhofaodaaW.PrintWords
theorem own : ownKnob Try.prog.godebug = none := by kernel_rfl
theorem laidOut : laidOutB Try.prog = true := by kernel_rfl
set_option maxRecDepth 100000 in
theorem lifted (os : Os) (started : os.Started) (H : Type) (enc : TypeId × Value → H) :
    ReturnsInHanded {} Try.checked os 14 .any (Rows.rulesDaysSpec.pre6 enc Try.prog Try.f14 Rows.rulesDaysRow.domain false) (Rows.rulesDaysSpec.post enc Try.prog Try.f14 false true false false) := by
  refine returnsInHanded_of_change_sized (C := Try.checked) own started (by kernel_rfl) Try.func14
    (ChangeSpec.witness6 (enc := enc) (C := Try.checked) false ⟨#[], #[.agg #[.int .i64 0, .int .i64 0, .int .i64 0, .int .i64 0, .int .i64 0, .int .i64 0, .int .i64 0, .int .i64 0, .int .i64 0, .int .i64 0, .int .i64 0, .int .i64 0, .int .i64 0, .bool false], .agg #[.int .i64 0, .int .i64 0, .int .i64 0, .int .i64 0, .int .i64 0, .int .i64 0, .int .i64 0, .int .i64 0, .int .i64 0, .int .i64 0, .int .i64 0], .int .i64 0, .int .i64 0, .int .i64 0, .bool false], []⟩ 8 (by kernel_rfl) (by kernel_rfl) (by kernel_rfl) (by kernel_rfl)) ?_
  intro W base args ds gs before hval0 hW hcnd hsz0 _
  have hval : ∀ (j : Nat) t v, Try.f14.params[j]? = some t → args[j]? = some v → Value.okWide Try.prog W .any base t v := hval0
  have hW' := hW
  obtain ⟨p, q, hA0, hV, rfl, hfz, hnd⟩ := hW
  have hA : DataW.TrodAll enc Try.prog W 0 (fun _ => true) true Try.f14.params.toList args.toList ds p := hA0
  rw [Try.params14] at hA hval
  obtain ⟨v0, vs0, d0, ds0, p0, q0, hargs, rfl, rfl, h0, r0⟩ := trodAll_cons hA
  obtain ⟨v1, vs1, d1, ds1, p1, q1, rfl, rfl, rfl, h1, r1⟩ := trodAll_cons r0
  obtain ⟨v2, vs2, d2, ds2, p2, q2, rfl, rfl, rfl, h2, r2⟩ := trodAll_cons r1
  obtain ⟨v3, vs3, d3, ds3, p3, q3, rfl, rfl, rfl, h3, r3⟩ := trodAll_cons r2
  obtain ⟨v4, vs4, d4, ds4, p4, q4, rfl, rfl, rfl, h4, r4⟩ := trodAll_cons r3
  obtain ⟨v5, vs5, d5, ds5, p5, q5, rfl, rfl, rfl, h5, r5⟩ := trodAll_cons r4
  obtain ⟨rfl, rfl, rfl⟩ := trodAll_nil r5
  obtain rfl : args = #[v0, v1, v2, v3, v4, v5] := by cases args; simp_all
  obtain ⟨rfl, rfl⟩ := trodVars_none hV
  have k0 := h0
  have lt0 : ∀ x ∈ p0, x.block < W.heap.size := by obtain ⟨m, hm⟩ := k0; exact DataW.trod_lt m _ _ _ hm
  obtain ⟨a0_0, a0_1, a0_2, a0_3, a0_4, a0_5, a0_6, a0_7, a0_8, a0_9, a0_10, a0_11, a0_12, a0_13, rfl, wa0_0, wa0_1, wa0_2, wa0_3, wa0_4, wa0_5, wa0_6, wa0_7, wa0_8, wa0_9, wa0_10, wa0_11, wa0_12⟩ := G.open_entry Try.underlying48 rfl (by kernel_rfl) Try.underlying23 (by kernel_rfl) rfl (by kernel_rfl) Try.underlying25 (by kernel_rfl) rfl (by kernel_rfl) Try.underlying4 (by kernel_rfl) (hval 0 48 v0 rfl rfl) h0
  have k1 := h1
  have lt1 : ∀ x ∈ p1, x.block < W.heap.size := by obtain ⟨m, hm⟩ := k1; exact DataW.trod_lt m _ _ _ hm
  obtain ⟨a1_0, a1_1, a1_2, a1_3, a1_4, a1_5, a1_6, a1_7, a1_8, a1_9, a1_10, rfl, wa1_0, wa1_1, wa1_2, wa1_3, wa1_4, wa1_5, wa1_6, wa1_7, wa1_8, wa1_9, wa1_10⟩ := G.open_ticket Try.underlying23 (by kernel_rfl) (by kernel_rfl) (hval 1 23 v1 rfl rfl) h1
  obtain ⟨a2, rfl, rfl, rfl, w2⟩ := open_int Try.underlying3 (hval 2 3 v2 rfl rfl) h2
  obtain ⟨a3, rfl, rfl, rfl, w3⟩ := open_int Try.underlying3 (hval 3 3 v3 rfl rfl) h3
  obtain ⟨a4, rfl, rfl, rfl, w4⟩ := open_int Try.underlying3 (hval 4 3 v4 rfl rfl) h4
  obtain ⟨a5, rfl, rfl, rfl⟩ := open_bool Try.underlying4 (hval 5 4 v5 rfl rfl) h5
  clear hA0 hval0 hsz0
  obtain ⟨k, hk⟩ := Pure.RulesDays a0_0 a0_1 a0_2 a0_3 a0_4 a0_5 a0_6 a0_7 a0_8 a0_9 a0_10 a0_11 a0_12 a0_13 wa0_0 wa0_1 wa0_2 wa0_3 wa0_4 wa0_5 wa0_6 wa0_7 wa0_8 wa0_9 wa0_10 wa0_11 wa0_12 a1_0 a1_1 a1_2 a1_3 a1_4 a1_5 a1_6 a1_7 a1_8 a1_9 a1_10 wa1_0 wa1_1 wa1_2 wa1_3 wa1_4 wa1_5 wa1_6 wa1_7 wa1_8 wa1_9 wa1_10 a2 w2 a3 w3 a4 w4 a5
  refine (PL.gatelinelaw25_RulesDays.calls k a0_0 a0_1 a0_2 a0_3 a0_4 a0_5 a0_6 a0_7 a0_8 a0_9 a0_10 a0_11 a0_12 a0_13 a1_0 a1_1 a1_2 a1_3 a1_4 a1_5 a1_6 a1_7 a1_8 a1_9 a1_10 a2 a3 a4 a5 true W  hk).mono fun e W' ⟨he, bel⟩ => ?_
  subst he
  exact ⟨_, rfl, _, _, _, [], _, [], hW', trodAll_mk1 (shut_bool Try.underlying4 _), (trodAll_cons_mk (Below.trod laidOut (by kernel_rfl) (of_decide_eq_true (by kernel_rfl)) k0 bel lt0) (trodAll_cons_mk (Below.trod laidOut (by kernel_rfl) (of_decide_eq_true (by kernel_rfl)) k1 bel lt1) (trodAll_cons_mk (shut_int Try.underlying3 w2) (trodAll_cons_mk (shut_int Try.underlying3 w3) (trodAll_cons_mk (shut_int Try.underlying3 w4) (trodAll_cons_mk (shut_bool Try.underlying4 _) trodAll_mk0)))))), rfl, bel.frame _, fun h => by cases h⟩
theorem over : Rows.rulesDaysRow.holds Try.pinned (OpenSpec.ofChange Rows.rulesDaysSpec) :=
  OpenClaim.holds_of_wide 14 Try.f14 rfl rfl rfl rfl rfl rfl rfl ⟨rfl, rfl, rfl, rfl, rfl⟩ rfl rfl rfl rfl rfl (by kernel_rfl) Try.func14 (by kernel_rfl)
    (of_decide_eq_true (by kernel_rfl)) (by unfold Func.isWrapper; first | (rw [if_pos (by decide +kernel)]; kernel_rfl) | (rw [if_neg (by decide +kernel)]; exact ⟨rfl, rfl⟩))
    (fun os started H enc _ => lifted os started H enc)
theorem proved : Rows.RulesDaysSaid := over
#print axioms proved
end Go.Proofs.Ytdiijjdhofaodaa.rulesDays
namespace Go.Proofs.Ytdiijjdhofaodaa
/-- The row, under a short name, for the claim. -/
theorem rulesDays_holds : Rows.RulesDaysSaid := rulesDays.proved
end Go.Proofs.Ytdiijjdhofaodaa
end
