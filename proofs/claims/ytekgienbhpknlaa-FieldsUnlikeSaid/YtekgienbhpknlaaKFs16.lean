/- What the functions that this claim reaches do and answer: printed words and walks, walks by hand and plain laws, packed together, each with its own remark; printed rows are by the kit's print program, turned by this session. Conditions: those that each theorem states. -/
import Derived.Test.YtekgienbhpknlaaKA1
import Derived.Test.YtekgienbhpknlaaKA2
import Derived.Test.YtekgienbhpknlaaKFs15
import Derived.Test.YtekgienbhpknlaaKFs14
import Derived.Test.YtekgienbhpknlaaKA5
section
namespace Go.Proofs.Ytekgienbhpknlaa.PL
open Go.RowKit Go.Proofs.YtekgienbhpknlaaW.PrintWords Go.Proofs.YtekgienbhpknlaaW.PrintLast Go.Proofs.YtekgienbhpknlaaW.PrintMore
attribute [local go_sem] max2_int min2_int max_two min_two max_three min_three max_four min_four   -- for this text's walks alone
set_option linter.unusedVariables false
set_option linter.unusedSimpArgs false
attribute [local go_sem high] eqA46

/-! ### gatelinelaw18_FieldsUnlike: function 13 -/
def gatelinelaw18_FieldsUnlike.j0 : Nat → List (S40) → List (S40) → Bool → Int → Int → Int → Int → Int → Int → Int → Int → Int → Int → Int → Int → Int → Int → Int → Int → Int → Int → Int → Int → Int → Int → Int → Int → Int → Int → Int → Int → Int → Int → Option (Bool)
  | 0, _, _, _, _, _, _, _, _, _, _, _, _, _, _, _, _, _, _, _, _, _, _, _, _, _, _, _, _, _, _, _, _, _ => none
  | k + 1, x5, x7, x24, x434000, x434001, x434002, x434003, x434004, x434005, x434006, x434007, x434008, x434009, x434010, x434011, x434012, x434013, x434014, x435000, x435001, x435002, x435003, x435004, x435005, x435006, x435007, x435008, x435009, x435010, x435011, x435012, x435013, x435014 => if x24 = true then ((gatelinelaw18_told.f).bind fun t443 => (some t443)) else ((gatelinelaw18_told.f).bind fun t444 => (if t444 = true then ((gatelineref17_Same.f k x5 x7).bind fun t445 => (some (t445 == ((x434000 == x435000 && (x434001 == x435001 && (x434002 == x435002 && (x434003 == x435003 && (x434004 == x435004 && (x434005 == x435005 && (x434006 == x435006 && (x434007 == x435007 && (x434008 == x435008 && (x434009 == x435009 && (x434010 == x435010))))))))))) && (x434011 == x435011 && ((x434012 == x435012 && (x434013 == x435013)) && (x434014 == x435014))))))) else (some false)))
def gatelinelaw18_FieldsUnlike.f (k : Nat) (a0_0 : Int) (a0_1 : Int) (a0_2 : Int) (a0_3 : Int) (a0_4 : Int) (a0_5 : Int) (a0_6 : Int) (a0_7 : Int) (a0_8 : Int) (a0_9 : Int) (a0_10 : Int) (a0_11 : Int) (a0_12 : Int) (a0_13 : Int) (a0_14 : Int) (a1_0 : Int) (a1_1 : Int) (a1_2 : Int) (a1_3 : Int) (a1_4 : Int) (a1_5 : Int) (a1_6 : Int) (a1_7 : Int) (a1_8 : Int) (a1_9 : Int) (a1_10 : Int) (a1_11 : Int) (a1_12 : Int) (a1_13 : Int) (a1_14 : Int) : Option (Bool) := (fields_Put.f a0_0 a0_1 a0_2 a0_3 a0_4 a0_5 a0_6 a0_7 a0_8 a0_9 a0_10 a0_11 a0_12 a0_13 a0_14).bind fun bt435 => ((fields_Put.f a1_0 a1_1 a1_2 a1_3 a1_4 a1_5 a1_6 a1_7 a1_8 a1_9 a1_10 a1_11 a1_12 a1_13 a1_14).bind fun bt439 => (if bt435.2 = 0 then (gatelinelaw18_FieldsUnlike.j0 k bt435.1 bt439.1 (bt439.2 != 0) a0_0 a0_1 a0_2 a0_3 a0_4 a0_5 a0_6 a0_7 a0_8 a0_9 a0_10 a0_11 a0_12 a0_13 a0_14 a1_0 a1_1 a1_2 a1_3 a1_4 a1_5 a1_6 a1_7 a1_8 a1_9 a1_10 a1_11 a1_12 a1_13 a1_14) else (gatelinelaw18_FieldsUnlike.j0 k bt435.1 bt439.1 true a0_0 a0_1 a0_2 a0_3 a0_4 a0_5 a0_6 a0_7 a0_8 a0_9 a0_10 a0_11 a0_12 a0_13 a0_14 a1_0 a1_1 a1_2 a1_3 a1_4 a1_5 a1_6 a1_7 a1_8 a1_9 a1_10 a1_11 a1_12 a1_13 a1_14)))
theorem gatelinelaw18_FieldsUnlike.mono_l : ∀ k, (∀ y0 y1 y2 y3 y4 y5 y6 y7 y8 y9 y10 y11 y12 y13 y14 y15 y16 y17 y18 y19 y20 y21 y22 y23 y24 y25 y26 y27 y28 y29 y30 y31 y32, LeO (gatelinelaw18_FieldsUnlike.j0 k y0 y1 y2 y3 y4 y5 y6 y7 y8 y9 y10 y11 y12 y13 y14 y15 y16 y17 y18 y19 y20 y21 y22 y23 y24 y25 y26 y27 y28 y29 y30 y31 y32) (gatelinelaw18_FieldsUnlike.j0 (k + 1) y0 y1 y2 y3 y4 y5 y6 y7 y8 y9 y10 y11 y12 y13 y14 y15 y16 y17 y18 y19 y20 y21 y22 y23 y24 y25 y26 y27 y28 y29 y30 y31 y32))
  | 0 => fun _ _ _ _ _ _ _ _ _ _ _ _ _ _ _ _ _ _ _ _ _ _ _ _ _ _ _ _ _ _ _ _ _ r h => by simp [gatelinelaw18_FieldsUnlike.j0] at h
  | k + 1 => by
    have ih0 := gatelinelaw18_FieldsUnlike.mono_l k
    · intro y0 y1 y2 y3 y4 y5 y6 y7 y8 y9 y10 y11 y12 y13 y14 y15 y16 y17 y18 y19 y20 y21 y22 y23 y24 y25 y26 y27 y28 y29 y30 y31 y32
      unfold gatelinelaw18_FieldsUnlike.j0
      repeat' first
      | (with_reducible exact ih0 _ _ _ _ _ _ _ _ _ _ _ _ _ _ _ _ _ _ _ _ _ _ _ _ _ _ _ _ _ _ _ _ _)
      | (with_reducible exact gatelineref17_Same.mono _ _ _)
      | (with_reducible exact LeO.refl _)
      | (with_reducible exact LeO.none _)
      | (with_reducible refine LeO.ite ?_ ?_)
      | (with_reducible refine LeO.bind ?_ (fun _ => ?_))
      | exact ih0 _ _ _ _ _ _ _ _ _ _ _ _ _ _ _ _ _ _ _ _ _ _ _ _ _ _ _ _ _ _ _ _ _
      | exact gatelineref17_Same.mono _ _ _
      | exact LeO.none _
      | refine LeO.ite ?_ ?_
      | refine LeO.bind ?_ (fun _ => ?_)
theorem gatelinelaw18_FieldsUnlike.mono : ∀ a0 a1 a2 a3 a4 a5 a6 a7 a8 a9 a10 a11 a12 a13 a14 a15 a16 a17 a18 a19 a20 a21 a22 a23 a24 a25 a26 a27 a28 a29 k, LeO (gatelinelaw18_FieldsUnlike.f k a0 a1 a2 a3 a4 a5 a6 a7 a8 a9 a10 a11 a12 a13 a14 a15 a16 a17 a18 a19 a20 a21 a22 a23 a24 a25 a26 a27 a28 a29) (gatelinelaw18_FieldsUnlike.f (k + 1) a0 a1 a2 a3 a4 a5 a6 a7 a8 a9 a10 a11 a12 a13 a14 a15 a16 a17 a18 a19 a20 a21 a22 a23 a24 a25 a26 a27 a28 a29) := by
  intro a0 a1 a2 a3 a4 a5 a6 a7 a8 a9 a10 a11 a12 a13 a14 a15 a16 a17 a18 a19 a20 a21 a22 a23 a24 a25 a26 a27 a28 a29 k
  have ih0 := gatelinelaw18_FieldsUnlike.mono_l k
  unfold gatelinelaw18_FieldsUnlike.f
  repeat' first
      | (with_reducible exact ih0 _ _ _ _ _ _ _ _ _ _ _ _ _ _ _ _ _ _ _ _ _ _ _ _ _ _ _ _ _ _ _ _ _)
      | (with_reducible exact gatelineref17_Same.mono _ _ _)
      | (with_reducible exact LeO.refl _)
      | (with_reducible exact LeO.none _)
      | (with_reducible refine LeO.ite ?_ ?_)
      | (with_reducible refine LeO.bind ?_ (fun _ => ?_))
      | exact ih0 _ _ _ _ _ _ _ _ _ _ _ _ _ _ _ _ _ _ _ _ _ _ _ _ _ _ _ _ _ _ _ _ _
      | exact gatelineref17_Same.mono _ _ _
      | exact LeO.none _
      | refine LeO.ite ?_ ?_
      | refine LeO.bind ?_ (fun _ => ?_)
def gatelinelaw18_FieldsUnlike.T5 : Bool × List (List Nat × List Nat) := (true, [([], []), ([0, 0], [0]), ([1], [1]), ([1], [1]), ([2, 3, 1, 1], [1, 2, 3]), ([1], [1]), ([1], [1]), ([5, 6, 1], [1, 5, 6]), ([4, 7, 1], [1, 4, 7]), ([1, 8], [1, 8]), ([9, 4, 0, 1, 2, 3, 4, 5, 6, 7, 8, 9], [9])])
def gatelinelaw18_FieldsUnlike.B5 : List Nat := [0, 1, 3, 3, 15, 3, 3, 99, 255, 511, 1023]
theorem gatelinelaw18_FieldsUnlike.tab5 : rtab .any (opsOf Try.f13 5) = gatelinelaw18_FieldsUnlike.T5 := by kernel_rfl
theorem gatelinelaw18_FieldsUnlike.bits5 : waitsOk gatelinelaw18_FieldsUnlike.T5.2 gatelinelaw18_FieldsUnlike.B5 = true := by kernel_rfl
set_option maxHeartbeats 8000000 in
set_option maxRecDepth 100000 in
theorem gatelinelaw18_FieldsUnlike.calls (k : Nat) (a0_0 : Int) (a0_1 : Int) (a0_2 : Int) (a0_3 : Int) (a0_4 : Int) (a0_5 : Int) (a0_6 : Int) (a0_7 : Int) (a0_8 : Int) (a0_9 : Int) (a0_10 : Int) (a0_11 : Int) (a0_12 : Int) (a0_13 : Int) (a0_14 : Int) (a1_0 : Int) (a1_1 : Int) (a1_2 : Int) (a1_3 : Int) (a1_4 : Int) (a1_5 : Int) (a1_6 : Int) (a1_7 : Int) (a1_8 : Int) (a1_9 : Int) (a1_10 : Int) (a1_11 : Int) (a1_12 : Int) (a1_13 : Int) (a1_14 : Int) (r : Bool) (w : World) (h : gatelinelaw18_FieldsUnlike.f k a0_0 a0_1 a0_2 a0_3 a0_4 a0_5 a0_6 a0_7 a0_8 a0_9 a0_10 a0_11 a0_12 a0_13 a0_14 a1_0 a1_1 a1_2 a1_3 a1_4 a1_5 a1_6 a1_7 a1_8 a1_9 a1_10 a1_11 a1_12 a1_13 a1_14 = some r) :
    Calls Try.prog 13 #[.agg #[.int .i64 a0_0, .int .i64 a0_1, .int .i64 a0_2, .int .i64 a0_3, .int .i64 a0_4, .int .i64 a0_5, .int .i64 a0_6, .int .i64 a0_7, .int .i64 a0_8, .int .i64 a0_9, .int .i64 a0_10, .int .i64 a0_11, .int .i64 a0_12, .int .i64 a0_13, .int .i64 a0_14], .agg #[.int .i64 a1_0, .int .i64 a1_1, .int .i64 a1_2, .int .i64 a1_3, .int .i64 a1_4, .int .i64 a1_5, .int .i64 a1_6, .int .i64 a1_7, .int .i64 a1_8, .int .i64 a1_9, .int .i64 a1_10, .int .i64 a1_11, .int .i64 a1_12, .int .i64 a1_13, .int .i64 a1_14]] w fun e w' => e = .returned (.bool r) ∧ Below w.heap.size w w' := by
  have hu46 := Try.underlying46
  have HB := Aside0.mk (Below.refl w.heap.size w)
  have H : ((fields_Put.f a0_0 a0_1 a0_2 a0_3 a0_4 a0_5 a0_6 a0_7 a0_8 a0_9 a0_10 a0_11 a0_12 a0_13 a0_14).bind fun bt435 => ((fields_Put.f a1_0 a1_1 a1_2 a1_3 a1_4 a1_5 a1_6 a1_7 a1_8 a1_9 a1_10 a1_11 a1_12 a1_13 a1_14).bind fun bt439 => (if bt435.2 = 0 then (gatelinelaw18_FieldsUnlike.j0 k bt435.1 bt439.1 (bt439.2 != 0) a0_0 a0_1 a0_2 a0_3 a0_4 a0_5 a0_6 a0_7 a0_8 a0_9 a0_10 a0_11 a0_12 a0_13 a0_14 a1_0 a1_1 a1_2 a1_3 a1_4 a1_5 a1_6 a1_7 a1_8 a1_9 a1_10 a1_11 a1_12 a1_13 a1_14) else (gatelinelaw18_FieldsUnlike.j0 k bt435.1 bt439.1 true a0_0 a0_1 a0_2 a0_3 a0_4 a0_5 a0_6 a0_7 a0_8 a0_9 a0_10 a0_11 a0_12 a0_13 a0_14 a1_0 a1_1 a1_2 a1_3 a1_4 a1_5 a1_6 a1_7 a1_8 a1_9 a1_10 a1_11 a1_12 a1_13 a1_14)))) = some r := h
  clear h
  replace H := Option.bind_eq_some_iff.mp H
  obtain ⟨⟨t435, t438⟩, A30, H⟩ := H
  replace H : ((fields_Put.f a1_0 a1_1 a1_2 a1_3 a1_4 a1_5 a1_6 a1_7 a1_8 a1_9 a1_10 a1_11 a1_12 a1_13 a1_14).bind fun bt439 => (if t438 = 0 then (gatelinelaw18_FieldsUnlike.j0 k t435 bt439.1 (bt439.2 != 0) a0_0 a0_1 a0_2 a0_3 a0_4 a0_5 a0_6 a0_7 a0_8 a0_9 a0_10 a0_11 a0_12 a0_13 a0_14 a1_0 a1_1 a1_2 a1_3 a1_4 a1_5 a1_6 a1_7 a1_8 a1_9 a1_10 a1_11 a1_12 a1_13 a1_14) else (gatelinelaw18_FieldsUnlike.j0 k t435 bt439.1 true a0_0 a0_1 a0_2 a0_3 a0_4 a0_5 a0_6 a0_7 a0_8 a0_9 a0_10 a0_11 a0_12 a0_13 a0_14 a1_0 a1_1 a1_2 a1_3 a1_4 a1_5 a1_6 a1_7 a1_8 a1_9 a1_10 a1_11 a1_12 a1_13 a1_14))) = some r := H
  have A3 := Aside0.mk A30
  clear A30
  replace H := Option.bind_eq_some_iff.mp H
  obtain ⟨⟨t439, t442⟩, A40, H⟩ := H
  replace H : (if t438 = 0 then (gatelinelaw18_FieldsUnlike.j0 k t435 t439 (t442 != 0) a0_0 a0_1 a0_2 a0_3 a0_4 a0_5 a0_6 a0_7 a0_8 a0_9 a0_10 a0_11 a0_12 a0_13 a0_14 a1_0 a1_1 a1_2 a1_3 a1_4 a1_5 a1_6 a1_7 a1_8 a1_9 a1_10 a1_11 a1_12 a1_13 a1_14) else (gatelinelaw18_FieldsUnlike.j0 k t435 t439 true a0_0 a0_1 a0_2 a0_3 a0_4 a0_5 a0_6 a0_7 a0_8 a0_9 a0_10 a0_11 a0_12 a0_13 a0_14 a1_0 a1_1 a1_2 a1_3 a1_4 a1_5 a1_6 a1_7 a1_8 a1_9 a1_10 a1_11 a1_12 a1_13 a1_14)) = some r := H
  have A4 := Aside0.mk A40
  clear A40
  have HC5 := Aside0.mk H
  clear H
  go_enter Try.func13, Try.ntmps13
  go_upto_region 3 with (first | ((with_reducible refine gate_dst (N := 2) rfl ?_); refine box_event ?hg (N := 2) ?hd (cs := #[.int .i64 a0_0, .int .i64 a0_1, .int .i64 a0_2, .int .i64 a0_3, .int .i64 a0_4, .int .i64 a0_5, .int .i64 a0_6, .int .i64 a0_7, .int .i64 a0_8, .int .i64 a0_9, .int .i64 a0_10, .int .i64 a0_11, .int .i64 a0_12, .int .i64 a0_13, .int .i64 a0_14]) (t := 46) ?hr ?_; (case hd => rfl); (case hg => rfl); (case hr => first | (go_simp; done) | (go_simp; rfl)); intro gb433 hg w6 hbox hb; have n0_ := Aside0.mk (below_step (by repeat (first | (with_reducible first | exact HB.out | apply below_alloc | apply pw_below_drewN | apply below_drew1) | exact HB.out)) hb); have n1_ := Aside0.mk (hbox); have n2_ := Aside0.mk ((by rw [hg]; exact (below_size (by repeat (first | (with_reducible first | exact HB.out | apply below_alloc | apply pw_below_drewN | apply below_drew1) | exact HB.out))) : w.heap.size ≤ gb433)); have n3_ := Aside0.mk ((by rw [hg]; exact (below_size (by repeat (first | (with_reducible first | exact HB.out | apply below_alloc | apply pw_below_drewN | apply below_drew1) | exact HB.out))) : w.heap.size ≤ gb433)); clear HB; have HB := n0_; have BK433 := n1_; have GW433 := n2_; have GE433 := n3_; clear n0_ n1_ n2_ n3_; clear hb hbox hg) | ((with_reducible refine gate_dst (N := 3) rfl ?_); refine box_event ?hg (N := 3) ?hd (cs := #[.int .i64 a1_0, .int .i64 a1_1, .int .i64 a1_2, .int .i64 a1_3, .int .i64 a1_4, .int .i64 a1_5, .int .i64 a1_6, .int .i64 a1_7, .int .i64 a1_8, .int .i64 a1_9, .int .i64 a1_10, .int .i64 a1_11, .int .i64 a1_12, .int .i64 a1_13, .int .i64 a1_14]) (t := 46) ?hr ?_; (case hd => rfl); (case hg => rfl); (case hr => first | (go_simp; done) | (go_simp; rfl)); intro gb434 hg w7 hbox hb; have n0_ := Aside0.mk (blk_below (g := gb433) (o := .cells #[.int .i64 a0_0, .int .i64 a0_1, .int .i64 a0_2, .int .i64 a0_3, .int .i64 a0_4, .int .i64 a0_5, .int .i64 a0_6, .int .i64 a0_7, .int .i64 a0_8, .int .i64 a0_9, .int .i64 a0_10, .int .i64 a0_11, .int .i64 a0_12, .int .i64 a0_13, .int .i64 a0_14] 46 (0, 0)) (by (with_reducible repeat (first | refine blk_drewN ?_ _ | refine blk_drew ?_ | refine blk_alloc ?_ _)); exact BK433.out) hb); have n1_ := Aside0.mk (below_step (by repeat (first | (with_reducible first | exact HB.out | apply below_alloc | apply pw_below_drewN | apply below_drew1 | refine below_set ?_ GE433.out) | exact HB.out)) hb); have n2_ := Aside0.mk (hbox); have n3_ := Aside0.mk ((by rw [hg]; exact (below_size (by repeat (first | (with_reducible first | exact HB.out | apply below_alloc | apply pw_below_drewN | apply below_drew1 | refine below_set ?_ GE433.out) | exact HB.out))) : w.heap.size ≤ gb434)); have n4_ := Aside0.mk ((by rw [hg]; exact (below_size (by repeat (first | (with_reducible first | exact HB.out | apply below_alloc | apply pw_below_drewN | apply below_drew1 | refine below_set ?_ GE433.out) | exact HB.out))) : w.heap.size ≤ gb434)); have n5_ := Aside0.mk ((by rw [hg]; exact Nat.ne_of_lt (blk_lt (g := gb433) (o := .cells #[.int .i64 a0_0, .int .i64 a0_1, .int .i64 a0_2, .int .i64 a0_3, .int .i64 a0_4, .int .i64 a0_5, .int .i64 a0_6, .int .i64 a0_7, .int .i64 a0_8, .int .i64 a0_9, .int .i64 a0_10, .int .i64 a0_11, .int .i64 a0_12, .int .i64 a0_13, .int .i64 a0_14] 46 (0, 0)) (by (with_reducible repeat (first | refine blk_drewN ?_ _ | refine blk_drew ?_ | refine blk_alloc ?_ _)); exact BK433.out)) : gb433 ≠ gb434)); have n6_ := Aside0.mk ((by rw [hg]; exact Nat.ne_of_gt (blk_lt (g := gb433) (o := .cells #[.int .i64 a0_0, .int .i64 a0_1, .int .i64 a0_2, .int .i64 a0_3, .int .i64 a0_4, .int .i64 a0_5, .int .i64 a0_6, .int .i64 a0_7, .int .i64 a0_8, .int .i64 a0_9, .int .i64 a0_10, .int .i64 a0_11, .int .i64 a0_12, .int .i64 a0_13, .int .i64 a0_14] 46 (0, 0)) (by (with_reducible repeat (first | refine blk_drewN ?_ _ | refine blk_drew ?_ | refine blk_alloc ?_ _)); exact BK433.out)) : gb434 ≠ gb433)); clear BK433; clear HB; have BK433 := n0_; have HB := n1_; have BK434 := n2_; have GW434 := n3_; have GE434 := n4_; have NB433_434 := n5_; have NB434_433 := n6_; clear n0_ n1_ n2_ n3_ n4_ n5_ n6_; clear hb hbox hg; have hnb8 := NB433_434.out; have hnc8 := NB434_433.out; have hcz9_0 : w7.cell? ⟨gb433, 0, none⟩ = some (.int .i64 a0_0) := (blk_cell BK433.out 0).trans rfl; have hcz9_1 : w7.cell? ⟨gb433, 1, none⟩ = some (.int .i64 a0_1) := (blk_cell BK433.out 1).trans rfl; have hcz9_2 : w7.cell? ⟨gb433, 2, none⟩ = some (.int .i64 a0_2) := (blk_cell BK433.out 2).trans rfl; have hcz9_3 : w7.cell? ⟨gb433, 3, none⟩ = some (.int .i64 a0_3) := (blk_cell BK433.out 3).trans rfl; have hcz9_4 : w7.cell? ⟨gb433, 4, none⟩ = some (.int .i64 a0_4) := (blk_cell BK433.out 4).trans rfl; have hcz9_5 : w7.cell? ⟨gb433, 5, none⟩ = some (.int .i64 a0_5) := (blk_cell BK433.out 5).trans rfl; have hcz9_6 : w7.cell? ⟨gb433, 6, none⟩ = some (.int .i64 a0_6) := (blk_cell BK433.out 6).trans rfl; have hcz9_7 : w7.cell? ⟨gb433, 7, none⟩ = some (.int .i64 a0_7) := (blk_cell BK433.out 7).trans rfl; have hcz9_8 : w7.cell? ⟨gb433, 8, none⟩ = some (.int .i64 a0_8) := (blk_cell BK433.out 8).trans rfl; have hcz9_9 : w7.cell? ⟨gb433, 9, none⟩ = some (.int .i64 a0_9) := (blk_cell BK433.out 9).trans rfl; have hcz9_10 : w7.cell? ⟨gb433, 10, none⟩ = some (.int .i64 a0_10) := (blk_cell BK433.out 10).trans rfl; have hcz9_11 : w7.cell? ⟨gb433, 11, none⟩ = some (.int .i64 a0_11) := (blk_cell BK433.out 11).trans rfl; have hcz9_12 : w7.cell? ⟨gb433, 12, none⟩ = some (.int .i64 a0_12) := (blk_cell BK433.out 12).trans rfl; have hcz9_13 : w7.cell? ⟨gb433, 13, none⟩ = some (.int .i64 a0_13) := (blk_cell BK433.out 13).trans rfl; have hcz9_14 : w7.cell? ⟨gb433, 14, none⟩ = some (.int .i64 a0_14) := (blk_cell BK433.out 14).trans rfl; have hfz9_0 := blk_frozen BK433.out 0; have hfz9_1 := blk_frozen BK433.out 1; have hfz9_2 := blk_frozen BK433.out 2; have hfz9_3 := blk_frozen BK433.out 3; have hfz9_4 := blk_frozen BK433.out 4; have hfz9_5 := blk_frozen BK433.out 5; have hfz9_6 := blk_frozen BK433.out 6; have hfz9_7 := blk_frozen BK433.out 7; have hfz9_8 := blk_frozen BK433.out 8; have hfz9_9 := blk_frozen BK433.out 9; have hfz9_10 := blk_frozen BK433.out 10; have hfz9_11 := blk_frozen BK433.out 11; have hfz9_12 := blk_frozen BK433.out 12; have hfz9_13 := blk_frozen BK433.out 13; have hfz9_14 := blk_frozen BK433.out 14) | ((with_reducible refine gate_callee (f := 28) rfl ?_); refine goesL_ (some 11) rfl rfl Try.func28 (by kernel_rfl) rfl #[.agg #[.int .i64 a0_0, .int .i64 a0_1, .int .i64 a0_2, .int .i64 a0_3, .int .i64 a0_4, .int .i64 a0_5, .int .i64 a0_6, .int .i64 a0_7, .int .i64 a0_8, .int .i64 a0_9, .int .i64 a0_10, .int .i64 a0_11, .int .i64 a0_12, .int .i64 a0_13, .int .i64 a0_14]] rfl (by (try simp only [List.map_toArray, List.map_cons, List.map_nil]); first | done | rfl | (simp only [List.length_drop, List.length_take]; rfl)) ?_; (with_reducible refine (fields_Put.calls a0_0 a0_1 a0_2 a0_3 a0_4 a0_5 a0_6 a0_7 a0_8 a0_9 a0_10 a0_11 a0_12 a0_13 a0_14 t435 t438 _ A3.out).mono ?_); rintro e w10 ⟨v436, rfl, ho0, hb⟩; refine ⟨_, rfl, ?_⟩; have n0_ := Aside0.mk (Kd.N_lower (Kd.N_mono (ok' := fun k_ => k_ ≠ gb433 ∧ k_ ≠ gb434) ho0 (fun k_ hk_ => ⟨(Kd.freshB (g := gb433) (o := .cells #[.int .i64 a0_0, .int .i64 a0_1, .int .i64 a0_2, .int .i64 a0_3, .int .i64 a0_4, .int .i64 a0_5, .int .i64 a0_6, .int .i64 a0_7, .int .i64 a0_8, .int .i64 a0_9, .int .i64 a0_10, .int .i64 a0_11, .int .i64 a0_12, .int .i64 a0_13, .int .i64 a0_14] 46 (0, 0)) (by (with_reducible repeat (first | refine blk_drewN ?_ _ | refine blk_drew ?_ | refine blk_alloc ?_ _)); exact BK433.out) k_ hk_), (Kd.freshB (g := gb434) (o := .cells #[.int .i64 a1_0, .int .i64 a1_1, .int .i64 a1_2, .int .i64 a1_3, .int .i64 a1_4, .int .i64 a1_5, .int .i64 a1_6, .int .i64 a1_7, .int .i64 a1_8, .int .i64 a1_9, .int .i64 a1_10, .int .i64 a1_11, .int .i64 a1_12, .int .i64 a1_13, .int .i64 a1_14] 46 (0, 0)) (by (with_reducible repeat (first | refine blk_drewN ?_ _ | refine blk_drew ?_ | refine blk_alloc ?_ _)); exact BK434.out) k_ hk_)⟩)) (below_size (by repeat (first | (with_reducible first | exact HB.out | apply below_alloc | apply pw_below_drewN | apply below_drew1 | refine below_set ?_ GE433.out | refine below_set ?_ GE434.out) | exact HB.out)))); have n1_ := Aside0.mk (blk_below (g := gb433) (o := .cells #[.int .i64 a0_0, .int .i64 a0_1, .int .i64 a0_2, .int .i64 a0_3, .int .i64 a0_4, .int .i64 a0_5, .int .i64 a0_6, .int .i64 a0_7, .int .i64 a0_8, .int .i64 a0_9, .int .i64 a0_10, .int .i64 a0_11, .int .i64 a0_12, .int .i64 a0_13, .int .i64 a0_14] 46 (0, 0)) (by (with_reducible repeat (first | refine blk_drewN ?_ _ | refine blk_drew ?_ | refine blk_alloc ?_ _)); exact BK433.out) hb); have n2_ := Aside0.mk (blk_below (g := gb434) (o := .cells #[.int .i64 a1_0, .int .i64 a1_1, .int .i64 a1_2, .int .i64 a1_3, .int .i64 a1_4, .int .i64 a1_5, .int .i64 a1_6, .int .i64 a1_7, .int .i64 a1_8, .int .i64 a1_9, .int .i64 a1_10, .int .i64 a1_11, .int .i64 a1_12, .int .i64 a1_13, .int .i64 a1_14] 46 (0, 0)) (by (with_reducible repeat (first | refine blk_drewN ?_ _ | refine blk_drew ?_ | refine blk_alloc ?_ _)); exact BK434.out) hb); have n3_ := Aside0.mk (below_step (by repeat (first | (with_reducible first | exact HB.out | apply below_alloc | apply pw_below_drewN | apply below_drew1 | refine below_set ?_ GE433.out | refine below_set ?_ GE434.out) | exact HB.out)) hb); clear BK433; clear BK434; clear HB; have HO437 := n0_; have BK433 := n1_; have BK434 := n2_; have HB := n3_; clear n0_ n1_ n2_ n3_; (try clear hb); (try clear hb2); (try clear hk); (try clear hi); (try clear ho0); (try clear A3); have hcz11_0 : w10.cell? ⟨gb434, 0, none⟩ = some (.int .i64 a1_0) := (blk_cell BK434.out 0).trans rfl; have hcz11_1 : w10.cell? ⟨gb434, 1, none⟩ = some (.int .i64 a1_1) := (blk_cell BK434.out 1).trans rfl; have hcz11_2 : w10.cell? ⟨gb434, 2, none⟩ = some (.int .i64 a1_2) := (blk_cell BK434.out 2).trans rfl; have hcz11_3 : w10.cell? ⟨gb434, 3, none⟩ = some (.int .i64 a1_3) := (blk_cell BK434.out 3).trans rfl; have hcz11_4 : w10.cell? ⟨gb434, 4, none⟩ = some (.int .i64 a1_4) := (blk_cell BK434.out 4).trans rfl; have hcz11_5 : w10.cell? ⟨gb434, 5, none⟩ = some (.int .i64 a1_5) := (blk_cell BK434.out 5).trans rfl; have hcz11_6 : w10.cell? ⟨gb434, 6, none⟩ = some (.int .i64 a1_6) := (blk_cell BK434.out 6).trans rfl; have hcz11_7 : w10.cell? ⟨gb434, 7, none⟩ = some (.int .i64 a1_7) := (blk_cell BK434.out 7).trans rfl; have hcz11_8 : w10.cell? ⟨gb434, 8, none⟩ = some (.int .i64 a1_8) := (blk_cell BK434.out 8).trans rfl; have hcz11_9 : w10.cell? ⟨gb434, 9, none⟩ = some (.int .i64 a1_9) := (blk_cell BK434.out 9).trans rfl; have hcz11_10 : w10.cell? ⟨gb434, 10, none⟩ = some (.int .i64 a1_10) := (blk_cell BK434.out 10).trans rfl; have hcz11_11 : w10.cell? ⟨gb434, 11, none⟩ = some (.int .i64 a1_11) := (blk_cell BK434.out 11).trans rfl; have hcz11_12 : w10.cell? ⟨gb434, 12, none⟩ = some (.int .i64 a1_12) := (blk_cell BK434.out 12).trans rfl; have hcz11_13 : w10.cell? ⟨gb434, 13, none⟩ = some (.int .i64 a1_13) := (blk_cell BK434.out 13).trans rfl; have hcz11_14 : w10.cell? ⟨gb434, 14, none⟩ = some (.int .i64 a1_14) := (blk_cell BK434.out 14).trans rfl; have hfz11_0 := blk_frozen BK434.out 0; have hfz11_1 := blk_frozen BK434.out 1; have hfz11_2 := blk_frozen BK434.out 2; have hfz11_3 := blk_frozen BK434.out 3; have hfz11_4 := blk_frozen BK434.out 4; have hfz11_5 := blk_frozen BK434.out 5; have hfz11_6 := blk_frozen BK434.out 6; have hfz11_7 := blk_frozen BK434.out 7; have hfz11_8 := blk_frozen BK434.out 8; have hfz11_9 := blk_frozen BK434.out 9; have hfz11_10 := blk_frozen BK434.out 10; have hfz11_11 := blk_frozen BK434.out 11; have hfz11_12 := blk_frozen BK434.out 12; have hfz11_13 := blk_frozen BK434.out 13; have hfz11_14 := blk_frozen BK434.out 14) | ((with_reducible refine gate_callee (f := 28) rfl ?_); refine goesL_ (some 16) rfl rfl Try.func28 (by kernel_rfl) rfl #[.agg #[.int .i64 a1_0, .int .i64 a1_1, .int .i64 a1_2, .int .i64 a1_3, .int .i64 a1_4, .int .i64 a1_5, .int .i64 a1_6, .int .i64 a1_7, .int .i64 a1_8, .int .i64 a1_9, .int .i64 a1_10, .int .i64 a1_11, .int .i64 a1_12, .int .i64 a1_13, .int .i64 a1_14]] rfl (by (try simp only [List.map_toArray, List.map_cons, List.map_nil]); first | done | rfl | (simp only [List.length_drop, List.length_take]; rfl)) ?_; (with_reducible refine (fields_Put.calls a1_0 a1_1 a1_2 a1_3 a1_4 a1_5 a1_6 a1_7 a1_8 a1_9 a1_10 a1_11 a1_12 a1_13 a1_14 t439 t442 _ A4.out).mono ?_); rintro e w12 ⟨v440, rfl, ho0, hb⟩; refine ⟨_, rfl, ?_⟩; have n0_ := Aside0.mk (Kd.N_elder' (by (with_reducible repeat (first | apply Kd.N_alloc | apply Kd.N_drewN | apply Kd.N_drew)); exact HO437.out) (Kd.N_base ho0) hb); have n1_ := Aside0.mk (Kd.N_lower (Kd.N_mono (ok' := fun k_ => some k_ ≠ (v436 : Value).ownBlock ∧ k_ ≠ gb433 ∧ k_ ≠ gb434) ho0 (fun k_ hk_ => ⟨(Kd.fresh' (Kd.N_lt (by (with_reducible repeat (first | apply Kd.N_alloc | apply Kd.N_drewN | apply Kd.N_drew)); exact HO437.out)) k_ hk_), (Kd.freshB (g := gb433) (o := .cells #[.int .i64 a0_0, .int .i64 a0_1, .int .i64 a0_2, .int .i64 a0_3, .int .i64 a0_4, .int .i64 a0_5, .int .i64 a0_6, .int .i64 a0_7, .int .i64 a0_8, .int .i64 a0_9, .int .i64 a0_10, .int .i64 a0_11, .int .i64 a0_12, .int .i64 a0_13, .int .i64 a0_14] 46 (0, 0)) (by (with_reducible repeat (first | refine blk_drewN ?_ _ | refine blk_drew ?_ | refine blk_alloc ?_ _)); exact BK433.out) k_ hk_), (Kd.freshB (g := gb434) (o := .cells #[.int .i64 a1_0, .int .i64 a1_1, .int .i64 a1_2, .int .i64 a1_3, .int .i64 a1_4, .int .i64 a1_5, .int .i64 a1_6, .int .i64 a1_7, .int .i64 a1_8, .int .i64 a1_9, .int .i64 a1_10, .int .i64 a1_11, .int .i64 a1_12, .int .i64 a1_13, .int .i64 a1_14] 46 (0, 0)) (by (with_reducible repeat (first | refine blk_drewN ?_ _ | refine blk_drew ?_ | refine blk_alloc ?_ _)); exact BK434.out) k_ hk_)⟩)) (below_size (by repeat (first | (with_reducible first | exact HB.out | apply below_alloc | apply pw_below_drewN | apply below_drew1 | refine below_set ?_ GE433.out | refine below_set ?_ GE434.out) | exact HB.out)))); have n2_ := Aside0.mk (blk_below (g := gb433) (o := .cells #[.int .i64 a0_0, .int .i64 a0_1, .int .i64 a0_2, .int .i64 a0_3, .int .i64 a0_4, .int .i64 a0_5, .int .i64 a0_6, .int .i64 a0_7, .int .i64 a0_8, .int .i64 a0_9, .int .i64 a0_10, .int .i64 a0_11, .int .i64 a0_12, .int .i64 a0_13, .int .i64 a0_14] 46 (0, 0)) (by (with_reducible repeat (first | refine blk_drewN ?_ _ | refine blk_drew ?_ | refine blk_alloc ?_ _)); exact BK433.out) hb); have n3_ := Aside0.mk (blk_below (g := gb434) (o := .cells #[.int .i64 a1_0, .int .i64 a1_1, .int .i64 a1_2, .int .i64 a1_3, .int .i64 a1_4, .int .i64 a1_5, .int .i64 a1_6, .int .i64 a1_7, .int .i64 a1_8, .int .i64 a1_9, .int .i64 a1_10, .int .i64 a1_11, .int .i64 a1_12, .int .i64 a1_13, .int .i64 a1_14] 46 (0, 0)) (by (with_reducible repeat (first | refine blk_drewN ?_ _ | refine blk_drew ?_ | refine blk_alloc ?_ _)); exact BK434.out) hb); have n4_ := Aside0.mk (below_step (by repeat (first | (with_reducible first | exact HB.out | apply below_alloc | apply pw_below_drewN | apply below_drew1 | refine below_set ?_ GE433.out | refine below_set ?_ GE434.out) | exact HB.out)) hb); clear HO437; clear BK433; clear BK434; clear HB; have HO437 := n0_; have HO441 := n1_; have BK433 := n2_; have BK434 := n3_; have HB := n4_; clear n0_ n1_ n2_ n3_ n4_; (try clear hb); (try clear hb2); (try clear hk); (try clear hi); (try clear ho0); (try clear A4)))
  (try simp only [Act.put, List.setIfInBounds_toArray, List.set_cons_zero, List.set_cons_succ])
  go_cut [24] (fun v24 wc => ∃ (kq : Nat) (x24_4 : Bool), v24 = .bool x24_4 ∧ Aside0 (gatelinelaw18_FieldsUnlike.j0 kq t435 t439 x24_4 a0_0 a0_1 a0_2 a0_3 a0_4 a0_5 a0_6 a0_7 a0_8 a0_9 a0_10 a0_11 a0_12 a0_13 a0_14 a1_0 a1_1 a1_2 a1_3 a1_4 a1_5 a1_6 a1_7 a1_8 a1_9 a1_10 a1_11 a1_12 a1_13 a1_14 = some r) ∧ Aside0 (kq ≤ k) ∧ Aside0 (Kd.N k40 40 wc w.heap.size (fun k_ => some k_ ≠ (v440 : Value).ownBlock ∧ k_ ≠ gb433 ∧ k_ ≠ gb434) v436 t435) ∧ Aside0 (Kd.N k40 40 wc w.heap.size (fun k_ => some k_ ≠ (v436 : Value).ownBlock ∧ k_ ≠ gb433 ∧ k_ ≠ gb434) v440 t439) ∧ Aside0 (wc.heap[gb433]? = some (.cells #[.int .i64 a0_0, .int .i64 a0_1, .int .i64 a0_2, .int .i64 a0_3, .int .i64 a0_4, .int .i64 a0_5, .int .i64 a0_6, .int .i64 a0_7, .int .i64 a0_8, .int .i64 a0_9, .int .i64 a0_10, .int .i64 a0_11, .int .i64 a0_12, .int .i64 a0_13, .int .i64 a0_14] 46 (0, 0))) ∧ Aside0 (wc.heap[gb434]? = some (.cells #[.int .i64 a1_0, .int .i64 a1_1, .int .i64 a1_2, .int .i64 a1_3, .int .i64 a1_4, .int .i64 a1_5, .int .i64 a1_6, .int .i64 a1_7, .int .i64 a1_8, .int .i64 a1_9, .int .i64 a1_10, .int .i64 a1_11, .int .i64 a1_12, .int .i64 a1_13, .int .i64 a1_14] 46 (0, 0))) ∧ Aside0 (Below w.heap.size w wc))
  case first =>
    have H := HC5.out
    clear HC5
    by_cases c13 : t438 = 0
    · rw [if_pos c13] at H
      have c13b0 : (t438 == 0) = true := beq_iff_eq.mpr c13
      have c13b1 : (t438 != 0) = false := bne_eq_false_iff_eq.mpr c13
      clear c13
      (first | rw [c13b0] | (simp only [i64_w, i32_w]; rw [c13b0]) | skip)
      have H' := Aside0.mk H
      clear H
      go_wp2
      go_meet
      case rel => exact ⟨_, ((t442 != 0)), (by first | rfl | (simp; done) | (simp [*]; done)), H', ⟨by first | omega | exact Nat.le_refl _⟩, ⟨by (with_reducible repeat (first | apply Kd.N_alloc | apply Kd.N_drewN | apply Kd.N_drew)); exact Kd.N_mono HO437.out (fun _ hk => ⟨hk.2, ⟨hk.1.1, hk.1.2⟩⟩)⟩, ⟨by (with_reducible repeat (first | apply Kd.N_alloc | apply Kd.N_drewN | apply Kd.N_drew)); exact HO441.out⟩, ⟨by (with_reducible repeat (first | refine blk_drewN ?_ _ | refine blk_drew ?_ | refine blk_alloc ?_ _)); exact BK433.out⟩, ⟨by (with_reducible repeat (first | refine blk_drewN ?_ _ | refine blk_drew ?_ | refine blk_alloc ?_ _)); exact BK434.out⟩, ⟨by repeat (first | (with_reducible first | exact HB.out | apply below_alloc | apply pw_below_drewN | apply below_drew1 | refine below_set ?_ GE433.out | refine below_set ?_ GE434.out) | exact HB.out)⟩⟩
    · rw [if_neg c13] at H
      have c13b0 : (t438 == 0) = false := beq_eq_false_iff_ne.mpr c13
      have c13b1 : (t438 != 0) = true := bne_iff_ne.mpr c13
      (first | rw [c13b0] | (simp only [i64_w, i32_w]; rw [c13b0]) | skip)
      have H' := Aside0.mk H
      clear H
      go_wp2
      go_meet
      case rel => exact ⟨_, (true), (by first | rfl | (simp; done) | (simp [*]; done)), H', ⟨by first | omega | exact Nat.le_refl _⟩, ⟨by (with_reducible repeat (first | apply Kd.N_alloc | apply Kd.N_drewN | apply Kd.N_drew)); exact Kd.N_mono HO437.out (fun _ hk => ⟨hk.2, ⟨hk.1.1, hk.1.2⟩⟩)⟩, ⟨by (with_reducible repeat (first | apply Kd.N_alloc | apply Kd.N_drewN | apply Kd.N_drew)); exact HO441.out⟩, ⟨by (with_reducible repeat (first | refine blk_drewN ?_ _ | refine blk_drew ?_ | refine blk_alloc ?_ _)); exact BK433.out⟩, ⟨by (with_reducible repeat (first | refine blk_drewN ?_ _ | refine blk_drew ?_ | refine blk_alloc ?_ _)); exact BK434.out⟩, ⟨by repeat (first | (with_reducible first | exact HB.out | apply below_alloc | apply pw_below_drewN | apply below_drew1 | refine below_set ?_ GE433.out | refine below_set ?_ GE434.out) | exact HB.out)⟩⟩
  case rest =>
    clear HC5
    try clear c1
    try clear c2
    try clear p2
    try clear c8
    try clear c13
    try clear c13b0
    try clear c13b1
    try clear hcz11_0
    try clear hcz11_1
    try clear hcz11_10
    try clear hcz11_11
    try clear hcz11_12
    try clear hcz11_13
    try clear hcz11_14
    try clear hcz11_2
    try clear hcz11_3
    try clear hcz11_4
    try clear hcz11_5
    try clear hcz11_6
    try clear hcz11_7
    try clear hcz11_8
    try clear hcz11_9
    try clear hcz9_0
    try clear hcz9_1
    try clear hcz9_10
    try clear hcz9_11
    try clear hcz9_12
    try clear hcz9_13
    try clear hcz9_14
    try clear hcz9_2
    try clear hcz9_3
    try clear hcz9_4
    try clear hcz9_5
    try clear hcz9_6
    try clear hcz9_7
    try clear hcz9_8
    try clear hcz9_9
    try clear hfz11_0
    try clear hfz11_1
    try clear hfz11_10
    try clear hfz11_11
    try clear hfz11_12
    try clear hfz11_13
    try clear hfz11_14
    try clear hfz11_2
    try clear hfz11_3
    try clear hfz11_4
    try clear hfz11_5
    try clear hfz11_6
    try clear hfz11_7
    try clear hfz11_8
    try clear hfz11_9
    try clear hfz9_0
    try clear hfz9_1
    try clear hfz9_10
    try clear hfz9_11
    try clear hfz9_12
    try clear hfz9_13
    try clear hfz9_14
    try clear hfz9_2
    try clear hfz9_3
    try clear hfz9_4
    try clear hfz9_5
    try clear hfz9_6
    try clear hfz9_7
    try clear hfz9_8
    try clear hfz9_9
    obtain ⟨kq, x24_4, rfl, HA, HJ4, HO_5, HO_7, BK433, BK434, HB⟩ := hcut
    cases kq with
    | zero => exact absurd HA.out (by simp [gatelinelaw18_FieldsUnlike.j0])
    | succ kj4 =>
      have H := HA.out
      clear HA
      simp only [gatelinelaw18_FieldsUnlike.j0] at H
      by_cases c14 : x24_4 = true
      · subst c14
        have H1 : ((gatelinelaw18_told.f).bind fun t443 => (some t443)) = some r := by rw [if_pos rfl] at H; exact H
        clear H
        have H := H1
        clear H1
        replace H := Option.bind_eq_some_iff.mp H
        obtain ⟨t443, A150, H⟩ := H
        replace H : (some t443) = some r := H
        have A15 := Aside0.mk A150
        clear A150
        obtain rfl := Option.some.inj H
        go_wp2_with (first | ((with_reducible refine gate_callee (f := 32) rfl ?_); refine goesL_ (some 25) rfl rfl Try.func32 (by kernel_rfl) rfl #[] rfl (by (try simp only [List.map_toArray, List.map_cons, List.map_nil]); first | done | rfl | (simp only [List.length_drop, List.length_take]; rfl)) ?_; (with_reducible refine (gatelinelaw18_told.calls  t443 _ A15.out).mono ?_); rintro e w16 ⟨rfl, hb⟩; refine ⟨_, rfl, ?_⟩; have n0_ := Aside0.mk (Kd.N_below (by (with_reducible repeat (first | apply Kd.N_alloc | apply Kd.N_drewN | apply Kd.N_drew)); exact HO_5.out) hb); have n1_ := Aside0.mk (Kd.N_below (by (with_reducible repeat (first | apply Kd.N_alloc | apply Kd.N_drewN | apply Kd.N_drew)); exact HO_7.out) hb); have n2_ := Aside0.mk (blk_below (g := gb433) (o := .cells #[.int .i64 a0_0, .int .i64 a0_1, .int .i64 a0_2, .int .i64 a0_3, .int .i64 a0_4, .int .i64 a0_5, .int .i64 a0_6, .int .i64 a0_7, .int .i64 a0_8, .int .i64 a0_9, .int .i64 a0_10, .int .i64 a0_11, .int .i64 a0_12, .int .i64 a0_13, .int .i64 a0_14] 46 (0, 0)) (by (with_reducible repeat (first | refine blk_drewN ?_ _ | refine blk_drew ?_ | refine blk_alloc ?_ _)); exact BK433.out) hb); have n3_ := Aside0.mk (blk_below (g := gb434) (o := .cells #[.int .i64 a1_0, .int .i64 a1_1, .int .i64 a1_2, .int .i64 a1_3, .int .i64 a1_4, .int .i64 a1_5, .int .i64 a1_6, .int .i64 a1_7, .int .i64 a1_8, .int .i64 a1_9, .int .i64 a1_10, .int .i64 a1_11, .int .i64 a1_12, .int .i64 a1_13, .int .i64 a1_14] 46 (0, 0)) (by (with_reducible repeat (first | refine blk_drewN ?_ _ | refine blk_drew ?_ | refine blk_alloc ?_ _)); exact BK434.out) hb); have n4_ := Aside0.mk (below_step (by repeat (first | (with_reducible first | exact HB.out | apply below_alloc | apply pw_below_drewN | apply below_drew1 | refine below_set ?_ GE433.out | refine below_set ?_ GE434.out) | exact HB.out)) hb); clear HO_5; clear HO_7; clear BK433; clear BK434; clear HB; have HO_5 := n0_; have HO_7 := n1_; have BK433 := n2_; have BK434 := n3_; have HB := n4_; clear n0_ n1_ n2_ n3_ n4_; (try clear hb); (try clear hb2); (try clear hk); (try clear hi); (try clear A15)))
        go_ret
        exact ⟨by first | rfl | (simp [errW_none, errW_some] <;> rfl) | (simp [*, errW_none, errW_some] <;> rfl), by repeat (first | (with_reducible first | exact HB.out | apply below_alloc | apply pw_below_drewN | apply below_drew1 | refine below_set ?_ GE433.out | refine below_set ?_ GE434.out) | exact HB.out)⟩
      · replace c14 := Bool.eq_false_iff.mpr c14
        subst c14
        have H1 : ((gatelinelaw18_told.f).bind fun t444 => (if t444 = true then ((gatelineref17_Same.f kj4 t435 t439).bind fun t445 => (some (t445 == ((a0_0 == a1_0 && (a0_1 == a1_1 && (a0_2 == a1_2 && (a0_3 == a1_3 && (a0_4 == a1_4 && (a0_5 == a1_5 && (a0_6 == a1_6 && (a0_7 == a1_7 && (a0_8 == a1_8 && (a0_9 == a1_9 && (a0_10 == a1_10))))))))))) && (a0_11 == a1_11 && ((a0_12 == a1_12 && (a0_13 == a1_13)) && (a0_14 == a1_14))))))) else (some false))) = some r := by rw [if_neg (show ¬ (false = true) by decide)] at H; exact H
        clear H
        have H := H1
        clear H1
        replace H := Option.bind_eq_some_iff.mp H
        obtain ⟨t444, A170, H⟩ := H
        replace H : (if t444 = true then ((gatelineref17_Same.f kj4 t435 t439).bind fun t445 => (some (t445 == ((a0_0 == a1_0 && (a0_1 == a1_1 && (a0_2 == a1_2 && (a0_3 == a1_3 && (a0_4 == a1_4 && (a0_5 == a1_5 && (a0_6 == a1_6 && (a0_7 == a1_7 && (a0_8 == a1_8 && (a0_9 == a1_9 && (a0_10 == a1_10))))))))))) && (a0_11 == a1_11 && ((a0_12 == a1_12 && (a0_13 == a1_13)) && (a0_14 == a1_14))))))) else (some false)) = some r := H
        have A17 := Aside0.mk A170
        clear A170
        by_cases c18 : t444 = true
        · subst c18
          have H1 : ((gatelineref17_Same.f kj4 t435 t439).bind fun t445 => (some (t445 == ((a0_0 == a1_0 && (a0_1 == a1_1 && (a0_2 == a1_2 && (a0_3 == a1_3 && (a0_4 == a1_4 && (a0_5 == a1_5 && (a0_6 == a1_6 && (a0_7 == a1_7 && (a0_8 == a1_8 && (a0_9 == a1_9 && (a0_10 == a1_10))))))))))) && (a0_11 == a1_11 && ((a0_12 == a1_12 && (a0_13 == a1_13)) && (a0_14 == a1_14))))))) = some r := by rw [if_pos rfl] at H; exact H
          clear H
          have H := H1
          clear H1
          replace H := Option.bind_eq_some_iff.mp H
          obtain ⟨t445, A190, H⟩ := H
          replace H : (some (t445 == ((a0_0 == a1_0 && (a0_1 == a1_1 && (a0_2 == a1_2 && (a0_3 == a1_3 && (a0_4 == a1_4 && (a0_5 == a1_5 && (a0_6 == a1_6 && (a0_7 == a1_7 && (a0_8 == a1_8 && (a0_9 == a1_9 && (a0_10 == a1_10))))))))))) && (a0_11 == a1_11 && ((a0_12 == a1_12 && (a0_13 == a1_13)) && (a0_14 == a1_14)))))) = some r := H
          have A19 := Aside0.mk A190
          clear A190
          obtain rfl := Option.some.inj H
          try go_wp2
          have n0_ := Aside0.mk (Kd.N_drew HO_5.out)
          have n1_ := Aside0.mk (Kd.N_drew HO_7.out)
          have n2_ := Aside0.mk (blk_drew BK433.out)
          have n3_ := Aside0.mk (blk_drew BK434.out)
          have n4_ := Aside0.mk (below_drew1 HB.out)
          clear HO_5
          clear HO_7
          clear BK433
          clear BK434
          clear HB
          have HO_5 := n0_
          have HO_7 := n1_
          have BK433 := n2_
          have BK434 := n3_
          have HB := n4_
          clear n0_ n1_ n2_ n3_ n4_
          refine start_ (n := 11) (S := fun w' => w'.cell? ⟨gb433, 0, none⟩ = some (.int .i64 a0_0) ∧ w'.cell? ⟨gb433, 1, none⟩ = some (.int .i64 a0_1) ∧ w'.cell? ⟨gb433, 2, none⟩ = some (.int .i64 a0_2) ∧ w'.cell? ⟨gb433, 3, none⟩ = some (.int .i64 a0_3) ∧ w'.cell? ⟨gb433, 4, none⟩ = some (.int .i64 a0_4) ∧ w'.cell? ⟨gb433, 5, none⟩ = some (.int .i64 a0_5) ∧ w'.cell? ⟨gb433, 6, none⟩ = some (.int .i64 a0_6) ∧ w'.cell? ⟨gb433, 7, none⟩ = some (.int .i64 a0_7) ∧ w'.cell? ⟨gb433, 8, none⟩ = some (.int .i64 a0_8) ∧ w'.cell? ⟨gb433, 9, none⟩ = some (.int .i64 a0_9) ∧ w'.cell? ⟨gb433, 10, none⟩ = some (.int .i64 a0_10) ∧ w'.cell? ⟨gb433, 11, none⟩ = some (.int .i64 a0_11) ∧ w'.cell? ⟨gb433, 12, none⟩ = some (.int .i64 a0_12) ∧ w'.cell? ⟨gb433, 13, none⟩ = some (.int .i64 a0_13) ∧ w'.cell? ⟨gb433, 14, none⟩ = some (.int .i64 a0_14) ∧ w'.cell? ⟨gb434, 0, none⟩ = some (.int .i64 a1_0) ∧ w'.cell? ⟨gb434, 1, none⟩ = some (.int .i64 a1_1) ∧ w'.cell? ⟨gb434, 2, none⟩ = some (.int .i64 a1_2) ∧ w'.cell? ⟨gb434, 3, none⟩ = some (.int .i64 a1_3) ∧ w'.cell? ⟨gb434, 4, none⟩ = some (.int .i64 a1_4) ∧ w'.cell? ⟨gb434, 5, none⟩ = some (.int .i64 a1_5) ∧ w'.cell? ⟨gb434, 6, none⟩ = some (.int .i64 a1_6) ∧ w'.cell? ⟨gb434, 7, none⟩ = some (.int .i64 a1_7) ∧ w'.cell? ⟨gb434, 8, none⟩ = some (.int .i64 a1_8) ∧ w'.cell? ⟨gb434, 9, none⟩ = some (.int .i64 a1_9) ∧ w'.cell? ⟨gb434, 10, none⟩ = some (.int .i64 a1_10) ∧ w'.cell? ⟨gb434, 11, none⟩ = some (.int .i64 a1_11) ∧ w'.cell? ⟨gb434, 12, none⟩ = some (.int .i64 a1_12) ∧ w'.cell? ⟨gb434, 13, none⟩ = some (.int .i64 a1_13) ∧ w'.cell? ⟨gb434, 14, none⟩ = some (.int .i64 a1_14)) (ds := []) #[false, false, false, false, false, false, false, false, false, false, false] (by kernel_rfl) rfl rfl ⟨(blk_cell BK433.out 0).trans rfl, (blk_cell BK433.out 1).trans rfl, (blk_cell BK433.out 2).trans rfl, (blk_cell BK433.out 3).trans rfl, (blk_cell BK433.out 4).trans rfl, (blk_cell BK433.out 5).trans rfl, (blk_cell BK433.out 6).trans rfl, (blk_cell BK433.out 7).trans rfl, (blk_cell BK433.out 8).trans rfl, (blk_cell BK433.out 9).trans rfl, (blk_cell BK433.out 10).trans rfl, (blk_cell BK433.out 11).trans rfl, (blk_cell BK433.out 12).trans rfl, (blk_cell BK433.out 13).trans rfl, (blk_cell BK433.out 14).trans rfl, (blk_cell BK434.out 0).trans rfl, (blk_cell BK434.out 1).trans rfl, (blk_cell BK434.out 2).trans rfl, (blk_cell BK434.out 3).trans rfl, (blk_cell BK434.out 4).trans rfl, (blk_cell BK434.out 5).trans rfl, (blk_cell BK434.out 6).trans rfl, (blk_cell BK434.out 7).trans rfl, (blk_cell BK434.out 8).trans rfl, (blk_cell BK434.out 9).trans rfl, (blk_cell BK434.out 10).trans rfl, (blk_cell BK434.out 11).trans rfl, (blk_cell BK434.out 12).trans rfl, (blk_cell BK434.out 13).trans rfl, (blk_cell BK434.out 14).trans rfl⟩ (fun hHeld => ?_); refine with_tabW gatelinelaw18_FieldsUnlike.tab5 gatelinelaw18_FieldsUnlike.bits5 (fun HT_ HW_ => ?_)
          generalize wc.drew = w20 at HO_5 HO_7 BK433 BK434 HB hHeld ⊢
          refine one_ (i := 0) (N := some 26) #[true, false, false, false, false, false, false, false, false, false, false] rfl rfl (one_of HT_.out (by kernel_rfl)) (by decide) (fun K hK => ?_)
          refine goes_ Try.func32 (by kernel_rfl) rfl #[] (by rfl) rfl rfl (by (try simp only [List.map_toArray, List.map_cons, List.map_nil]); first | done | rfl | (simp only [List.length_drop, List.length_take]; rfl)) ?_
          with_reducible refine (gatelinelaw18_told.calls  true _ A17.out).mono ?_
          rintro e w21 ⟨rfl, hb⟩
          refine ⟨_, rfl, ?_⟩
          have n0_ := Aside0.mk (Kd.N_below (by (with_reducible repeat (first | apply Kd.N_alloc | apply Kd.N_drewN | apply Kd.N_drew)); exact HO_5.out) hb)
          have n1_ := Aside0.mk (Kd.N_below (by (with_reducible repeat (first | apply Kd.N_alloc | apply Kd.N_drewN | apply Kd.N_drew)); exact HO_7.out) hb)
          have n2_ := Aside0.mk (blk_below (g := gb433) (o := .cells #[.int .i64 a0_0, .int .i64 a0_1, .int .i64 a0_2, .int .i64 a0_3, .int .i64 a0_4, .int .i64 a0_5, .int .i64 a0_6, .int .i64 a0_7, .int .i64 a0_8, .int .i64 a0_9, .int .i64 a0_10, .int .i64 a0_11, .int .i64 a0_12, .int .i64 a0_13, .int .i64 a0_14] 46 (0, 0)) (by (with_reducible repeat (first | refine blk_drewN ?_ _ | refine blk_drew ?_ | refine blk_alloc ?_ _)); exact BK433.out) hb)
          have n3_ := Aside0.mk (blk_below (g := gb434) (o := .cells #[.int .i64 a1_0, .int .i64 a1_1, .int .i64 a1_2, .int .i64 a1_3, .int .i64 a1_4, .int .i64 a1_5, .int .i64 a1_6, .int .i64 a1_7, .int .i64 a1_8, .int .i64 a1_9, .int .i64 a1_10, .int .i64 a1_11, .int .i64 a1_12, .int .i64 a1_13, .int .i64 a1_14] 46 (0, 0)) (by (with_reducible repeat (first | refine blk_drewN ?_ _ | refine blk_drew ?_ | refine blk_alloc ?_ _)); exact BK434.out) hb)
          have n4_ := Aside0.mk (below_step (by repeat (first | (with_reducible first | exact HB.out | apply below_alloc | apply pw_below_drewN | apply below_drew1 | refine below_set ?_ GE433.out | refine below_set ?_ GE434.out) | exact HB.out)) hb)
          clear HO_5
          clear HO_7
          clear BK433
          clear BK434
          clear HB
          have HO_5 := n0_
          have HO_7 := n1_
          have BK433 := n2_
          have BK434 := n3_
          have HB := n4_
          clear n0_ n1_ n2_ n3_ n4_
          (try clear hb)
          (try clear hb2)
          (try clear hk)
          (try clear hi)
          obtain ⟨Ao22, co22, eo22⟩ := Kd.N_slice HO_5.out
          (first | subst eo22 | (injection eo22 with f1_ f2_ f3_; have f4_ := f1_.symm; have f5_ := f3_.symm; clear f1_ f2_ f3_; subst f4_; subst f5_))
          obtain ⟨Ao23, co23, eo23⟩ := Kd.N_slice HO_7.out
          (first | subst eo23 | (injection eo23 with f1_ f2_ f3_; have f4_ := f1_.symm; have f5_ := f3_.symm; clear f1_ f2_ f3_; subst f4_; subst f5_))
          refine hK.out _ _ ⟨(blk_cell BK433.out 0).trans rfl, (blk_cell BK433.out 1).trans rfl, (blk_cell BK433.out 2).trans rfl, (blk_cell BK433.out 3).trans rfl, (blk_cell BK433.out 4).trans rfl, (blk_cell BK433.out 5).trans rfl, (blk_cell BK433.out 6).trans rfl, (blk_cell BK433.out 7).trans rfl, (blk_cell BK433.out 8).trans rfl, (blk_cell BK433.out 9).trans rfl, (blk_cell BK433.out 10).trans rfl, (blk_cell BK433.out 11).trans rfl, (blk_cell BK433.out 12).trans rfl, (blk_cell BK433.out 13).trans rfl, (blk_cell BK433.out 14).trans rfl, (blk_cell BK434.out 0).trans rfl, (blk_cell BK434.out 1).trans rfl, (blk_cell BK434.out 2).trans rfl, (blk_cell BK434.out 3).trans rfl, (blk_cell BK434.out 4).trans rfl, (blk_cell BK434.out 5).trans rfl, (blk_cell BK434.out 6).trans rfl, (blk_cell BK434.out 7).trans rfl, (blk_cell BK434.out 8).trans rfl, (blk_cell BK434.out 9).trans rfl, (blk_cell BK434.out 10).trans rfl, (blk_cell BK434.out 11).trans rfl, (blk_cell BK434.out 12).trans rfl, (blk_cell BK434.out 13).trans rfl, (blk_cell BK434.out 14).trans rfl⟩ (fun hHeld => ?_)
          clear hK K
          refine norm_ (a' := ?_) ?_ ?_
          rotate_left
          · show Act.put _ (some 26) _ = _
            simp only [Act.put, List.setIfInBounds_toArray, List.set_cons_zero, List.set_cons_succ, i64_w, i32_w]
            rfl
          refine pure_ (i := 1) (N := some 27) (v := ?_) (a' := ?_) #[true, true, false, false, false, false, false, false, false, false, false] rfl rfl (any_of HT_.out (by kernel_rfl)) (fun _ _ _ h => h) (Or.inl ⟨by rfl, ?_⟩) ?_ ?_
          rotate_left
          · intro w'
            go_simp
            with_reducible rfl
          rotate_left
          · simp only [Act.put, List.setIfInBounds_toArray, List.set_cons_zero, List.set_cons_succ, i64_w, i32_w]
            rfl
          refine pure_ (i := 2) (N := some 28) (v := ?_) (a' := ?_) #[true, true, true, false, false, false, false, false, false, false, false] rfl rfl (any_of HT_.out (by kernel_rfl)) (fun _ _ _ h => h) (Or.inl ⟨by rfl, ?_⟩) ?_ ?_
          rotate_left
          · intro w'
            go_simp
            with_reducible rfl
          rotate_left
          · simp only [Act.put, List.setIfInBounds_toArray, List.set_cons_zero, List.set_cons_succ, i64_w, i32_w]
            rfl
          refine pure_ (i := 3) (N := some 29) (v := ?_) (a' := ?_) #[true, true, true, true, false, false, false, false, false, false, false] rfl rfl (any_of HT_.out (by kernel_rfl)) (fun _ _ _ h => h) (Or.inl ⟨by rfl, ?_⟩) ?_ ?_
          rotate_left
          · intro w'
            go_simp
            with_reducible rfl
          rotate_left
          · simp only [Act.put, List.setIfInBounds_toArray, List.set_cons_zero, List.set_cons_succ, i64_w, i32_w]
            rfl
          refine take_ (i := 5) (N := some 31) (v := ?_) (a' := ?_) #[true, true, true, true, false, true, false, false, false, false, false] rfl rfl (take_ofW HT_.out HW_.out (by kernel_rfl)) (fun _ _ _ h => h) (Or.inl ⟨by rfl, ?_⟩) hHeld ?_ ?_
          rotate_left
          · rintro w' ⟨s0, s1, s2, s3, s4, s5, s6, s7, s8, s9, s10, s11, s12, s13, s14, s15, s16, s17, s18, s19, s20, s21, s22, s23, s24, s25, s26, s27, s28, s29⟩
            go_simp
            with_reducible rfl
          rotate_left
          · simp only [Act.put, List.setIfInBounds_toArray, List.set_cons_zero, List.set_cons_succ, i64_w, i32_w]
            rfl
          refine take_ (i := 6) (N := some 32) (v := ?_) (a' := ?_) #[true, true, true, true, false, true, true, false, false, false, false] rfl rfl (take_ofW HT_.out HW_.out (by kernel_rfl)) (fun _ _ _ h => h) (Or.inl ⟨by rfl, ?_⟩) hHeld ?_ ?_
          rotate_left
          · rintro w' ⟨s0, s1, s2, s3, s4, s5, s6, s7, s8, s9, s10, s11, s12, s13, s14, s15, s16, s17, s18, s19, s20, s21, s22, s23, s24, s25, s26, s27, s28, s29⟩
            go_simp
            with_reducible rfl
          rotate_left
          · simp only [Act.put, List.setIfInBounds_toArray, List.set_cons_zero, List.set_cons_succ, i64_w, i32_w]
            rfl
          refine pure_ (i := 7) (N := some 33) (v := ?_) (a' := ?_) #[true, true, true, true, false, true, true, true, false, false, false] rfl rfl (any_of HT_.out (by kernel_rfl)) (fun _ _ _ h => h) (Or.inl ⟨by rfl, ?_⟩) ?_ ?_
          rotate_left
          · intro w'
            go_simp
            with_reducible rfl
          rotate_left
          · simp only [Act.put, List.setIfInBounds_toArray, List.set_cons_zero, List.set_cons_succ, i64_w, i32_w]
            rfl
          refine one_ (i := 4) (N := some 30) #[true, true, true, true, true, true, true, true, false, false, false] rfl rfl (one_of HT_.out (by kernel_rfl)) (by decide) (fun K hK => ?_)
          refine goes_ Try.func23 (by kernel_rfl) rfl #[.slice Ao22 t435.length co22, .slice Ao23 t439.length co23] (by rfl) rfl rfl (by (try simp only [List.map_toArray, List.map_cons, List.map_nil]); first | done | rfl | (simp only [List.length_drop, List.length_take]; rfl)) ?_
          with_reducible refine (gatelineref17_Same.calls kj4 _ _ t435 _ _ t439 t445 _ ?side1 ?side2 ?side3 ?side4 A19.out).mono ?_
          (case side1 => repeat (first | exact (Kd.N_reads' HO_5.out).2.2 | (with_reducible refine Kd.C_alloc ?_ _) | (with_reducible refine Kd.C_drewN ?_ _) | (with_reducible refine Kd.C_drew ?_)))
          (case side2 => exact (Kd.N_reads' HO_5.out).2.1)
          (case side3 => repeat (first | exact (Kd.N_reads' HO_7.out).2.2 | (with_reducible refine Kd.C_alloc ?_ _) | (with_reducible refine Kd.C_drewN ?_ _) | (with_reducible refine Kd.C_drew ?_)))
          (case side4 => exact (Kd.N_reads' HO_7.out).2.1)
          rintro e w' ⟨rfl, ⟨nd, rfl⟩⟩
          refine ⟨_, rfl, ?_⟩
          refine hK.out _ _ ⟨(blk_cell BK433.out 0).trans rfl, (blk_cell BK433.out 1).trans rfl, (blk_cell BK433.out 2).trans rfl, (blk_cell BK433.out 3).trans rfl, (blk_cell BK433.out 4).trans rfl, (blk_cell BK433.out 5).trans rfl, (blk_cell BK433.out 6).trans rfl, (blk_cell BK433.out 7).trans rfl, (blk_cell BK433.out 8).trans rfl, (blk_cell BK433.out 9).trans rfl, (blk_cell BK433.out 10).trans rfl, (blk_cell BK433.out 11).trans rfl, (blk_cell BK433.out 12).trans rfl, (blk_cell BK433.out 13).trans rfl, (blk_cell BK433.out 14).trans rfl, (blk_cell BK434.out 0).trans rfl, (blk_cell BK434.out 1).trans rfl, (blk_cell BK434.out 2).trans rfl, (blk_cell BK434.out 3).trans rfl, (blk_cell BK434.out 4).trans rfl, (blk_cell BK434.out 5).trans rfl, (blk_cell BK434.out 6).trans rfl, (blk_cell BK434.out 7).trans rfl, (blk_cell BK434.out 8).trans rfl, (blk_cell BK434.out 9).trans rfl, (blk_cell BK434.out 10).trans rfl, (blk_cell BK434.out 11).trans rfl, (blk_cell BK434.out 12).trans rfl, (blk_cell BK434.out 13).trans rfl, (blk_cell BK434.out 14).trans rfl⟩ (fun hHeld => ?_)
          clear hK K
          refine norm_ (a' := ?_) ?_ ?_
          rotate_left
          · show Act.put _ (some 30) _ = _
            simp only [Act.put, List.setIfInBounds_toArray, List.set_cons_zero, List.set_cons_succ, i64_w, i32_w]
            rfl
          refine pure_ (i := 8) (N := some 34) (v := ?_) (a' := ?_) #[true, true, true, true, true, true, true, true, true, false, false] rfl rfl (any_of HT_.out (by kernel_rfl)) (fun _ _ _ h => h) (Or.inl ⟨by rfl, ?_⟩) ?_ ?_
          rotate_left
          · intro w'
            go_simp
            with_reducible rfl
          rotate_left
          · simp only [Act.put, List.setIfInBounds_toArray, List.set_cons_zero, List.set_cons_succ, i64_w, i32_w]
            rfl
          refine pure_ (i := 9) (N := some 35) (v := ?_) (a' := ?_) #[true, true, true, true, true, true, true, true, true, true, false] rfl rfl (any_of HT_.out (by kernel_rfl)) (fun _ _ _ h => h) (Or.inl ⟨by rfl, ?_⟩) ?_ ?_
          rotate_left
          · intro w'
            go_simp
            with_reducible rfl
          rotate_left
          · simp only [Act.put, List.setIfInBounds_toArray, List.set_cons_zero, List.set_cons_succ, i64_w, i32_w]
            rfl
          refine pure_ (i := 10) (N := some 4) (v := ?_) (a' := ?_) #[true, true, true, true, true, true, true, true, true, true, true] rfl rfl (any_of HT_.out (by kernel_rfl)) (fun _ _ _ h => h) (Or.inl ⟨by rfl, ?_⟩) ?_ ?_
          rotate_left
          · intro w'
            go_simp
            with_reducible rfl
          rotate_left
          · simp only [Act.put, List.setIfInBounds_toArray, List.set_cons_zero, List.set_cons_succ, i64_w, i32_w]
            rfl
          refine done_ (done_of HT_.out (by kernel_rfl)) ?_
          try go_wp2
          go_ret
          exact ⟨by first | rfl | (simp [errW_none, errW_some] <;> rfl) | (simp [*, errW_none, errW_some] <;> rfl), by repeat (first | (with_reducible first | exact HB.out | apply below_alloc | apply pw_below_drewN | apply below_drew1 | refine below_set ?_ GE433.out | refine below_set ?_ GE434.out) | exact HB.out)⟩
        · replace c18 := Bool.eq_false_iff.mpr c18
          subst c18
          have H1 : (some false) = some r := by rw [if_neg (show ¬ (false = true) by decide)] at H; exact H
          clear H
          have H := H1
          clear H1
          obtain rfl := Option.some.inj H
          try go_wp2
          have n0_ := Aside0.mk (Kd.N_drew HO_5.out)
          have n1_ := Aside0.mk (Kd.N_drew HO_7.out)
          have n2_ := Aside0.mk (blk_drew BK433.out)
          have n3_ := Aside0.mk (blk_drew BK434.out)
          have n4_ := Aside0.mk (below_drew1 HB.out)
          clear HO_5
          clear HO_7
          clear BK433
          clear BK434
          clear HB
          have HO_5 := n0_
          have HO_7 := n1_
          have BK433 := n2_
          have BK434 := n3_
          have HB := n4_
          clear n0_ n1_ n2_ n3_ n4_
          refine start_ (n := 11) (S := fun w' => True) (ds := []) #[false, false, false, false, false, false, false, false, false, false, false] (by kernel_rfl) rfl rfl trivial (fun hHeld => ?_); refine with_tabW gatelinelaw18_FieldsUnlike.tab5 gatelinelaw18_FieldsUnlike.bits5 (fun HT_ HW_ => ?_)
          generalize wc.drew = w24 at HO_5 HO_7 BK433 BK434 HB hHeld ⊢
          refine one_ (i := 0) (N := some 26) #[true, false, false, false, false, false, false, false, false, false, false] rfl rfl (one_of HT_.out (by kernel_rfl)) (by decide) (fun K hK => ?_)
          refine goes_ Try.func32 (by kernel_rfl) rfl #[] (by rfl) rfl rfl (by (try simp only [List.map_toArray, List.map_cons, List.map_nil]); first | done | rfl | (simp only [List.length_drop, List.length_take]; rfl)) ?_
          with_reducible refine (gatelinelaw18_told.calls  false _ A17.out).mono ?_
          rintro e w25 ⟨rfl, hb⟩
          refine ⟨_, rfl, ?_⟩
          have n0_ := Aside0.mk (Kd.N_below (by (with_reducible repeat (first | apply Kd.N_alloc | apply Kd.N_drewN | apply Kd.N_drew)); exact HO_5.out) hb)
          have n1_ := Aside0.mk (Kd.N_below (by (with_reducible repeat (first | apply Kd.N_alloc | apply Kd.N_drewN | apply Kd.N_drew)); exact HO_7.out) hb)
          have n2_ := Aside0.mk (blk_below (g := gb433) (o := .cells #[.int .i64 a0_0, .int .i64 a0_1, .int .i64 a0_2, .int .i64 a0_3, .int .i64 a0_4, .int .i64 a0_5, .int .i64 a0_6, .int .i64 a0_7, .int .i64 a0_8, .int .i64 a0_9, .int .i64 a0_10, .int .i64 a0_11, .int .i64 a0_12, .int .i64 a0_13, .int .i64 a0_14] 46 (0, 0)) (by (with_reducible repeat (first | refine blk_drewN ?_ _ | refine blk_drew ?_ | refine blk_alloc ?_ _)); exact BK433.out) hb)
          have n3_ := Aside0.mk (blk_below (g := gb434) (o := .cells #[.int .i64 a1_0, .int .i64 a1_1, .int .i64 a1_2, .int .i64 a1_3, .int .i64 a1_4, .int .i64 a1_5, .int .i64 a1_6, .int .i64 a1_7, .int .i64 a1_8, .int .i64 a1_9, .int .i64 a1_10, .int .i64 a1_11, .int .i64 a1_12, .int .i64 a1_13, .int .i64 a1_14] 46 (0, 0)) (by (with_reducible repeat (first | refine blk_drewN ?_ _ | refine blk_drew ?_ | refine blk_alloc ?_ _)); exact BK434.out) hb)
          have n4_ := Aside0.mk (below_step (by repeat (first | (with_reducible first | exact HB.out | apply below_alloc | apply pw_below_drewN | apply below_drew1 | refine below_set ?_ GE433.out | refine below_set ?_ GE434.out) | exact HB.out)) hb)
          clear HO_5
          clear HO_7
          clear BK433
          clear BK434
          clear HB
          have HO_5 := n0_
          have HO_7 := n1_
          have BK433 := n2_
          have BK434 := n3_
          have HB := n4_
          clear n0_ n1_ n2_ n3_ n4_
          (try clear hb)
          (try clear hb2)
          (try clear hk)
          (try clear hi)
          refine hK.out _ _ trivial (fun hHeld => ?_)
          clear hK K
          refine norm_ (a' := ?_) ?_ ?_
          rotate_left
          · show Act.put _ (some 26) _ = _
            simp only [Act.put, List.setIfInBounds_toArray, List.set_cons_zero, List.set_cons_succ, i64_w, i32_w]
            rfl
          refine pure_ (i := 1) (N := some 27) (v := ?_) (a' := ?_) #[true, true, false, false, false, false, false, false, false, false, false] rfl rfl (any_of HT_.out (by kernel_rfl)) (fun _ _ _ h => h) (Or.inl ⟨by rfl, ?_⟩) ?_ ?_
          rotate_left
          · intro w'
            go_simp
            with_reducible rfl
          rotate_left
          · simp only [Act.put, List.setIfInBounds_toArray, List.set_cons_zero, List.set_cons_succ, i64_w, i32_w]
            rfl
          refine pure_ (i := 2) (N := some 28) (v := undef) (a' := ?_) #[true, true, true, false, false, false, false, false, false, false, false] rfl rfl (any_of HT_.out (by kernel_rfl)) (fun _ _ _ h => h) (Or.inr ⟨by rfl, rfl⟩) ?_ ?_
          rotate_left
          · simp only [Act.put, List.setIfInBounds_toArray, List.set_cons_zero, List.set_cons_succ, i64_w, i32_w]
            rfl
          refine pure_ (i := 3) (N := some 29) (v := undef) (a' := ?_) #[true, true, true, true, false, false, false, false, false, false, false] rfl rfl (any_of HT_.out (by kernel_rfl)) (fun _ _ _ h => h) (Or.inr ⟨by rfl, rfl⟩) ?_ ?_
          rotate_left
          · simp only [Act.put, List.setIfInBounds_toArray, List.set_cons_zero, List.set_cons_succ, i64_w, i32_w]
            rfl
          refine pure_ (i := 4) (N := some 30) (v := undef) (a' := ?_) #[true, true, true, true, true, false, false, false, false, false, false] rfl rfl (any_of HT_.out (by kernel_rfl)) (fun _ _ _ h => h) (Or.inr ⟨by rfl, rfl⟩) ?_ ?_
          rotate_left
          · simp only [Act.put, List.setIfInBounds_toArray, List.set_cons_zero, List.set_cons_succ, i64_w, i32_w]
            rfl
          refine pure_ (i := 5) (N := some 31) (v := undef) (a' := ?_) #[true, true, true, true, true, true, false, false, false, false, false] rfl rfl (any_of HT_.out (by kernel_rfl)) (fun _ _ _ h => h) (Or.inr ⟨by rfl, rfl⟩) ?_ ?_
          rotate_left
          · simp only [Act.put, List.setIfInBounds_toArray, List.set_cons_zero, List.set_cons_succ, i64_w, i32_w]
            rfl
          refine pure_ (i := 6) (N := some 32) (v := undef) (a' := ?_) #[true, true, true, true, true, true, true, false, false, false, false] rfl rfl (any_of HT_.out (by kernel_rfl)) (fun _ _ _ h => h) (Or.inr ⟨by rfl, rfl⟩) ?_ ?_
          rotate_left
          · simp only [Act.put, List.setIfInBounds_toArray, List.set_cons_zero, List.set_cons_succ, i64_w, i32_w]
            rfl
          refine pure_ (i := 7) (N := some 33) (v := undef) (a' := ?_) #[true, true, true, true, true, true, true, true, false, false, false] rfl rfl (any_of HT_.out (by kernel_rfl)) (fun _ _ _ h => h) (Or.inr ⟨by rfl, rfl⟩) ?_ ?_
          rotate_left
          · simp only [Act.put, List.setIfInBounds_toArray, List.set_cons_zero, List.set_cons_succ, i64_w, i32_w]
            rfl
          refine pure_ (i := 8) (N := some 34) (v := undef) (a' := ?_) #[true, true, true, true, true, true, true, true, true, false, false] rfl rfl (any_of HT_.out (by kernel_rfl)) (fun _ _ _ h => h) (Or.inr ⟨by rfl, rfl⟩) ?_ ?_
          rotate_left
          · simp only [Act.put, List.setIfInBounds_toArray, List.set_cons_zero, List.set_cons_succ, i64_w, i32_w]
            rfl
          refine pure_ (i := 9) (N := some 35) (v := ?_) (a' := ?_) #[true, true, true, true, true, true, true, true, true, true, false] rfl rfl (any_of HT_.out (by kernel_rfl)) (fun _ _ _ h => h) (Or.inl ⟨by rfl, ?_⟩) ?_ ?_
          rotate_left
          · intro w'
            go_simp
            with_reducible rfl
          rotate_left
          · simp only [Act.put, List.setIfInBounds_toArray, List.set_cons_zero, List.set_cons_succ, i64_w, i32_w]
            rfl
          refine pure_ (i := 10) (N := some 4) (v := ?_) (a' := ?_) #[true, true, true, true, true, true, true, true, true, true, true] rfl rfl (any_of HT_.out (by kernel_rfl)) (fun _ _ _ h => h) (Or.inl ⟨by rfl, ?_⟩) ?_ ?_
          rotate_left
          · intro w'
            go_simp
            with_reducible rfl
          rotate_left
          · simp only [Act.put, List.setIfInBounds_toArray, List.set_cons_zero, List.set_cons_succ, i64_w, i32_w]
            rfl
          refine done_ (done_of HT_.out (by kernel_rfl)) ?_
          try go_wp2
          go_ret
          exact ⟨by first | rfl | (simp [errW_none, errW_some] <;> rfl) | (simp [*, errW_none, errW_some] <;> rfl), by repeat (first | (with_reducible first | exact HB.out | apply below_alloc | apply pw_below_drewN | apply below_drew1 | refine below_set ?_ GE433.out | refine below_set ?_ GE434.out) | exact HB.out)⟩

end Go.Proofs.Ytekgienbhpknlaa.PL
end
section
set_option linter.unusedVariables false
namespace Go.Proofs.Ytekgienbhpknlaa.Pure
open Go Go.RowKit Go.Proofs.Ytekgienbhpknlaa.Q Go.Proofs.Ytekgienbhpknlaa.G Go.Proofs.Ytekgienbhpknlaa.PL Go.Proofs.YtekgienbhpknlaaW.PrintWords Go.Proofs.YtekgienbhpknlaaW.PrintLast Go.Proofs.YtekgienbhpknlaaW.PrintMore
theorem val_numR (n : Int) (h0 : 0 ≤ n) (hn : n ≤ 9223372036854775807) : val (numR n).1 = n := by
  obtain ⟨N, rfl⟩ : ∃ N : Nat, n = (N : Int) := ⟨n.toNat, by omega⟩
  unfold numR
  rw [if_neg (by omega)]
  show val (strip _) = _
  rw [strip_val, val_be, Nat.mod_eq_of_lt (lt_pow8 N (by omega))]
theorem flds_inj {e e' : Int → Int} : ∀ (d : Nat) (tag : Int), (∀ t, tag ≤ t → t < tag + d → (0 ≤ e t ∧ e t ≤ 9223372036854775807) ∧ 0 ≤ e' t ∧ e' t ≤ 9223372036854775807) → flds e d tag = flds e' d tag → ∀ t, tag ≤ t → t < tag + d → e t = e' t
  | 0, tag, _, _, t, h1, h2 => by omega
  | d + 1, tag, hb, h, t, h1, h2 => by
    have ih := fun hh t' h1' h2' => flds_inj d (tag + 1) (fun t ha hc => hb t (by omega) (by omega)) hh t' h1' h2'
    rw [flds, flds] at h
    by_cases ha : e tag = 0
    · by_cases hc : e' tag = 0
      · rw [if_pos ha, if_pos hc] at h
        by_cases ht : t = tag
        · rw [ht, ha, hc]
        · exact ih h t (by omega) (by omega)
      · rw [if_pos ha, if_neg hc] at h
        have := (flds_values e d (tag + 1) ⟨tag, (numR (e' tag)).1⟩ (by rw [h]; exact List.mem_cons_self)).1
        simp only at this
        omega
    · by_cases hc : e' tag = 0
      · rw [if_neg ha, if_pos hc] at h
        have := (flds_values e' d (tag + 1) ⟨tag, (numR (e tag)).1⟩ (by rw [← h]; exact List.mem_cons_self)).1
        simp only at this
        omega
      · rw [if_neg ha, if_neg hc] at h
        have h3 := List.cons.inj h
        have hn : (numR (e tag)).1 = (numR (e' tag)).1 := by injection h3.1
        have hb0 := hb tag (by omega) (by omega)
        have hv : e tag = e' tag := by rw [← val_numR (e tag) hb0.1.1 hb0.1.2, hn, val_numR (e' tag) hb0.2.1 hb0.2.2]
        by_cases ht : t = tag
        · rw [ht, hv]
        · exact ih h3.2 t (by omega) (by omega)
theorem uses_same (k a b : Int) (h1 : usesB k a = true) (h2 : usesB k b = true) (h4 : k ≠ 4) (h5 : 1 ≤ k ∧ k ≤ 4) : a = b := by
  have : k = 1 ∨ k = 2 ∨ k = 3 := by omega
  rcases this with rfl | rfl | rfl <;> (simp [usesB] at h1 h2; omega)
theorem read_inj {v0 v1 v2 v3 v4 v5 v6 v7 v8 v9 v10 v11 v12 v13 v14 w0 w1 w2 w3 w4 w5 w6 w7 w8 w9 w10 w11 w12 w13 w14 : Int} (hk : okR v0 v1 v2 v3 v4 v5 v6 v7 v8 v9 v10 v11 v12 v13 v14) (hk' : okR w0 w1 w2 w3 w4 w5 w6 w7 w8 w9 w10 w11 w12 w13 w14) (h : flds (eff v0 v1 v2 v3 v4 v5 v6 v7 v8 v9 v10 v11 v12 v13 v14) 13 1 = flds (eff w0 w1 w2 w3 w4 w5 w6 w7 w8 w9 w10 w11 w12 w13 w14) 13 1) : v0 = w0 ∧ v1 = w1 ∧ v2 = w2 ∧ v3 = w3 ∧ v4 = w4 ∧ v5 = w5 ∧ v6 = w6 ∧ v7 = w7 ∧ v8 = w8 ∧ v9 = w9 ∧ v10 = w10 ∧ v11 = w11 ∧ v12 = w12 ∧ v13 = w13 ∧ v14 = w14 := by
  have he := flds_inj 13 1 (fun t h1 h2 => by
    have a := eff_bounds hk t h1 (by omega)
    have b := eff_bounds hk' t h1 (by omega)
    exact ⟨⟨a.1, by omega⟩, b.1, by omega⟩) h
  have t1 : v14 = w14 := he 1 (by decide) (by decide)
  have t2 : v11 = w11 := he 2 (by decide) (by decide)
  have t3 : v1 = w1 := he 3 (by decide) (by decide)
  have t4 : v0 = w0 := he 4 (by decide) (by decide)
  have t5 : v2 = w2 := he 5 (by decide) (by decide)
  have t6 : v3 = w3 := he 6 (by decide) (by decide)
  have t7 : v4 = w4 := he 7 (by decide) (by decide)
  have t8 : v5 = w5 := he 8 (by decide) (by decide)
  have t9 : v6 = w6 := he 9 (by decide) (by decide)
  have t10 : v7 = w7 := he 10 (by decide) (by decide)
  have t11 : v8 = w8 := he 11 (by decide) (by decide)
  have t13 : v10 = w10 := he 13 (by decide) (by decide)
  have e12 := he 12 (by decide) (by decide)
  obtain ⟨hI, _, _, hj0, hj1, _, _⟩ := hk
  obtain ⟨hI', _, _, hj0', hj1', _, _⟩ := hk'
  have hb := isB_bounds hI
  have t12 : v9 = w9 := by
    by_cases h4 : v1 = 4
    · unfold eff at e12
      rw [if_neg (fun hh => hh.2 h4), if_neg (fun hh => hh.2 (by rw [← t3]; exact h4))] at e12
      exact e12
    · have u1 := ((isB_iff v0 v1 v2 v3 v4 v5 v6 v7 v8 v9 v10).1 hI).2.2
      have u2 := ((isB_iff w0 w1 w2 w3 w4 w5 w6 w7 w8 w9 w10).1 hI').2.2
      rw [← t3] at u2
      exact uses_same v1 v9 w9 u1 u2 h4 hb.2.1
  exact ⟨t4, t3, t5, t6, t7, t8, t9, t10, t11, t12, t13, t2, by rw [hj0, hj0'], by rw [hj1, hj1'], t1⟩
theorem told_un (k : Nat) (a b : List SF) (v0 v1 v2 v3 v4 v5 v6 v7 v8 v9 v10 v11 v12 v13 v14 : Int) (w0 w1 w2 w3 w4 w5 w6 w7 w8 w9 w10 w11 w12 w13 w14 : Int) : gatelinelaw18_FieldsUnlike.j0 (k + 1) a b true v0 v1 v2 v3 v4 v5 v6 v7 v8 v9 v10 v11 v12 v13 v14 w0 w1 w2 w3 w4 w5 w6 w7 w8 w9 w10 w11 w12 w13 w14 = some true := by
  rw [gatelinelaw18_FieldsUnlike.j0, if_pos rfl, show gatelinelaw18_told.f = some true from rfl, Option.bind_some]
theorem FieldsUnlike (v0 v1 v2 v3 v4 v5 v6 v7 v8 v9 v10 v11 v12 v13 v14 : Int) (_ : (Lit.int .i64 v0).wf = true) (_ : (Lit.int .i64 v1).wf = true) (_ : (Lit.int .i64 v2).wf = true) (_ : (Lit.int .i64 v3).wf = true) (_ : (Lit.int .i64 v4).wf = true) (_ : (Lit.int .i64 v5).wf = true) (_ : (Lit.int .i64 v6).wf = true) (_ : (Lit.int .i64 v7).wf = true) (_ : (Lit.int .i64 v8).wf = true) (_ : (Lit.int .i64 v9).wf = true) (_ : (Lit.int .i64 v10).wf = true) (_ : (Lit.int .i64 v11).wf = true) (_ : (Lit.int .i64 v12).wf = true) (_ : (Lit.int .i64 v13).wf = true) (_ : (Lit.int .i64 v14).wf = true) (w0 w1 w2 w3 w4 w5 w6 w7 w8 w9 w10 w11 w12 w13 w14 : Int) (_ : (Lit.int .i64 w0).wf = true) (_ : (Lit.int .i64 w1).wf = true) (_ : (Lit.int .i64 w2).wf = true) (_ : (Lit.int .i64 w3).wf = true) (_ : (Lit.int .i64 w4).wf = true) (_ : (Lit.int .i64 w5).wf = true) (_ : (Lit.int .i64 w6).wf = true) (_ : (Lit.int .i64 w7).wf = true) (_ : (Lit.int .i64 w8).wf = true) (_ : (Lit.int .i64 w9).wf = true) (_ : (Lit.int .i64 w10).wf = true) (_ : (Lit.int .i64 w11).wf = true) (_ : (Lit.int .i64 w12).wf = true) (_ : (Lit.int .i64 w13).wf = true) (_ : (Lit.int .i64 w14).wf = true) : ∃ k : Nat, gatelinelaw18_FieldsUnlike.f k v0 v1 v2 v3 v4 v5 v6 v7 v8 v9 v10 v11 v12 v13 v14 w0 w1 w2 w3 w4 w5 w6 w7 w8 w9 w10 w11 w12 w13 w14 = some true := by
  have h0 : ∀ k, gatelinelaw18_FieldsUnlike.f k v0 v1 v2 v3 v4 v5 v6 v7 v8 v9 v10 v11 v12 v13 v14 w0 w1 w2 w3 w4 w5 w6 w7 w8 w9 w10 w11 w12 w13 w14 = if (fputR v0 v1 v2 v3 v4 v5 v6 v7 v8 v9 v10 v11 v12 v13 v14).2 = 0 then gatelinelaw18_FieldsUnlike.j0 k (fputR v0 v1 v2 v3 v4 v5 v6 v7 v8 v9 v10 v11 v12 v13 v14).1 (fputR w0 w1 w2 w3 w4 w5 w6 w7 w8 w9 w10 w11 w12 w13 w14).1 ((fputR w0 w1 w2 w3 w4 w5 w6 w7 w8 w9 w10 w11 w12 w13 w14).2 != 0) v0 v1 v2 v3 v4 v5 v6 v7 v8 v9 v10 v11 v12 v13 v14 w0 w1 w2 w3 w4 w5 w6 w7 w8 w9 w10 w11 w12 w13 w14 else gatelinelaw18_FieldsUnlike.j0 k (fputR v0 v1 v2 v3 v4 v5 v6 v7 v8 v9 v10 v11 v12 v13 v14).1 (fputR w0 w1 w2 w3 w4 w5 w6 w7 w8 w9 w10 w11 w12 w13 w14).1 true v0 v1 v2 v3 v4 v5 v6 v7 v8 v9 v10 v11 v12 v13 v14 w0 w1 w2 w3 w4 w5 w6 w7 w8 w9 w10 w11 w12 w13 w14 := fun k => rfl
  by_cases hE : (fputR v0 v1 v2 v3 v4 v5 v6 v7 v8 v9 v10 v11 v12 v13 v14).2 = 0
  · by_cases hE' : (fputR w0 w1 w2 w3 w4 w5 w6 w7 w8 w9 w10 w11 w12 w13 w14).2 = 0
    · obtain ⟨hk, _, ha⟩ := fput_yes hE
      obtain ⟨hk', _, ha'⟩ := fput_yes hE'
      obtain ⟨K, hK⟩ := same_put v0 v1 v2 v3 v4 v5 v6 v7 v8 v9 v10 v11 v12 v13 v14 (fputR w0 w1 w2 w3 w4 w5 w6 w7 w8 w9 w10 w11 w12 w13 w14).1
      have hS : gatelineref17_Same.f K (fputR v0 v1 v2 v3 v4 v5 v6 v7 v8 v9 v10 v11 v12 v13 v14).1 (fputR w0 w1 w2 w3 w4 w5 w6 w7 w8 w9 w10 w11 w12 w13 w14).1 = some (decide ((fputR v0 v1 v2 v3 v4 v5 v6 v7 v8 v9 v10 v11 v12 v13 v14).1 = (fputR w0 w1 w2 w3 w4 w5 w6 w7 w8 w9 w10 w11 w12 w13 w14).1)) := hK K (Nat.le_refl _)
      refine ⟨K + 1, ?_⟩
      rw [h0, if_pos hE, hE', show ((0 : Int) != 0) = false from rfl, gatelinelaw18_FieldsUnlike.j0, if_neg (by decide), show gatelinelaw18_told.f = some true from rfl, Option.bind_some, if_pos rfl, hS, Option.bind_some]
      congr 1
      by_cases hq : (fputR v0 v1 v2 v3 v4 v5 v6 v7 v8 v9 v10 v11 v12 v13 v14).1 = (fputR w0 w1 w2 w3 w4 w5 w6 w7 w8 w9 w10 w11 w12 w13 w14).1
      · rw [decide_eq_true hq]
        rw [ha, ha'] at hq
        obtain ⟨rfl, rfl, rfl, rfl, rfl, rfl, rfl, rfl, rfl, rfl, rfl, rfl, rfl, rfl, rfl⟩ := read_inj hk hk' hq
        simp
      · rw [decide_eq_false hq]
        cases hc : ((v0 == w0 && (v1 == w1 && (v2 == w2 && (v3 == w3 && (v4 == w4 && (v5 == w5 && (v6 == w6 && (v7 == w7 && (v8 == w8 && (v9 == w9 && (v10 == w10))))))))))) && (v11 == w11 && ((v12 == w12 && (v13 == w13)) && (v14 == w14))))
        · rfl
        · simp only [Bool.and_eq_true, beq_iff_eq] at hc
          obtain ⟨⟨h0, h1, h2, h3, h4, h5, h6, h7, h8, h9, h10⟩, h11, ⟨h12, h13⟩, h14⟩ := hc
          exact absurd (by rw [h0, h1, h2, h3, h4, h5, h6, h7, h8, h9, h10, h11, h12, h13, h14]) hq
    · exact ⟨1, by rw [h0, if_pos hE, show ((fputR w0 w1 w2 w3 w4 w5 w6 w7 w8 w9 w10 w11 w12 w13 w14).2 != 0) = true from bne_iff_ne.2 hE', told_un]⟩
  · exact ⟨1, by rw [h0, if_neg hE, told_un]⟩
end Go.Proofs.Ytekgienbhpknlaa.Pure
end
