/- What the functions that this claim reaches do and answer: printed words and walks, walks by hand and plain laws, packed together, each with its own remark; printed rows are by the kit's print program, turned by this session. Conditions: those that each theorem states. -/
import Derived.Test.YtekgienbhpknlaaKA1
import Derived.Test.YtekgienbhpknlaaKA2
import Derived.Test.YtekgienbhpknlaaKA5
import Derived.Test.YtekgienbhpknlaaKFs7
import Derived.Test.YtekgienbhpknlaaKA0
section
namespace Go.Proofs.Ytekgienbhpknlaa.PL
open Go.RowKit Go.Proofs.YtekgienbhpknlaaW.PrintWords Go.Proofs.YtekgienbhpknlaaW.PrintLast Go.Proofs.YtekgienbhpknlaaW.PrintMore
attribute [local go_sem] max2_int min2_int max_two min_two max_three min_three max_four min_four   -- for this text's walks alone
set_option linter.unusedVariables false
set_option linter.unusedSimpArgs false
attribute [local go_sem high] eqA44

/-! ### gatelineref18_Put: function 29 -/
mutual
def gatelineref18_Put.j0 : Nat → Bool → Int → Int → Int → Int → Int → Int → Int → Int → Int → Int → Int → Int → Int → Int → Int → Option ((List (S40)) × Int)
  | 0, _, _, _, _, _, _, _, _, _, _, _, _, _, _, _, _ => none
  | k + 1, x42, x291000, x291001, x291002, x291003, x291004, x291005, x291006, x291007, x291008, x291009, x291010, x291011, x291012, x291013, x291014 => if x42 = true then (some (([] : List (S40)), 1)) else ((gatelineref18_numbers.f x291000 x291001 x291002 x291003 x291004 x291005 x291006 x291007 x291008 x291009 x291010 x291011 x291012 x291013 x291014).bind fun t293 => (gatelineref18_Put.l0 k t293 (([] : List (S40))) 0 x291000 x291001 x291002 x291003 x291004 x291005 x291006 x291007 x291008 x291009 x291010 x291011 x291012 x291013 x291014))
def gatelineref18_Put.l0 : Nat → List Int → List (S40) → Int → Int → Int → Int → Int → Int → Int → Int → Int → Int → Int → Int → Int → Int → Int → Int → Option ((List (S40)) × Int)
  | 0, _, _, _, _, _, _, _, _, _, _, _, _, _, _, _, _, _, _ => none
  | k + 1, x5, x6, x7, x291000, x291001, x291002, x291003, x291004, x291005, x291006, x291007, x291008, x291009, x291010, x291011, x291012, x291013, x291014 => if x7 < 13 then ((gatelineref18_Name.f k (wrap64 (x7 + 1))).bind fun bt299 => (if 0 ≤ x7 then (if x7 < (x5.length : Int) then (if (rd x5 x7) = 0 then (gatelineref18_Put.j2 k x5 x6 x7 false x291000 x291001 x291002 x291003 x291004 x291005 x291006 x291007 x291008 x291009 x291010 x291011 x291012 x291013 x291014) else (gatelineref18_Put.j2 k x5 x6 x7 (decide (x291014 < bt299.1)) x291000 x291001 x291002 x291003 x291004 x291005 x291006 x291007 x291008 x291009 x291010 x291011 x291012 x291013 x291014)) else (none)) else (none))) else (some (x6, 0))
def gatelineref18_Put.j2 : Nat → List Int → List (S40) → Int → Bool → Int → Int → Int → Int → Int → Int → Int → Int → Int → Int → Int → Int → Int → Int → Int → Option ((List (S40)) × Int)
  | 0, _, _, _, _, _, _, _, _, _, _, _, _, _, _, _, _, _, _, _ => none
  | k + 1, x5, x6, x7, x66, x291000, x291001, x291002, x291003, x291004, x291005, x291006, x291007, x291008, x291009, x291010, x291011, x291012, x291013, x291014 => if x66 = true then (some (([] : List (S40)), 18)) else (if 0 ≤ x7 then (if x7 < (x5.length : Int) then (if (rd x5 x7) = 0 then (gatelineref18_Put.l0 k x5 x6 (wrap64 (x7 + 1)) x291000 x291001 x291002 x291003 x291004 x291005 x291006 x291007 x291008 x291009 x291010 x291011 x291012 x291013 x291014) else ((gatelineref17_Number.f k (rd x5 x7)).bind fun bt304 => (if x6.length < 4398046511104 then (gatelineref18_Put.l0 k x5 (x6 ++ [(⟨wrap64 (x7 + 1), bt304.1⟩ : S40)]) (wrap64 (x7 + 1)) x291000 x291001 x291002 x291003 x291004 x291005 x291006 x291007 x291008 x291009 x291010 x291011 x291012 x291013 x291014) else (none)))) else (none)) else (none))
end
def gatelineref18_Put.f (k : Nat) (a0_0 : Int) (a0_1 : Int) (a0_2 : Int) (a0_3 : Int) (a0_4 : Int) (a0_5 : Int) (a0_6 : Int) (a0_7 : Int) (a0_8 : Int) (a0_9 : Int) (a0_10 : Int) (a0_11 : Int) (a0_12 : Int) (a0_13 : Int) (a0_14 : Int) : Option ((List (S40)) × Int) := (gatelineref09_Is.f k a0_0 a0_1 a0_2 a0_3 a0_4 a0_5 a0_6 a0_7 a0_8 a0_9 a0_10).bind fun t292 => (if t292 = true then (if a0_11 < 0 then (gatelineref18_Put.j0 k true a0_0 a0_1 a0_2 a0_3 a0_4 a0_5 a0_6 a0_7 a0_8 a0_9 a0_10 a0_11 a0_12 a0_13 a0_14) else (if a0_11 > 99 then (gatelineref18_Put.j0 k true a0_0 a0_1 a0_2 a0_3 a0_4 a0_5 a0_6 a0_7 a0_8 a0_9 a0_10 a0_11 a0_12 a0_13 a0_14) else (if (!(a0_12 == 0) || (!(a0_13 == 0))) = true then (gatelineref18_Put.j0 k true a0_0 a0_1 a0_2 a0_3 a0_4 a0_5 a0_6 a0_7 a0_8 a0_9 a0_10 a0_11 a0_12 a0_13 a0_14) else (if a0_14 < 1 then (gatelineref18_Put.j0 k true a0_0 a0_1 a0_2 a0_3 a0_4 a0_5 a0_6 a0_7 a0_8 a0_9 a0_10 a0_11 a0_12 a0_13 a0_14) else (gatelineref18_Put.j0 k (decide (a0_14 > 3)) a0_0 a0_1 a0_2 a0_3 a0_4 a0_5 a0_6 a0_7 a0_8 a0_9 a0_10 a0_11 a0_12 a0_13 a0_14))))) else (gatelineref18_Put.j0 k true a0_0 a0_1 a0_2 a0_3 a0_4 a0_5 a0_6 a0_7 a0_8 a0_9 a0_10 a0_11 a0_12 a0_13 a0_14))
theorem gatelineref18_Put.mono_l : ∀ k, (∀ y0 y1 y2 y3 y4 y5 y6 y7 y8 y9 y10 y11 y12 y13 y14 y15, LeO (gatelineref18_Put.j0 k y0 y1 y2 y3 y4 y5 y6 y7 y8 y9 y10 y11 y12 y13 y14 y15) (gatelineref18_Put.j0 (k + 1) y0 y1 y2 y3 y4 y5 y6 y7 y8 y9 y10 y11 y12 y13 y14 y15)) ∧ (∀ y0 y1 y2 y3 y4 y5 y6 y7 y8 y9 y10 y11 y12 y13 y14 y15 y16 y17, LeO (gatelineref18_Put.l0 k y0 y1 y2 y3 y4 y5 y6 y7 y8 y9 y10 y11 y12 y13 y14 y15 y16 y17) (gatelineref18_Put.l0 (k + 1) y0 y1 y2 y3 y4 y5 y6 y7 y8 y9 y10 y11 y12 y13 y14 y15 y16 y17)) ∧ (∀ y0 y1 y2 y3 y4 y5 y6 y7 y8 y9 y10 y11 y12 y13 y14 y15 y16 y17 y18, LeO (gatelineref18_Put.j2 k y0 y1 y2 y3 y4 y5 y6 y7 y8 y9 y10 y11 y12 y13 y14 y15 y16 y17 y18) (gatelineref18_Put.j2 (k + 1) y0 y1 y2 y3 y4 y5 y6 y7 y8 y9 y10 y11 y12 y13 y14 y15 y16 y17 y18))
  | 0 => ⟨fun _ _ _ _ _ _ _ _ _ _ _ _ _ _ _ _ r h => by simp [gatelineref18_Put.j0] at h, fun _ _ _ _ _ _ _ _ _ _ _ _ _ _ _ _ _ _ r h => by simp [gatelineref18_Put.l0] at h, fun _ _ _ _ _ _ _ _ _ _ _ _ _ _ _ _ _ _ _ r h => by simp [gatelineref18_Put.j2] at h⟩
  | k + 1 => by
    obtain ⟨ih0, ih1, ih2⟩ := gatelineref18_Put.mono_l k
    refine ⟨?_, ?_, ?_⟩
    · intro y0 y1 y2 y3 y4 y5 y6 y7 y8 y9 y10 y11 y12 y13 y14 y15
      unfold gatelineref18_Put.j0
      repeat' first
      | (with_reducible exact ih0 _ _ _ _ _ _ _ _ _ _ _ _ _ _ _ _)
      | (with_reducible exact ih1 _ _ _ _ _ _ _ _ _ _ _ _ _ _ _ _ _ _)
      | (with_reducible exact ih2 _ _ _ _ _ _ _ _ _ _ _ _ _ _ _ _ _ _ _)
      | (with_reducible exact gatelineref09_Is.mono _ _ _ _ _ _ _ _ _ _ _ _)
      | (with_reducible exact gatelineref17_Number.mono _ _)
      | (with_reducible exact gatelineref18_Name.mono _ _)
      | (with_reducible exact LeO.refl _)
      | (with_reducible exact LeO.none _)
      | (with_reducible refine LeO.ite ?_ ?_)
      | (with_reducible refine LeO.bind ?_ (fun _ => ?_))
      | exact ih0 _ _ _ _ _ _ _ _ _ _ _ _ _ _ _ _
      | exact ih1 _ _ _ _ _ _ _ _ _ _ _ _ _ _ _ _ _ _
      | exact ih2 _ _ _ _ _ _ _ _ _ _ _ _ _ _ _ _ _ _ _
      | exact gatelineref09_Is.mono _ _ _ _ _ _ _ _ _ _ _ _
      | exact gatelineref17_Number.mono _ _
      | exact gatelineref18_Name.mono _ _
      | exact LeO.none _
      | refine LeO.ite ?_ ?_
      | refine LeO.bind ?_ (fun _ => ?_)
    · intro y0 y1 y2 y3 y4 y5 y6 y7 y8 y9 y10 y11 y12 y13 y14 y15 y16 y17
      unfold gatelineref18_Put.l0
      repeat' first
      | (with_reducible exact ih0 _ _ _ _ _ _ _ _ _ _ _ _ _ _ _ _)
      | (with_reducible exact ih1 _ _ _ _ _ _ _ _ _ _ _ _ _ _ _ _ _ _)
      | (with_reducible exact ih2 _ _ _ _ _ _ _ _ _ _ _ _ _ _ _ _ _ _ _)
      | (with_reducible exact gatelineref09_Is.mono _ _ _ _ _ _ _ _ _ _ _ _)
      | (with_reducible exact gatelineref17_Number.mono _ _)
      | (with_reducible exact gatelineref18_Name.mono _ _)
      | (with_reducible exact LeO.refl _)
      | (with_reducible exact LeO.none _)
      | (with_reducible refine LeO.ite ?_ ?_)
      | (with_reducible refine LeO.bind ?_ (fun _ => ?_))
      | exact ih0 _ _ _ _ _ _ _ _ _ _ _ _ _ _ _ _
      | exact ih1 _ _ _ _ _ _ _ _ _ _ _ _ _ _ _ _ _ _
      | exact ih2 _ _ _ _ _ _ _ _ _ _ _ _ _ _ _ _ _ _ _
      | exact gatelineref09_Is.mono _ _ _ _ _ _ _ _ _ _ _ _
      | exact gatelineref17_Number.mono _ _
      | exact gatelineref18_Name.mono _ _
      | exact LeO.none _
      | refine LeO.ite ?_ ?_
      | refine LeO.bind ?_ (fun _ => ?_)
    · intro y0 y1 y2 y3 y4 y5 y6 y7 y8 y9 y10 y11 y12 y13 y14 y15 y16 y17 y18
      unfold gatelineref18_Put.j2
      repeat' first
      | (with_reducible exact ih0 _ _ _ _ _ _ _ _ _ _ _ _ _ _ _ _)
      | (with_reducible exact ih1 _ _ _ _ _ _ _ _ _ _ _ _ _ _ _ _ _ _)
      | (with_reducible exact ih2 _ _ _ _ _ _ _ _ _ _ _ _ _ _ _ _ _ _ _)
      | (with_reducible exact gatelineref09_Is.mono _ _ _ _ _ _ _ _ _ _ _ _)
      | (with_reducible exact gatelineref17_Number.mono _ _)
      | (with_reducible exact gatelineref18_Name.mono _ _)
      | (with_reducible exact LeO.refl _)
      | (with_reducible exact LeO.none _)
      | (with_reducible refine LeO.ite ?_ ?_)
      | (with_reducible refine LeO.bind ?_ (fun _ => ?_))
      | exact ih0 _ _ _ _ _ _ _ _ _ _ _ _ _ _ _ _
      | exact ih1 _ _ _ _ _ _ _ _ _ _ _ _ _ _ _ _ _ _
      | exact ih2 _ _ _ _ _ _ _ _ _ _ _ _ _ _ _ _ _ _ _
      | exact gatelineref09_Is.mono _ _ _ _ _ _ _ _ _ _ _ _
      | exact gatelineref17_Number.mono _ _
      | exact gatelineref18_Name.mono _ _
      | exact LeO.none _
      | refine LeO.ite ?_ ?_
      | refine LeO.bind ?_ (fun _ => ?_)
theorem gatelineref18_Put.mono : ∀ a0 a1 a2 a3 a4 a5 a6 a7 a8 a9 a10 a11 a12 a13 a14 k, LeO (gatelineref18_Put.f k a0 a1 a2 a3 a4 a5 a6 a7 a8 a9 a10 a11 a12 a13 a14) (gatelineref18_Put.f (k + 1) a0 a1 a2 a3 a4 a5 a6 a7 a8 a9 a10 a11 a12 a13 a14) := by
  intro a0 a1 a2 a3 a4 a5 a6 a7 a8 a9 a10 a11 a12 a13 a14 k
  obtain ⟨ih0, ih1, ih2⟩ := gatelineref18_Put.mono_l k
  unfold gatelineref18_Put.f
  repeat' first
      | (with_reducible exact ih0 _ _ _ _ _ _ _ _ _ _ _ _ _ _ _ _)
      | (with_reducible exact ih1 _ _ _ _ _ _ _ _ _ _ _ _ _ _ _ _ _ _)
      | (with_reducible exact ih2 _ _ _ _ _ _ _ _ _ _ _ _ _ _ _ _ _ _ _)
      | (with_reducible exact gatelineref09_Is.mono _ _ _ _ _ _ _ _ _ _ _ _)
      | (with_reducible exact gatelineref17_Number.mono _ _)
      | (with_reducible exact gatelineref18_Name.mono _ _)
      | (with_reducible exact LeO.refl _)
      | (with_reducible exact LeO.none _)
      | (with_reducible refine LeO.ite ?_ ?_)
      | (with_reducible refine LeO.bind ?_ (fun _ => ?_))
      | exact ih0 _ _ _ _ _ _ _ _ _ _ _ _ _ _ _ _
      | exact ih1 _ _ _ _ _ _ _ _ _ _ _ _ _ _ _ _ _ _
      | exact ih2 _ _ _ _ _ _ _ _ _ _ _ _ _ _ _ _ _ _ _
      | exact gatelineref09_Is.mono _ _ _ _ _ _ _ _ _ _ _ _
      | exact gatelineref17_Number.mono _ _
      | exact gatelineref18_Name.mono _ _
      | exact LeO.none _
      | refine LeO.ite ?_ ?_
      | refine LeO.bind ?_ (fun _ => ?_)
set_option maxHeartbeats 8000000 in
set_option maxRecDepth 100000 in
theorem gatelineref18_Put.calls (k : Nat) (a0_0 : Int) (a0_1 : Int) (a0_2 : Int) (a0_3 : Int) (a0_4 : Int) (a0_5 : Int) (a0_6 : Int) (a0_7 : Int) (a0_8 : Int) (a0_9 : Int) (a0_10 : Int) (a0_11 : Int) (a0_12 : Int) (a0_13 : Int) (a0_14 : Int) (r1 : List (S40)) (r2 : Int) (w : World) (h : gatelineref18_Put.f k a0_0 a0_1 a0_2 a0_3 a0_4 a0_5 a0_6 a0_7 a0_8 a0_9 a0_10 a0_11 a0_12 a0_13 a0_14 = some (r1, r2)) :
    Calls Try.prog 29 #[.agg #[.int .i64 a0_0, .int .i64 a0_1, .int .i64 a0_2, .int .i64 a0_3, .int .i64 a0_4, .int .i64 a0_5, .int .i64 a0_6, .int .i64 a0_7, .int .i64 a0_8, .int .i64 a0_9, .int .i64 a0_10, .int .i64 a0_11, .int .i64 a0_12, .int .i64 a0_13, .int .i64 a0_14]] w fun e w' => ∃ v0_ : Value, e = .returned (.tuple #[v0_, .int .i64 r2]) ∧ Kd.S k40 40 w' w.heap.size (fun _ => True) v0_ r1 ∧ Below w.heap.size w w' := by
  have hu46 := Try.underlying46
  have hu44 := Try.underlying44
  have hu42 := Try.underlying42
  have hu40 := Try.underlying40
  have HB := Aside0.mk (Below.refl w.heap.size w)
  have H : ((gatelineref09_Is.f k a0_0 a0_1 a0_2 a0_3 a0_4 a0_5 a0_6 a0_7 a0_8 a0_9 a0_10).bind fun t292 => (if t292 = true then (if a0_11 < 0 then (gatelineref18_Put.j0 k true a0_0 a0_1 a0_2 a0_3 a0_4 a0_5 a0_6 a0_7 a0_8 a0_9 a0_10 a0_11 a0_12 a0_13 a0_14) else (if a0_11 > 99 then (gatelineref18_Put.j0 k true a0_0 a0_1 a0_2 a0_3 a0_4 a0_5 a0_6 a0_7 a0_8 a0_9 a0_10 a0_11 a0_12 a0_13 a0_14) else (if (!(a0_12 == 0) || (!(a0_13 == 0))) = true then (gatelineref18_Put.j0 k true a0_0 a0_1 a0_2 a0_3 a0_4 a0_5 a0_6 a0_7 a0_8 a0_9 a0_10 a0_11 a0_12 a0_13 a0_14) else (if a0_14 < 1 then (gatelineref18_Put.j0 k true a0_0 a0_1 a0_2 a0_3 a0_4 a0_5 a0_6 a0_7 a0_8 a0_9 a0_10 a0_11 a0_12 a0_13 a0_14) else (gatelineref18_Put.j0 k (decide (a0_14 > 3)) a0_0 a0_1 a0_2 a0_3 a0_4 a0_5 a0_6 a0_7 a0_8 a0_9 a0_10 a0_11 a0_12 a0_13 a0_14))))) else (gatelineref18_Put.j0 k true a0_0 a0_1 a0_2 a0_3 a0_4 a0_5 a0_6 a0_7 a0_8 a0_9 a0_10 a0_11 a0_12 a0_13 a0_14))) = some (r1, r2) := h
  clear h
  have HC2 := Aside0.mk H
  clear H
  go_enter Try.func29, Try.ntmps29
  go_upto_region 2 with (first | ((with_reducible refine gate_dst (N := 1) rfl ?_); refine box_event ?hg (N := 1) ?hd (cs := #[.int .i64 a0_0, .int .i64 a0_1, .int .i64 a0_2, .int .i64 a0_3, .int .i64 a0_4, .int .i64 a0_5, .int .i64 a0_6, .int .i64 a0_7, .int .i64 a0_8, .int .i64 a0_9, .int .i64 a0_10, .int .i64 a0_11, .int .i64 a0_12, .int .i64 a0_13, .int .i64 a0_14]) (t := 46) ?hr ?_; (case hd => rfl); (case hg => rfl); (case hr => first | (go_simp; done) | (go_simp; rfl)); intro gb290 hg w3 hbox hb; have n0_ := Aside0.mk (below_step (by repeat (first | (with_reducible first | exact HB.out | apply below_alloc | apply pw_below_drewN | apply below_drew1) | exact HB.out)) hb); have n1_ := Aside0.mk (hbox); have n2_ := Aside0.mk ((by rw [hg]; exact (below_size (by repeat (first | (with_reducible first | exact HB.out | apply below_alloc | apply pw_below_drewN | apply below_drew1) | exact HB.out))) : w.heap.size ≤ gb290)); have n3_ := Aside0.mk ((by rw [hg]; exact (below_size (by repeat (first | (with_reducible first | exact HB.out | apply below_alloc | apply pw_below_drewN | apply below_drew1) | exact HB.out))) : w.heap.size ≤ gb290)); clear HB; have HB := n0_; have BK290 := n1_; have GW290 := n2_; have GE290 := n3_; clear n0_ n1_ n2_ n3_; clear hb hbox hg) | ((with_reducible refine gate_dst (N := 4) rfl ?_); refine box_event ?hg (N := 4) ?hd (cs := #[.int .i64 0, .int .i64 0]) (t := 44) ?hr ?_; (case hd => rfl); (case hg => rfl); (case hr => first | (go_simp; done) | (go_simp; rfl)); intro gb291 hg w4 hbox hb; have n0_ := Aside0.mk (blk_below (g := gb290) (o := .cells #[.int .i64 a0_0, .int .i64 a0_1, .int .i64 a0_2, .int .i64 a0_3, .int .i64 a0_4, .int .i64 a0_5, .int .i64 a0_6, .int .i64 a0_7, .int .i64 a0_8, .int .i64 a0_9, .int .i64 a0_10, .int .i64 a0_11, .int .i64 a0_12, .int .i64 a0_13, .int .i64 a0_14] 46 (0, 0)) (by (with_reducible repeat (first | refine blk_drewN ?_ _ | refine blk_drew ?_ | refine blk_alloc ?_ _)); exact BK290.out) hb); have n1_ := Aside0.mk (below_step (by repeat (first | (with_reducible first | exact HB.out | apply below_alloc | apply pw_below_drewN | apply below_drew1 | refine below_set ?_ GE290.out) | exact HB.out)) hb); have n2_ := Aside0.mk (hbox); have n3_ := Aside0.mk ((by rw [hg]; exact (below_size (by repeat (first | (with_reducible first | exact HB.out | apply below_alloc | apply pw_below_drewN | apply below_drew1 | refine below_set ?_ GE290.out) | exact HB.out))) : w.heap.size ≤ gb291)); have n4_ := Aside0.mk ((by rw [hg]; exact (below_size (by repeat (first | (with_reducible first | exact HB.out | apply below_alloc | apply pw_below_drewN | apply below_drew1 | refine below_set ?_ GE290.out) | exact HB.out))) : w.heap.size ≤ gb291)); have n5_ := Aside0.mk ((by rw [hg]; exact Nat.ne_of_lt (blk_lt (g := gb290) (o := .cells #[.int .i64 a0_0, .int .i64 a0_1, .int .i64 a0_2, .int .i64 a0_3, .int .i64 a0_4, .int .i64 a0_5, .int .i64 a0_6, .int .i64 a0_7, .int .i64 a0_8, .int .i64 a0_9, .int .i64 a0_10, .int .i64 a0_11, .int .i64 a0_12, .int .i64 a0_13, .int .i64 a0_14] 46 (0, 0)) (by (with_reducible repeat (first | refine blk_drewN ?_ _ | refine blk_drew ?_ | refine blk_alloc ?_ _)); exact BK290.out)) : gb290 ≠ gb291)); have n6_ := Aside0.mk ((by rw [hg]; exact Nat.ne_of_gt (blk_lt (g := gb290) (o := .cells #[.int .i64 a0_0, .int .i64 a0_1, .int .i64 a0_2, .int .i64 a0_3, .int .i64 a0_4, .int .i64 a0_5, .int .i64 a0_6, .int .i64 a0_7, .int .i64 a0_8, .int .i64 a0_9, .int .i64 a0_10, .int .i64 a0_11, .int .i64 a0_12, .int .i64 a0_13, .int .i64 a0_14] 46 (0, 0)) (by (with_reducible repeat (first | refine blk_drewN ?_ _ | refine blk_drew ?_ | refine blk_alloc ?_ _)); exact BK290.out)) : gb291 ≠ gb290)); clear BK290; clear HB; have BK290 := n0_; have HB := n1_; have BK291 := n2_; have GW291 := n3_; have GE291 := n4_; have NB290_291 := n5_; have NB291_290 := n6_; clear n0_ n1_ n2_ n3_ n4_ n5_ n6_; clear hb hbox hg; have hnb5 := NB291_290.out; have hnc5 := NB290_291.out; have hcz6_0 : w4.cell? ⟨gb291, 0, none⟩ = some (.int .i64 0) := (blk_cell BK291.out 0).trans rfl; have hcz6_1 : w4.cell? ⟨gb291, 1, none⟩ = some (.int .i64 0) := (blk_cell BK291.out 1).trans rfl; have hfz6_0 := blk_frozen BK291.out 0; have hfz6_1 := blk_frozen BK291.out 1))
  (try simp only [Act.put, List.setIfInBounds_toArray, List.set_cons_zero, List.set_cons_succ])
  go_cut [42] (fun v42 wc => ∃ (kq : Nat) (x42_1 : Bool), v42 = .bool x42_1 ∧ Aside0 (gatelineref18_Put.j0 kq x42_1 a0_0 a0_1 a0_2 a0_3 a0_4 a0_5 a0_6 a0_7 a0_8 a0_9 a0_10 a0_11 a0_12 a0_13 a0_14 = some (r1, r2)) ∧ Aside0 (kq ≤ k) ∧ Aside0 (wc.heap[gb290]? = some (.cells #[.int .i64 a0_0, .int .i64 a0_1, .int .i64 a0_2, .int .i64 a0_3, .int .i64 a0_4, .int .i64 a0_5, .int .i64 a0_6, .int .i64 a0_7, .int .i64 a0_8, .int .i64 a0_9, .int .i64 a0_10, .int .i64 a0_11, .int .i64 a0_12, .int .i64 a0_13, .int .i64 a0_14] 46 (0, 0))) ∧ Aside0 (wc.heap[gb291]? = some (.cells #[.int .i64 0, .int .i64 0] 44 (0, 0))) ∧ Aside0 (Below w.heap.size w wc))
  case first =>
    have H := HC2.out
    clear HC2
    replace H := Option.bind_eq_some_iff.mp H
    obtain ⟨t292, A70, H⟩ := H
    replace H : (if t292 = true then (if a0_11 < 0 then (gatelineref18_Put.j0 k true a0_0 a0_1 a0_2 a0_3 a0_4 a0_5 a0_6 a0_7 a0_8 a0_9 a0_10 a0_11 a0_12 a0_13 a0_14) else (if a0_11 > 99 then (gatelineref18_Put.j0 k true a0_0 a0_1 a0_2 a0_3 a0_4 a0_5 a0_6 a0_7 a0_8 a0_9 a0_10 a0_11 a0_12 a0_13 a0_14) else (if (!(a0_12 == 0) || (!(a0_13 == 0))) = true then (gatelineref18_Put.j0 k true a0_0 a0_1 a0_2 a0_3 a0_4 a0_5 a0_6 a0_7 a0_8 a0_9 a0_10 a0_11 a0_12 a0_13 a0_14) else (if a0_14 < 1 then (gatelineref18_Put.j0 k true a0_0 a0_1 a0_2 a0_3 a0_4 a0_5 a0_6 a0_7 a0_8 a0_9 a0_10 a0_11 a0_12 a0_13 a0_14) else (gatelineref18_Put.j0 k (decide (a0_14 > 3)) a0_0 a0_1 a0_2 a0_3 a0_4 a0_5 a0_6 a0_7 a0_8 a0_9 a0_10 a0_11 a0_12 a0_13 a0_14))))) else (gatelineref18_Put.j0 k true a0_0 a0_1 a0_2 a0_3 a0_4 a0_5 a0_6 a0_7 a0_8 a0_9 a0_10 a0_11 a0_12 a0_13 a0_14)) = some (r1, r2) := H
    have A7 := Aside0.mk A70
    clear A70
    by_cases c8 : t292 = true
    · subst c8
      have H1 : (if a0_11 < 0 then (gatelineref18_Put.j0 k true a0_0 a0_1 a0_2 a0_3 a0_4 a0_5 a0_6 a0_7 a0_8 a0_9 a0_10 a0_11 a0_12 a0_13 a0_14) else (if a0_11 > 99 then (gatelineref18_Put.j0 k true a0_0 a0_1 a0_2 a0_3 a0_4 a0_5 a0_6 a0_7 a0_8 a0_9 a0_10 a0_11 a0_12 a0_13 a0_14) else (if (!(a0_12 == 0) || (!(a0_13 == 0))) = true then (gatelineref18_Put.j0 k true a0_0 a0_1 a0_2 a0_3 a0_4 a0_5 a0_6 a0_7 a0_8 a0_9 a0_10 a0_11 a0_12 a0_13 a0_14) else (if a0_14 < 1 then (gatelineref18_Put.j0 k true a0_0 a0_1 a0_2 a0_3 a0_4 a0_5 a0_6 a0_7 a0_8 a0_9 a0_10 a0_11 a0_12 a0_13 a0_14) else (gatelineref18_Put.j0 k (decide (a0_14 > 3)) a0_0 a0_1 a0_2 a0_3 a0_4 a0_5 a0_6 a0_7 a0_8 a0_9 a0_10 a0_11 a0_12 a0_13 a0_14))))) = some (r1, r2) := by rw [if_pos rfl] at H; exact H
      clear H
      have H := H1
      clear H1
      by_cases c9 : a0_11 < 0
      · rw [if_pos c9] at H
        have c9b0 : decide (a0_11 < 0) = true := decide_eq_true c9
        clear c9
        (first | rw [c9b0] | (simp only [i64_w, i32_w]; rw [c9b0]) | skip)
        have H' := Aside0.mk H
        clear H
        have hnb10 := NB290_291.out
        have hnc10 := NB291_290.out
        have hcz11_0 : w4.cell? ⟨gb290, 0, none⟩ = some (.int .i64 a0_0) := (blk_cell BK290.out 0).trans rfl
        have hcz11_1 : w4.cell? ⟨gb290, 1, none⟩ = some (.int .i64 a0_1) := (blk_cell BK290.out 1).trans rfl
        have hcz11_2 : w4.cell? ⟨gb290, 2, none⟩ = some (.int .i64 a0_2) := (blk_cell BK290.out 2).trans rfl
        have hcz11_3 : w4.cell? ⟨gb290, 3, none⟩ = some (.int .i64 a0_3) := (blk_cell BK290.out 3).trans rfl
        have hcz11_4 : w4.cell? ⟨gb290, 4, none⟩ = some (.int .i64 a0_4) := (blk_cell BK290.out 4).trans rfl
        have hcz11_5 : w4.cell? ⟨gb290, 5, none⟩ = some (.int .i64 a0_5) := (blk_cell BK290.out 5).trans rfl
        have hcz11_6 : w4.cell? ⟨gb290, 6, none⟩ = some (.int .i64 a0_6) := (blk_cell BK290.out 6).trans rfl
        have hcz11_7 : w4.cell? ⟨gb290, 7, none⟩ = some (.int .i64 a0_7) := (blk_cell BK290.out 7).trans rfl
        have hcz11_8 : w4.cell? ⟨gb290, 8, none⟩ = some (.int .i64 a0_8) := (blk_cell BK290.out 8).trans rfl
        have hcz11_9 : w4.cell? ⟨gb290, 9, none⟩ = some (.int .i64 a0_9) := (blk_cell BK290.out 9).trans rfl
        have hcz11_10 : w4.cell? ⟨gb290, 10, none⟩ = some (.int .i64 a0_10) := (blk_cell BK290.out 10).trans rfl
        have hcz11_11 : w4.cell? ⟨gb290, 11, none⟩ = some (.int .i64 a0_11) := (blk_cell BK290.out 11).trans rfl
        have hcz11_12 : w4.cell? ⟨gb290, 12, none⟩ = some (.int .i64 a0_12) := (blk_cell BK290.out 12).trans rfl
        have hcz11_13 : w4.cell? ⟨gb290, 13, none⟩ = some (.int .i64 a0_13) := (blk_cell BK290.out 13).trans rfl
        have hcz11_14 : w4.cell? ⟨gb290, 14, none⟩ = some (.int .i64 a0_14) := (blk_cell BK290.out 14).trans rfl
        have hfz11_0 := blk_frozen BK290.out 0
        have hfz11_1 := blk_frozen BK290.out 1
        have hfz11_2 := blk_frozen BK290.out 2
        have hfz11_3 := blk_frozen BK290.out 3
        have hfz11_4 := blk_frozen BK290.out 4
        have hfz11_5 := blk_frozen BK290.out 5
        have hfz11_6 := blk_frozen BK290.out 6
        have hfz11_7 := blk_frozen BK290.out 7
        have hfz11_8 := blk_frozen BK290.out 8
        have hfz11_9 := blk_frozen BK290.out 9
        have hfz11_10 := blk_frozen BK290.out 10
        have hfz11_11 := blk_frozen BK290.out 11
        have hfz11_12 := blk_frozen BK290.out 12
        have hfz11_13 := blk_frozen BK290.out 13
        have hfz11_14 := blk_frozen BK290.out 14
        go_wp2_with (first | ((with_reducible refine gate_callee (f := 41) rfl ?_); refine goesL_ (some 15) rfl rfl Try.func41 (by kernel_rfl) rfl #[.agg #[.int .i64 a0_0, .int .i64 a0_1, .int .i64 a0_2, .int .i64 a0_3, .int .i64 a0_4, .int .i64 a0_5, .int .i64 a0_6, .int .i64 a0_7, .int .i64 a0_8, .int .i64 a0_9, .int .i64 a0_10]] rfl (by (try simp only [List.map_toArray, List.map_cons, List.map_nil]); first | done | rfl | (simp only [List.length_drop, List.length_take]; rfl)) ?_; (with_reducible refine (gatelineref09_Is.calls k a0_0 a0_1 a0_2 a0_3 a0_4 a0_5 a0_6 a0_7 a0_8 a0_9 a0_10 true _ A7.out).mono ?_); rintro e w12 ⟨rfl, hb⟩; refine ⟨_, rfl, ?_⟩; have n0_ := Aside0.mk (blk_below (g := gb290) (o := .cells #[.int .i64 a0_0, .int .i64 a0_1, .int .i64 a0_2, .int .i64 a0_3, .int .i64 a0_4, .int .i64 a0_5, .int .i64 a0_6, .int .i64 a0_7, .int .i64 a0_8, .int .i64 a0_9, .int .i64 a0_10, .int .i64 a0_11, .int .i64 a0_12, .int .i64 a0_13, .int .i64 a0_14] 46 (0, 0)) (by (with_reducible repeat (first | refine blk_drewN ?_ _ | refine blk_drew ?_ | refine blk_alloc ?_ _)); refine blk_far ?_ NB290_291.out _; (with_reducible repeat (first | refine blk_drewN ?_ _ | refine blk_drew ?_ | refine blk_alloc ?_ _)); refine blk_far ?_ NB290_291.out _; (with_reducible repeat (first | refine blk_drewN ?_ _ | refine blk_drew ?_ | refine blk_alloc ?_ _)); exact BK290.out) hb); have n1_ := Aside0.mk (blk_below (g := gb291) (o := .cells #[.int .i64 0, .int .i64 0] 44 (0, 0)) (by (with_reducible repeat (first | refine blk_drewN ?_ _ | refine blk_drew ?_ | refine blk_alloc ?_ _)); refine blk_put (cs := #[.int .i64 0, .int .i64 0]) ?_ 1 _ rfl; (with_reducible repeat (first | refine blk_drewN ?_ _ | refine blk_drew ?_ | refine blk_alloc ?_ _)); refine blk_put (cs := #[.int .i64 0, .int .i64 0]) ?_ 0 _ rfl; (with_reducible repeat (first | refine blk_drewN ?_ _ | refine blk_drew ?_ | refine blk_alloc ?_ _)); exact BK291.out) hb); have n2_ := Aside0.mk (below_step (by repeat (first | (with_reducible first | exact HB.out | apply below_alloc | apply pw_below_drewN | apply below_drew1 | refine below_set ?_ GE290.out | refine below_set ?_ GE291.out) | exact HB.out)) hb); clear BK290; clear BK291; clear HB; have BK290 := n0_; have BK291 := n1_; have HB := n2_; clear n0_ n1_ n2_; (try clear hb); (try clear hb2); (try clear hk); (try clear hi); (try clear A7); have hcz13_0 : w12.cell? ⟨gb290, 0, none⟩ = some (.int .i64 a0_0) := (blk_cell BK290.out 0).trans rfl; have hcz13_1 : w12.cell? ⟨gb290, 1, none⟩ = some (.int .i64 a0_1) := (blk_cell BK290.out 1).trans rfl; have hcz13_2 : w12.cell? ⟨gb290, 2, none⟩ = some (.int .i64 a0_2) := (blk_cell BK290.out 2).trans rfl; have hcz13_3 : w12.cell? ⟨gb290, 3, none⟩ = some (.int .i64 a0_3) := (blk_cell BK290.out 3).trans rfl; have hcz13_4 : w12.cell? ⟨gb290, 4, none⟩ = some (.int .i64 a0_4) := (blk_cell BK290.out 4).trans rfl; have hcz13_5 : w12.cell? ⟨gb290, 5, none⟩ = some (.int .i64 a0_5) := (blk_cell BK290.out 5).trans rfl; have hcz13_6 : w12.cell? ⟨gb290, 6, none⟩ = some (.int .i64 a0_6) := (blk_cell BK290.out 6).trans rfl; have hcz13_7 : w12.cell? ⟨gb290, 7, none⟩ = some (.int .i64 a0_7) := (blk_cell BK290.out 7).trans rfl; have hcz13_8 : w12.cell? ⟨gb290, 8, none⟩ = some (.int .i64 a0_8) := (blk_cell BK290.out 8).trans rfl; have hcz13_9 : w12.cell? ⟨gb290, 9, none⟩ = some (.int .i64 a0_9) := (blk_cell BK290.out 9).trans rfl; have hcz13_10 : w12.cell? ⟨gb290, 10, none⟩ = some (.int .i64 a0_10) := (blk_cell BK290.out 10).trans rfl; have hcz13_11 : w12.cell? ⟨gb290, 11, none⟩ = some (.int .i64 a0_11) := (blk_cell BK290.out 11).trans rfl; have hcz13_12 : w12.cell? ⟨gb290, 12, none⟩ = some (.int .i64 a0_12) := (blk_cell BK290.out 12).trans rfl; have hcz13_13 : w12.cell? ⟨gb290, 13, none⟩ = some (.int .i64 a0_13) := (blk_cell BK290.out 13).trans rfl; have hcz13_14 : w12.cell? ⟨gb290, 14, none⟩ = some (.int .i64 a0_14) := (blk_cell BK290.out 14).trans rfl; have hfz13_0 := blk_frozen BK290.out 0; have hfz13_1 := blk_frozen BK290.out 1; have hfz13_2 := blk_frozen BK290.out 2; have hfz13_3 := blk_frozen BK290.out 3; have hfz13_4 := blk_frozen BK290.out 4; have hfz13_5 := blk_frozen BK290.out 5; have hfz13_6 := blk_frozen BK290.out 6; have hfz13_7 := blk_frozen BK290.out 7; have hfz13_8 := blk_frozen BK290.out 8; have hfz13_9 := blk_frozen BK290.out 9; have hfz13_10 := blk_frozen BK290.out 10; have hfz13_11 := blk_frozen BK290.out 11; have hfz13_12 := blk_frozen BK290.out 12; have hfz13_13 := blk_frozen BK290.out 13; have hfz13_14 := blk_frozen BK290.out 14))
        go_meet
        case rel => exact ⟨_, (true), (by first | rfl | (simp; done) | (simp [*]; done)), H', ⟨by first | omega | exact Nat.le_refl _⟩, ⟨by (with_reducible repeat (first | refine blk_drewN ?_ _ | refine blk_drew ?_ | refine blk_alloc ?_ _)); exact BK290.out⟩, ⟨by (with_reducible repeat (first | refine blk_drewN ?_ _ | refine blk_drew ?_ | refine blk_alloc ?_ _)); exact BK291.out⟩, ⟨by repeat (first | (with_reducible first | exact HB.out | apply below_alloc | apply pw_below_drewN | apply below_drew1 | refine below_set ?_ GE290.out | refine below_set ?_ GE291.out) | exact HB.out)⟩⟩
      · rw [if_neg c9] at H
        have c9b0 : decide (a0_11 < 0) = false := decide_eq_false c9
        clear c9
        (first | rw [c9b0] | (simp only [i64_w, i32_w]; rw [c9b0]) | skip)
        by_cases c14 : a0_11 > 99
        · rw [if_pos c14] at H
          have c14b0 : decide (99 < a0_11) = true := decide_eq_true c14
          clear c14
          have H' := Aside0.mk H
          clear H
          have hnb15 := NB290_291.out
          have hnc15 := NB291_290.out
          have hcz16_0 : w4.cell? ⟨gb290, 0, none⟩ = some (.int .i64 a0_0) := (blk_cell BK290.out 0).trans rfl
          have hcz16_1 : w4.cell? ⟨gb290, 1, none⟩ = some (.int .i64 a0_1) := (blk_cell BK290.out 1).trans rfl
          have hcz16_2 : w4.cell? ⟨gb290, 2, none⟩ = some (.int .i64 a0_2) := (blk_cell BK290.out 2).trans rfl
          have hcz16_3 : w4.cell? ⟨gb290, 3, none⟩ = some (.int .i64 a0_3) := (blk_cell BK290.out 3).trans rfl
          have hcz16_4 : w4.cell? ⟨gb290, 4, none⟩ = some (.int .i64 a0_4) := (blk_cell BK290.out 4).trans rfl
          have hcz16_5 : w4.cell? ⟨gb290, 5, none⟩ = some (.int .i64 a0_5) := (blk_cell BK290.out 5).trans rfl
          have hcz16_6 : w4.cell? ⟨gb290, 6, none⟩ = some (.int .i64 a0_6) := (blk_cell BK290.out 6).trans rfl
          have hcz16_7 : w4.cell? ⟨gb290, 7, none⟩ = some (.int .i64 a0_7) := (blk_cell BK290.out 7).trans rfl
          have hcz16_8 : w4.cell? ⟨gb290, 8, none⟩ = some (.int .i64 a0_8) := (blk_cell BK290.out 8).trans rfl
          have hcz16_9 : w4.cell? ⟨gb290, 9, none⟩ = some (.int .i64 a0_9) := (blk_cell BK290.out 9).trans rfl
          have hcz16_10 : w4.cell? ⟨gb290, 10, none⟩ = some (.int .i64 a0_10) := (blk_cell BK290.out 10).trans rfl
          have hcz16_11 : w4.cell? ⟨gb290, 11, none⟩ = some (.int .i64 a0_11) := (blk_cell BK290.out 11).trans rfl
          have hcz16_12 : w4.cell? ⟨gb290, 12, none⟩ = some (.int .i64 a0_12) := (blk_cell BK290.out 12).trans rfl
          have hcz16_13 : w4.cell? ⟨gb290, 13, none⟩ = some (.int .i64 a0_13) := (blk_cell BK290.out 13).trans rfl
          have hcz16_14 : w4.cell? ⟨gb290, 14, none⟩ = some (.int .i64 a0_14) := (blk_cell BK290.out 14).trans rfl
          have hfz16_0 := blk_frozen BK290.out 0
          have hfz16_1 := blk_frozen BK290.out 1
          have hfz16_2 := blk_frozen BK290.out 2
          have hfz16_3 := blk_frozen BK290.out 3
          have hfz16_4 := blk_frozen BK290.out 4
          have hfz16_5 := blk_frozen BK290.out 5
          have hfz16_6 := blk_frozen BK290.out 6
          have hfz16_7 := blk_frozen BK290.out 7
          have hfz16_8 := blk_frozen BK290.out 8
          have hfz16_9 := blk_frozen BK290.out 9
          have hfz16_10 := blk_frozen BK290.out 10
          have hfz16_11 := blk_frozen BK290.out 11
          have hfz16_12 := blk_frozen BK290.out 12
          have hfz16_13 := blk_frozen BK290.out 13
          have hfz16_14 := blk_frozen BK290.out 14
          go_wp2_with (first | ((with_reducible refine gate_callee (f := 41) rfl ?_); refine goesL_ (some 15) rfl rfl Try.func41 (by kernel_rfl) rfl #[.agg #[.int .i64 a0_0, .int .i64 a0_1, .int .i64 a0_2, .int .i64 a0_3, .int .i64 a0_4, .int .i64 a0_5, .int .i64 a0_6, .int .i64 a0_7, .int .i64 a0_8, .int .i64 a0_9, .int .i64 a0_10]] rfl (by (try simp only [List.map_toArray, List.map_cons, List.map_nil]); first | done | rfl | (simp only [List.length_drop, List.length_take]; rfl)) ?_; (with_reducible refine (gatelineref09_Is.calls k a0_0 a0_1 a0_2 a0_3 a0_4 a0_5 a0_6 a0_7 a0_8 a0_9 a0_10 true _ A7.out).mono ?_); rintro e w17 ⟨rfl, hb⟩; refine ⟨_, rfl, ?_⟩; have n0_ := Aside0.mk (blk_below (g := gb290) (o := .cells #[.int .i64 a0_0, .int .i64 a0_1, .int .i64 a0_2, .int .i64 a0_3, .int .i64 a0_4, .int .i64 a0_5, .int .i64 a0_6, .int .i64 a0_7, .int .i64 a0_8, .int .i64 a0_9, .int .i64 a0_10, .int .i64 a0_11, .int .i64 a0_12, .int .i64 a0_13, .int .i64 a0_14] 46 (0, 0)) (by (with_reducible repeat (first | refine blk_drewN ?_ _ | refine blk_drew ?_ | refine blk_alloc ?_ _)); refine blk_far ?_ NB290_291.out _; (with_reducible repeat (first | refine blk_drewN ?_ _ | refine blk_drew ?_ | refine blk_alloc ?_ _)); refine blk_far ?_ NB290_291.out _; (with_reducible repeat (first | refine blk_drewN ?_ _ | refine blk_drew ?_ | refine blk_alloc ?_ _)); exact BK290.out) hb); have n1_ := Aside0.mk (blk_below (g := gb291) (o := .cells #[.int .i64 0, .int .i64 0] 44 (0, 0)) (by (with_reducible repeat (first | refine blk_drewN ?_ _ | refine blk_drew ?_ | refine blk_alloc ?_ _)); refine blk_put (cs := #[.int .i64 0, .int .i64 0]) ?_ 1 _ rfl; (with_reducible repeat (first | refine blk_drewN ?_ _ | refine blk_drew ?_ | refine blk_alloc ?_ _)); refine blk_put (cs := #[.int .i64 0, .int .i64 0]) ?_ 0 _ rfl; (with_reducible repeat (first | refine blk_drewN ?_ _ | refine blk_drew ?_ | refine blk_alloc ?_ _)); exact BK291.out) hb); have n2_ := Aside0.mk (below_step (by repeat (first | (with_reducible first | exact HB.out | apply below_alloc | apply pw_below_drewN | apply below_drew1 | refine below_set ?_ GE290.out | refine below_set ?_ GE291.out) | exact HB.out)) hb); clear BK290; clear BK291; clear HB; have BK290 := n0_; have BK291 := n1_; have HB := n2_; clear n0_ n1_ n2_; (try clear hb); (try clear hb2); (try clear hk); (try clear hi); (try clear A7); have hcz18_0 : w17.cell? ⟨gb290, 0, none⟩ = some (.int .i64 a0_0) := (blk_cell BK290.out 0).trans rfl; have hcz18_1 : w17.cell? ⟨gb290, 1, none⟩ = some (.int .i64 a0_1) := (blk_cell BK290.out 1).trans rfl; have hcz18_2 : w17.cell? ⟨gb290, 2, none⟩ = some (.int .i64 a0_2) := (blk_cell BK290.out 2).trans rfl; have hcz18_3 : w17.cell? ⟨gb290, 3, none⟩ = some (.int .i64 a0_3) := (blk_cell BK290.out 3).trans rfl; have hcz18_4 : w17.cell? ⟨gb290, 4, none⟩ = some (.int .i64 a0_4) := (blk_cell BK290.out 4).trans rfl; have hcz18_5 : w17.cell? ⟨gb290, 5, none⟩ = some (.int .i64 a0_5) := (blk_cell BK290.out 5).trans rfl; have hcz18_6 : w17.cell? ⟨gb290, 6, none⟩ = some (.int .i64 a0_6) := (blk_cell BK290.out 6).trans rfl; have hcz18_7 : w17.cell? ⟨gb290, 7, none⟩ = some (.int .i64 a0_7) := (blk_cell BK290.out 7).trans rfl; have hcz18_8 : w17.cell? ⟨gb290, 8, none⟩ = some (.int .i64 a0_8) := (blk_cell BK290.out 8).trans rfl; have hcz18_9 : w17.cell? ⟨gb290, 9, none⟩ = some (.int .i64 a0_9) := (blk_cell BK290.out 9).trans rfl; have hcz18_10 : w17.cell? ⟨gb290, 10, none⟩ = some (.int .i64 a0_10) := (blk_cell BK290.out 10).trans rfl; have hcz18_11 : w17.cell? ⟨gb290, 11, none⟩ = some (.int .i64 a0_11) := (blk_cell BK290.out 11).trans rfl; have hcz18_12 : w17.cell? ⟨gb290, 12, none⟩ = some (.int .i64 a0_12) := (blk_cell BK290.out 12).trans rfl; have hcz18_13 : w17.cell? ⟨gb290, 13, none⟩ = some (.int .i64 a0_13) := (blk_cell BK290.out 13).trans rfl; have hcz18_14 : w17.cell? ⟨gb290, 14, none⟩ = some (.int .i64 a0_14) := (blk_cell BK290.out 14).trans rfl; have hfz18_0 := blk_frozen BK290.out 0; have hfz18_1 := blk_frozen BK290.out 1; have hfz18_2 := blk_frozen BK290.out 2; have hfz18_3 := blk_frozen BK290.out 3; have hfz18_4 := blk_frozen BK290.out 4; have hfz18_5 := blk_frozen BK290.out 5; have hfz18_6 := blk_frozen BK290.out 6; have hfz18_7 := blk_frozen BK290.out 7; have hfz18_8 := blk_frozen BK290.out 8; have hfz18_9 := blk_frozen BK290.out 9; have hfz18_10 := blk_frozen BK290.out 10; have hfz18_11 := blk_frozen BK290.out 11; have hfz18_12 := blk_frozen BK290.out 12; have hfz18_13 := blk_frozen BK290.out 13; have hfz18_14 := blk_frozen BK290.out 14))
          go_meet
          case rel => exact ⟨_, (true), (by first | rfl | (simp; done) | (simp [*]; done)), H', ⟨by first | omega | exact Nat.le_refl _⟩, ⟨by (with_reducible repeat (first | refine blk_drewN ?_ _ | refine blk_drew ?_ | refine blk_alloc ?_ _)); exact BK290.out⟩, ⟨by (with_reducible repeat (first | refine blk_drewN ?_ _ | refine blk_drew ?_ | refine blk_alloc ?_ _)); exact BK291.out⟩, ⟨by repeat (first | (with_reducible first | exact HB.out | apply below_alloc | apply pw_below_drewN | apply below_drew1 | refine below_set ?_ GE290.out | refine below_set ?_ GE291.out) | exact HB.out)⟩⟩
        · rw [if_neg c14] at H
          have c14b0 : decide (99 < a0_11) = false := decide_eq_false c14
          clear c14
          by_cases c19 : (!(a0_12 == 0) || (!(a0_13 == 0))) = true
          · rw [if_pos c19] at H
            have c19b0 : (!(a0_12 == 0) || (!(a0_13 == 0))) = true := c19
            clear c19
            have H' := Aside0.mk H
            clear H
            have hnb20 := NB290_291.out
            have hnc20 := NB291_290.out
            have hcz21_0 : w4.cell? ⟨gb290, 0, none⟩ = some (.int .i64 a0_0) := (blk_cell BK290.out 0).trans rfl
            have hcz21_1 : w4.cell? ⟨gb290, 1, none⟩ = some (.int .i64 a0_1) := (blk_cell BK290.out 1).trans rfl
            have hcz21_2 : w4.cell? ⟨gb290, 2, none⟩ = some (.int .i64 a0_2) := (blk_cell BK290.out 2).trans rfl
            have hcz21_3 : w4.cell? ⟨gb290, 3, none⟩ = some (.int .i64 a0_3) := (blk_cell BK290.out 3).trans rfl
            have hcz21_4 : w4.cell? ⟨gb290, 4, none⟩ = some (.int .i64 a0_4) := (blk_cell BK290.out 4).trans rfl
            have hcz21_5 : w4.cell? ⟨gb290, 5, none⟩ = some (.int .i64 a0_5) := (blk_cell BK290.out 5).trans rfl
            have hcz21_6 : w4.cell? ⟨gb290, 6, none⟩ = some (.int .i64 a0_6) := (blk_cell BK290.out 6).trans rfl
            have hcz21_7 : w4.cell? ⟨gb290, 7, none⟩ = some (.int .i64 a0_7) := (blk_cell BK290.out 7).trans rfl
            have hcz21_8 : w4.cell? ⟨gb290, 8, none⟩ = some (.int .i64 a0_8) := (blk_cell BK290.out 8).trans rfl
            have hcz21_9 : w4.cell? ⟨gb290, 9, none⟩ = some (.int .i64 a0_9) := (blk_cell BK290.out 9).trans rfl
            have hcz21_10 : w4.cell? ⟨gb290, 10, none⟩ = some (.int .i64 a0_10) := (blk_cell BK290.out 10).trans rfl
            have hcz21_11 : w4.cell? ⟨gb290, 11, none⟩ = some (.int .i64 a0_11) := (blk_cell BK290.out 11).trans rfl
            have hcz21_12 : w4.cell? ⟨gb290, 12, none⟩ = some (.int .i64 a0_12) := (blk_cell BK290.out 12).trans rfl
            have hcz21_13 : w4.cell? ⟨gb290, 13, none⟩ = some (.int .i64 a0_13) := (blk_cell BK290.out 13).trans rfl
            have hcz21_14 : w4.cell? ⟨gb290, 14, none⟩ = some (.int .i64 a0_14) := (blk_cell BK290.out 14).trans rfl
            have hfz21_0 := blk_frozen BK290.out 0
            have hfz21_1 := blk_frozen BK290.out 1
            have hfz21_2 := blk_frozen BK290.out 2
            have hfz21_3 := blk_frozen BK290.out 3
            have hfz21_4 := blk_frozen BK290.out 4
            have hfz21_5 := blk_frozen BK290.out 5
            have hfz21_6 := blk_frozen BK290.out 6
            have hfz21_7 := blk_frozen BK290.out 7
            have hfz21_8 := blk_frozen BK290.out 8
            have hfz21_9 := blk_frozen BK290.out 9
            have hfz21_10 := blk_frozen BK290.out 10
            have hfz21_11 := blk_frozen BK290.out 11
            have hfz21_12 := blk_frozen BK290.out 12
            have hfz21_13 := blk_frozen BK290.out 13
            have hfz21_14 := blk_frozen BK290.out 14
            go_wp2_with (first | ((with_reducible refine gate_callee (f := 41) rfl ?_); refine goesL_ (some 15) rfl rfl Try.func41 (by kernel_rfl) rfl #[.agg #[.int .i64 a0_0, .int .i64 a0_1, .int .i64 a0_2, .int .i64 a0_3, .int .i64 a0_4, .int .i64 a0_5, .int .i64 a0_6, .int .i64 a0_7, .int .i64 a0_8, .int .i64 a0_9, .int .i64 a0_10]] rfl (by (try simp only [List.map_toArray, List.map_cons, List.map_nil]); first | done | rfl | (simp only [List.length_drop, List.length_take]; rfl)) ?_; (with_reducible refine (gatelineref09_Is.calls k a0_0 a0_1 a0_2 a0_3 a0_4 a0_5 a0_6 a0_7 a0_8 a0_9 a0_10 true _ A7.out).mono ?_); rintro e w22 ⟨rfl, hb⟩; refine ⟨_, rfl, ?_⟩; have n0_ := Aside0.mk (blk_below (g := gb290) (o := .cells #[.int .i64 a0_0, .int .i64 a0_1, .int .i64 a0_2, .int .i64 a0_3, .int .i64 a0_4, .int .i64 a0_5, .int .i64 a0_6, .int .i64 a0_7, .int .i64 a0_8, .int .i64 a0_9, .int .i64 a0_10, .int .i64 a0_11, .int .i64 a0_12, .int .i64 a0_13, .int .i64 a0_14] 46 (0, 0)) (by (with_reducible repeat (first | refine blk_drewN ?_ _ | refine blk_drew ?_ | refine blk_alloc ?_ _)); refine blk_far ?_ NB290_291.out _; (with_reducible repeat (first | refine blk_drewN ?_ _ | refine blk_drew ?_ | refine blk_alloc ?_ _)); refine blk_far ?_ NB290_291.out _; (with_reducible repeat (first | refine blk_drewN ?_ _ | refine blk_drew ?_ | refine blk_alloc ?_ _)); exact BK290.out) hb); have n1_ := Aside0.mk (blk_below (g := gb291) (o := .cells #[.int .i64 0, .int .i64 0] 44 (0, 0)) (by (with_reducible repeat (first | refine blk_drewN ?_ _ | refine blk_drew ?_ | refine blk_alloc ?_ _)); refine blk_put (cs := #[.int .i64 0, .int .i64 0]) ?_ 1 _ rfl; (with_reducible repeat (first | refine blk_drewN ?_ _ | refine blk_drew ?_ | refine blk_alloc ?_ _)); refine blk_put (cs := #[.int .i64 0, .int .i64 0]) ?_ 0 _ rfl; (with_reducible repeat (first | refine blk_drewN ?_ _ | refine blk_drew ?_ | refine blk_alloc ?_ _)); exact BK291.out) hb); have n2_ := Aside0.mk (below_step (by repeat (first | (with_reducible first | exact HB.out | apply below_alloc | apply pw_below_drewN | apply below_drew1 | refine below_set ?_ GE290.out | refine below_set ?_ GE291.out) | exact HB.out)) hb); clear BK290; clear BK291; clear HB; have BK290 := n0_; have BK291 := n1_; have HB := n2_; clear n0_ n1_ n2_; (try clear hb); (try clear hb2); (try clear hk); (try clear hi); (try clear A7); have hcz23_0 : w22.cell? ⟨gb290, 0, none⟩ = some (.int .i64 a0_0) := (blk_cell BK290.out 0).trans rfl; have hcz23_1 : w22.cell? ⟨gb290, 1, none⟩ = some (.int .i64 a0_1) := (blk_cell BK290.out 1).trans rfl; have hcz23_2 : w22.cell? ⟨gb290, 2, none⟩ = some (.int .i64 a0_2) := (blk_cell BK290.out 2).trans rfl; have hcz23_3 : w22.cell? ⟨gb290, 3, none⟩ = some (.int .i64 a0_3) := (blk_cell BK290.out 3).trans rfl; have hcz23_4 : w22.cell? ⟨gb290, 4, none⟩ = some (.int .i64 a0_4) := (blk_cell BK290.out 4).trans rfl; have hcz23_5 : w22.cell? ⟨gb290, 5, none⟩ = some (.int .i64 a0_5) := (blk_cell BK290.out 5).trans rfl; have hcz23_6 : w22.cell? ⟨gb290, 6, none⟩ = some (.int .i64 a0_6) := (blk_cell BK290.out 6).trans rfl; have hcz23_7 : w22.cell? ⟨gb290, 7, none⟩ = some (.int .i64 a0_7) := (blk_cell BK290.out 7).trans rfl; have hcz23_8 : w22.cell? ⟨gb290, 8, none⟩ = some (.int .i64 a0_8) := (blk_cell BK290.out 8).trans rfl; have hcz23_9 : w22.cell? ⟨gb290, 9, none⟩ = some (.int .i64 a0_9) := (blk_cell BK290.out 9).trans rfl; have hcz23_10 : w22.cell? ⟨gb290, 10, none⟩ = some (.int .i64 a0_10) := (blk_cell BK290.out 10).trans rfl; have hcz23_11 : w22.cell? ⟨gb290, 11, none⟩ = some (.int .i64 a0_11) := (blk_cell BK290.out 11).trans rfl; have hcz23_12 : w22.cell? ⟨gb290, 12, none⟩ = some (.int .i64 a0_12) := (blk_cell BK290.out 12).trans rfl; have hcz23_13 : w22.cell? ⟨gb290, 13, none⟩ = some (.int .i64 a0_13) := (blk_cell BK290.out 13).trans rfl; have hcz23_14 : w22.cell? ⟨gb290, 14, none⟩ = some (.int .i64 a0_14) := (blk_cell BK290.out 14).trans rfl; have hfz23_0 := blk_frozen BK290.out 0; have hfz23_1 := blk_frozen BK290.out 1; have hfz23_2 := blk_frozen BK290.out 2; have hfz23_3 := blk_frozen BK290.out 3; have hfz23_4 := blk_frozen BK290.out 4; have hfz23_5 := blk_frozen BK290.out 5; have hfz23_6 := blk_frozen BK290.out 6; have hfz23_7 := blk_frozen BK290.out 7; have hfz23_8 := blk_frozen BK290.out 8; have hfz23_9 := blk_frozen BK290.out 9; have hfz23_10 := blk_frozen BK290.out 10; have hfz23_11 := blk_frozen BK290.out 11; have hfz23_12 := blk_frozen BK290.out 12; have hfz23_13 := blk_frozen BK290.out 13; have hfz23_14 := blk_frozen BK290.out 14; have hcz24_0 : w22.cell? ⟨gb291, 0, none⟩ = some (.int .i64 0) := (blk_cell BK291.out 0).trans rfl; have hcz24_1 : w22.cell? ⟨gb291, 1, none⟩ = some (.int .i64 0) := (blk_cell BK291.out 1).trans rfl; have hfz24_0 := blk_frozen BK291.out 0; have hfz24_1 := blk_frozen BK291.out 1))
            go_meet
            case rel => exact ⟨_, (true), (by first | rfl | (simp; done) | (simp [*]; done)), H', ⟨by first | omega | exact Nat.le_refl _⟩, ⟨by (with_reducible repeat (first | refine blk_drewN ?_ _ | refine blk_drew ?_ | refine blk_alloc ?_ _)); exact BK290.out⟩, ⟨by (with_reducible repeat (first | refine blk_drewN ?_ _ | refine blk_drew ?_ | refine blk_alloc ?_ _)); exact BK291.out⟩, ⟨by repeat (first | (with_reducible first | exact HB.out | apply below_alloc | apply pw_below_drewN | apply below_drew1 | refine below_set ?_ GE290.out | refine below_set ?_ GE291.out) | exact HB.out)⟩⟩
          · rw [if_neg c19] at H
            have c19b0 : (!(a0_12 == 0) || (!(a0_13 == 0))) = false := by simpa using c19
            clear c19
            by_cases c25 : a0_14 < 1
            · rw [if_pos c25] at H
              have c25b0 : decide (a0_14 < 1) = true := decide_eq_true c25
              clear c25
              have H' := Aside0.mk H
              clear H
              have hnb26 := NB290_291.out
              have hnc26 := NB291_290.out
              have hcz27_0 : w4.cell? ⟨gb290, 0, none⟩ = some (.int .i64 a0_0) := (blk_cell BK290.out 0).trans rfl
              have hcz27_1 : w4.cell? ⟨gb290, 1, none⟩ = some (.int .i64 a0_1) := (blk_cell BK290.out 1).trans rfl
              have hcz27_2 : w4.cell? ⟨gb290, 2, none⟩ = some (.int .i64 a0_2) := (blk_cell BK290.out 2).trans rfl
              have hcz27_3 : w4.cell? ⟨gb290, 3, none⟩ = some (.int .i64 a0_3) := (blk_cell BK290.out 3).trans rfl
              have hcz27_4 : w4.cell? ⟨gb290, 4, none⟩ = some (.int .i64 a0_4) := (blk_cell BK290.out 4).trans rfl
              have hcz27_5 : w4.cell? ⟨gb290, 5, none⟩ = some (.int .i64 a0_5) := (blk_cell BK290.out 5).trans rfl
              have hcz27_6 : w4.cell? ⟨gb290, 6, none⟩ = some (.int .i64 a0_6) := (blk_cell BK290.out 6).trans rfl
              have hcz27_7 : w4.cell? ⟨gb290, 7, none⟩ = some (.int .i64 a0_7) := (blk_cell BK290.out 7).trans rfl
              have hcz27_8 : w4.cell? ⟨gb290, 8, none⟩ = some (.int .i64 a0_8) := (blk_cell BK290.out 8).trans rfl
              have hcz27_9 : w4.cell? ⟨gb290, 9, none⟩ = some (.int .i64 a0_9) := (blk_cell BK290.out 9).trans rfl
              have hcz27_10 : w4.cell? ⟨gb290, 10, none⟩ = some (.int .i64 a0_10) := (blk_cell BK290.out 10).trans rfl
              have hcz27_11 : w4.cell? ⟨gb290, 11, none⟩ = some (.int .i64 a0_11) := (blk_cell BK290.out 11).trans rfl
              have hcz27_12 : w4.cell? ⟨gb290, 12, none⟩ = some (.int .i64 a0_12) := (blk_cell BK290.out 12).trans rfl
              have hcz27_13 : w4.cell? ⟨gb290, 13, none⟩ = some (.int .i64 a0_13) := (blk_cell BK290.out 13).trans rfl
              have hcz27_14 : w4.cell? ⟨gb290, 14, none⟩ = some (.int .i64 a0_14) := (blk_cell BK290.out 14).trans rfl
              have hfz27_0 := blk_frozen BK290.out 0
              have hfz27_1 := blk_frozen BK290.out 1
              have hfz27_2 := blk_frozen BK290.out 2
              have hfz27_3 := blk_frozen BK290.out 3
              have hfz27_4 := blk_frozen BK290.out 4
              have hfz27_5 := blk_frozen BK290.out 5
              have hfz27_6 := blk_frozen BK290.out 6
              have hfz27_7 := blk_frozen BK290.out 7
              have hfz27_8 := blk_frozen BK290.out 8
              have hfz27_9 := blk_frozen BK290.out 9
              have hfz27_10 := blk_frozen BK290.out 10
              have hfz27_11 := blk_frozen BK290.out 11
              have hfz27_12 := blk_frozen BK290.out 12
              have hfz27_13 := blk_frozen BK290.out 13
              have hfz27_14 := blk_frozen BK290.out 14
              go_wp2_with (first | ((with_reducible refine gate_callee (f := 41) rfl ?_); refine goesL_ (some 15) rfl rfl Try.func41 (by kernel_rfl) rfl #[.agg #[.int .i64 a0_0, .int .i64 a0_1, .int .i64 a0_2, .int .i64 a0_3, .int .i64 a0_4, .int .i64 a0_5, .int .i64 a0_6, .int .i64 a0_7, .int .i64 a0_8, .int .i64 a0_9, .int .i64 a0_10]] rfl (by (try simp only [List.map_toArray, List.map_cons, List.map_nil]); first | done | rfl | (simp only [List.length_drop, List.length_take]; rfl)) ?_; (with_reducible refine (gatelineref09_Is.calls k a0_0 a0_1 a0_2 a0_3 a0_4 a0_5 a0_6 a0_7 a0_8 a0_9 a0_10 true _ A7.out).mono ?_); rintro e w28 ⟨rfl, hb⟩; refine ⟨_, rfl, ?_⟩; have n0_ := Aside0.mk (blk_below (g := gb290) (o := .cells #[.int .i64 a0_0, .int .i64 a0_1, .int .i64 a0_2, .int .i64 a0_3, .int .i64 a0_4, .int .i64 a0_5, .int .i64 a0_6, .int .i64 a0_7, .int .i64 a0_8, .int .i64 a0_9, .int .i64 a0_10, .int .i64 a0_11, .int .i64 a0_12, .int .i64 a0_13, .int .i64 a0_14] 46 (0, 0)) (by (with_reducible repeat (first | refine blk_drewN ?_ _ | refine blk_drew ?_ | refine blk_alloc ?_ _)); refine blk_far ?_ NB290_291.out _; (with_reducible repeat (first | refine blk_drewN ?_ _ | refine blk_drew ?_ | refine blk_alloc ?_ _)); refine blk_far ?_ NB290_291.out _; (with_reducible repeat (first | refine blk_drewN ?_ _ | refine blk_drew ?_ | refine blk_alloc ?_ _)); exact BK290.out) hb); have n1_ := Aside0.mk (blk_below (g := gb291) (o := .cells #[.int .i64 0, .int .i64 0] 44 (0, 0)) (by (with_reducible repeat (first | refine blk_drewN ?_ _ | refine blk_drew ?_ | refine blk_alloc ?_ _)); refine blk_put (cs := #[.int .i64 0, .int .i64 0]) ?_ 1 _ rfl; (with_reducible repeat (first | refine blk_drewN ?_ _ | refine blk_drew ?_ | refine blk_alloc ?_ _)); refine blk_put (cs := #[.int .i64 0, .int .i64 0]) ?_ 0 _ rfl; (with_reducible repeat (first | refine blk_drewN ?_ _ | refine blk_drew ?_ | refine blk_alloc ?_ _)); exact BK291.out) hb); have n2_ := Aside0.mk (below_step (by repeat (first | (with_reducible first | exact HB.out | apply below_alloc | apply pw_below_drewN | apply below_drew1 | refine below_set ?_ GE290.out | refine below_set ?_ GE291.out) | exact HB.out)) hb); clear BK290; clear BK291; clear HB; have BK290 := n0_; have BK291 := n1_; have HB := n2_; clear n0_ n1_ n2_; (try clear hb); (try clear hb2); (try clear hk); (try clear hi); (try clear A7); have hcz29_0 : w28.cell? ⟨gb290, 0, none⟩ = some (.int .i64 a0_0) := (blk_cell BK290.out 0).trans rfl; have hcz29_1 : w28.cell? ⟨gb290, 1, none⟩ = some (.int .i64 a0_1) := (blk_cell BK290.out 1).trans rfl; have hcz29_2 : w28.cell? ⟨gb290, 2, none⟩ = some (.int .i64 a0_2) := (blk_cell BK290.out 2).trans rfl; have hcz29_3 : w28.cell? ⟨gb290, 3, none⟩ = some (.int .i64 a0_3) := (blk_cell BK290.out 3).trans rfl; have hcz29_4 : w28.cell? ⟨gb290, 4, none⟩ = some (.int .i64 a0_4) := (blk_cell BK290.out 4).trans rfl; have hcz29_5 : w28.cell? ⟨gb290, 5, none⟩ = some (.int .i64 a0_5) := (blk_cell BK290.out 5).trans rfl; have hcz29_6 : w28.cell? ⟨gb290, 6, none⟩ = some (.int .i64 a0_6) := (blk_cell BK290.out 6).trans rfl; have hcz29_7 : w28.cell? ⟨gb290, 7, none⟩ = some (.int .i64 a0_7) := (blk_cell BK290.out 7).trans rfl; have hcz29_8 : w28.cell? ⟨gb290, 8, none⟩ = some (.int .i64 a0_8) := (blk_cell BK290.out 8).trans rfl; have hcz29_9 : w28.cell? ⟨gb290, 9, none⟩ = some (.int .i64 a0_9) := (blk_cell BK290.out 9).trans rfl; have hcz29_10 : w28.cell? ⟨gb290, 10, none⟩ = some (.int .i64 a0_10) := (blk_cell BK290.out 10).trans rfl; have hcz29_11 : w28.cell? ⟨gb290, 11, none⟩ = some (.int .i64 a0_11) := (blk_cell BK290.out 11).trans rfl; have hcz29_12 : w28.cell? ⟨gb290, 12, none⟩ = some (.int .i64 a0_12) := (blk_cell BK290.out 12).trans rfl; have hcz29_13 : w28.cell? ⟨gb290, 13, none⟩ = some (.int .i64 a0_13) := (blk_cell BK290.out 13).trans rfl; have hcz29_14 : w28.cell? ⟨gb290, 14, none⟩ = some (.int .i64 a0_14) := (blk_cell BK290.out 14).trans rfl; have hfz29_0 := blk_frozen BK290.out 0; have hfz29_1 := blk_frozen BK290.out 1; have hfz29_2 := blk_frozen BK290.out 2; have hfz29_3 := blk_frozen BK290.out 3; have hfz29_4 := blk_frozen BK290.out 4; have hfz29_5 := blk_frozen BK290.out 5; have hfz29_6 := blk_frozen BK290.out 6; have hfz29_7 := blk_frozen BK290.out 7; have hfz29_8 := blk_frozen BK290.out 8; have hfz29_9 := blk_frozen BK290.out 9; have hfz29_10 := blk_frozen BK290.out 10; have hfz29_11 := blk_frozen BK290.out 11; have hfz29_12 := blk_frozen BK290.out 12; have hfz29_13 := blk_frozen BK290.out 13; have hfz29_14 := blk_frozen BK290.out 14; have hcz30_0 : w28.cell? ⟨gb291, 0, none⟩ = some (.int .i64 0) := (blk_cell BK291.out 0).trans rfl; have hcz30_1 : w28.cell? ⟨gb291, 1, none⟩ = some (.int .i64 0) := (blk_cell BK291.out 1).trans rfl; have hfz30_0 := blk_frozen BK291.out 0; have hfz30_1 := blk_frozen BK291.out 1))
              go_meet
              case rel => exact ⟨_, (true), (by first | rfl | (simp; done) | (simp [*]; done)), H', ⟨by first | omega | exact Nat.le_refl _⟩, ⟨by (with_reducible repeat (first | refine blk_drewN ?_ _ | refine blk_drew ?_ | refine blk_alloc ?_ _)); exact BK290.out⟩, ⟨by (with_reducible repeat (first | refine blk_drewN ?_ _ | refine blk_drew ?_ | refine blk_alloc ?_ _)); exact BK291.out⟩, ⟨by repeat (first | (with_reducible first | exact HB.out | apply below_alloc | apply pw_below_drewN | apply below_drew1 | refine below_set ?_ GE290.out | refine below_set ?_ GE291.out) | exact HB.out)⟩⟩
            · rw [if_neg c25] at H
              have c25b0 : decide (a0_14 < 1) = false := decide_eq_false c25
              clear c25
              have H' := Aside0.mk H
              clear H
              have hnb31 := NB290_291.out
              have hnc31 := NB291_290.out
              have hcz32_0 : w4.cell? ⟨gb290, 0, none⟩ = some (.int .i64 a0_0) := (blk_cell BK290.out 0).trans rfl
              have hcz32_1 : w4.cell? ⟨gb290, 1, none⟩ = some (.int .i64 a0_1) := (blk_cell BK290.out 1).trans rfl
              have hcz32_2 : w4.cell? ⟨gb290, 2, none⟩ = some (.int .i64 a0_2) := (blk_cell BK290.out 2).trans rfl
              have hcz32_3 : w4.cell? ⟨gb290, 3, none⟩ = some (.int .i64 a0_3) := (blk_cell BK290.out 3).trans rfl
              have hcz32_4 : w4.cell? ⟨gb290, 4, none⟩ = some (.int .i64 a0_4) := (blk_cell BK290.out 4).trans rfl
              have hcz32_5 : w4.cell? ⟨gb290, 5, none⟩ = some (.int .i64 a0_5) := (blk_cell BK290.out 5).trans rfl
              have hcz32_6 : w4.cell? ⟨gb290, 6, none⟩ = some (.int .i64 a0_6) := (blk_cell BK290.out 6).trans rfl
              have hcz32_7 : w4.cell? ⟨gb290, 7, none⟩ = some (.int .i64 a0_7) := (blk_cell BK290.out 7).trans rfl
              have hcz32_8 : w4.cell? ⟨gb290, 8, none⟩ = some (.int .i64 a0_8) := (blk_cell BK290.out 8).trans rfl
              have hcz32_9 : w4.cell? ⟨gb290, 9, none⟩ = some (.int .i64 a0_9) := (blk_cell BK290.out 9).trans rfl
              have hcz32_10 : w4.cell? ⟨gb290, 10, none⟩ = some (.int .i64 a0_10) := (blk_cell BK290.out 10).trans rfl
              have hcz32_11 : w4.cell? ⟨gb290, 11, none⟩ = some (.int .i64 a0_11) := (blk_cell BK290.out 11).trans rfl
              have hcz32_12 : w4.cell? ⟨gb290, 12, none⟩ = some (.int .i64 a0_12) := (blk_cell BK290.out 12).trans rfl
              have hcz32_13 : w4.cell? ⟨gb290, 13, none⟩ = some (.int .i64 a0_13) := (blk_cell BK290.out 13).trans rfl
              have hcz32_14 : w4.cell? ⟨gb290, 14, none⟩ = some (.int .i64 a0_14) := (blk_cell BK290.out 14).trans rfl
              have hfz32_0 := blk_frozen BK290.out 0
              have hfz32_1 := blk_frozen BK290.out 1
              have hfz32_2 := blk_frozen BK290.out 2
              have hfz32_3 := blk_frozen BK290.out 3
              have hfz32_4 := blk_frozen BK290.out 4
              have hfz32_5 := blk_frozen BK290.out 5
              have hfz32_6 := blk_frozen BK290.out 6
              have hfz32_7 := blk_frozen BK290.out 7
              have hfz32_8 := blk_frozen BK290.out 8
              have hfz32_9 := blk_frozen BK290.out 9
              have hfz32_10 := blk_frozen BK290.out 10
              have hfz32_11 := blk_frozen BK290.out 11
              have hfz32_12 := blk_frozen BK290.out 12
              have hfz32_13 := blk_frozen BK290.out 13
              have hfz32_14 := blk_frozen BK290.out 14
              go_wp2_with (first | ((with_reducible refine gate_callee (f := 41) rfl ?_); refine goesL_ (some 15) rfl rfl Try.func41 (by kernel_rfl) rfl #[.agg #[.int .i64 a0_0, .int .i64 a0_1, .int .i64 a0_2, .int .i64 a0_3, .int .i64 a0_4, .int .i64 a0_5, .int .i64 a0_6, .int .i64 a0_7, .int .i64 a0_8, .int .i64 a0_9, .int .i64 a0_10]] rfl (by (try simp only [List.map_toArray, List.map_cons, List.map_nil]); first | done | rfl | (simp only [List.length_drop, List.length_take]; rfl)) ?_; (with_reducible refine (gatelineref09_Is.calls k a0_0 a0_1 a0_2 a0_3 a0_4 a0_5 a0_6 a0_7 a0_8 a0_9 a0_10 true _ A7.out).mono ?_); rintro e w33 ⟨rfl, hb⟩; refine ⟨_, rfl, ?_⟩; have n0_ := Aside0.mk (blk_below (g := gb290) (o := .cells #[.int .i64 a0_0, .int .i64 a0_1, .int .i64 a0_2, .int .i64 a0_3, .int .i64 a0_4, .int .i64 a0_5, .int .i64 a0_6, .int .i64 a0_7, .int .i64 a0_8, .int .i64 a0_9, .int .i64 a0_10, .int .i64 a0_11, .int .i64 a0_12, .int .i64 a0_13, .int .i64 a0_14] 46 (0, 0)) (by (with_reducible repeat (first | refine blk_drewN ?_ _ | refine blk_drew ?_ | refine blk_alloc ?_ _)); refine blk_far ?_ NB290_291.out _; (with_reducible repeat (first | refine blk_drewN ?_ _ | refine blk_drew ?_ | refine blk_alloc ?_ _)); refine blk_far ?_ NB290_291.out _; (with_reducible repeat (first | refine blk_drewN ?_ _ | refine blk_drew ?_ | refine blk_alloc ?_ _)); exact BK290.out) hb); have n1_ := Aside0.mk (blk_below (g := gb291) (o := .cells #[.int .i64 0, .int .i64 0] 44 (0, 0)) (by (with_reducible repeat (first | refine blk_drewN ?_ _ | refine blk_drew ?_ | refine blk_alloc ?_ _)); refine blk_put (cs := #[.int .i64 0, .int .i64 0]) ?_ 1 _ rfl; (with_reducible repeat (first | refine blk_drewN ?_ _ | refine blk_drew ?_ | refine blk_alloc ?_ _)); refine blk_put (cs := #[.int .i64 0, .int .i64 0]) ?_ 0 _ rfl; (with_reducible repeat (first | refine blk_drewN ?_ _ | refine blk_drew ?_ | refine blk_alloc ?_ _)); exact BK291.out) hb); have n2_ := Aside0.mk (below_step (by repeat (first | (with_reducible first | exact HB.out | apply below_alloc | apply pw_below_drewN | apply below_drew1 | refine below_set ?_ GE290.out | refine below_set ?_ GE291.out) | exact HB.out)) hb); clear BK290; clear BK291; clear HB; have BK290 := n0_; have BK291 := n1_; have HB := n2_; clear n0_ n1_ n2_; (try clear hb); (try clear hb2); (try clear hk); (try clear hi); (try clear A7); have hcz34_0 : w33.cell? ⟨gb290, 0, none⟩ = some (.int .i64 a0_0) := (blk_cell BK290.out 0).trans rfl; have hcz34_1 : w33.cell? ⟨gb290, 1, none⟩ = some (.int .i64 a0_1) := (blk_cell BK290.out 1).trans rfl; have hcz34_2 : w33.cell? ⟨gb290, 2, none⟩ = some (.int .i64 a0_2) := (blk_cell BK290.out 2).trans rfl; have hcz34_3 : w33.cell? ⟨gb290, 3, none⟩ = some (.int .i64 a0_3) := (blk_cell BK290.out 3).trans rfl; have hcz34_4 : w33.cell? ⟨gb290, 4, none⟩ = some (.int .i64 a0_4) := (blk_cell BK290.out 4).trans rfl; have hcz34_5 : w33.cell? ⟨gb290, 5, none⟩ = some (.int .i64 a0_5) := (blk_cell BK290.out 5).trans rfl; have hcz34_6 : w33.cell? ⟨gb290, 6, none⟩ = some (.int .i64 a0_6) := (blk_cell BK290.out 6).trans rfl; have hcz34_7 : w33.cell? ⟨gb290, 7, none⟩ = some (.int .i64 a0_7) := (blk_cell BK290.out 7).trans rfl; have hcz34_8 : w33.cell? ⟨gb290, 8, none⟩ = some (.int .i64 a0_8) := (blk_cell BK290.out 8).trans rfl; have hcz34_9 : w33.cell? ⟨gb290, 9, none⟩ = some (.int .i64 a0_9) := (blk_cell BK290.out 9).trans rfl; have hcz34_10 : w33.cell? ⟨gb290, 10, none⟩ = some (.int .i64 a0_10) := (blk_cell BK290.out 10).trans rfl; have hcz34_11 : w33.cell? ⟨gb290, 11, none⟩ = some (.int .i64 a0_11) := (blk_cell BK290.out 11).trans rfl; have hcz34_12 : w33.cell? ⟨gb290, 12, none⟩ = some (.int .i64 a0_12) := (blk_cell BK290.out 12).trans rfl; have hcz34_13 : w33.cell? ⟨gb290, 13, none⟩ = some (.int .i64 a0_13) := (blk_cell BK290.out 13).trans rfl; have hcz34_14 : w33.cell? ⟨gb290, 14, none⟩ = some (.int .i64 a0_14) := (blk_cell BK290.out 14).trans rfl; have hfz34_0 := blk_frozen BK290.out 0; have hfz34_1 := blk_frozen BK290.out 1; have hfz34_2 := blk_frozen BK290.out 2; have hfz34_3 := blk_frozen BK290.out 3; have hfz34_4 := blk_frozen BK290.out 4; have hfz34_5 := blk_frozen BK290.out 5; have hfz34_6 := blk_frozen BK290.out 6; have hfz34_7 := blk_frozen BK290.out 7; have hfz34_8 := blk_frozen BK290.out 8; have hfz34_9 := blk_frozen BK290.out 9; have hfz34_10 := blk_frozen BK290.out 10; have hfz34_11 := blk_frozen BK290.out 11; have hfz34_12 := blk_frozen BK290.out 12; have hfz34_13 := blk_frozen BK290.out 13; have hfz34_14 := blk_frozen BK290.out 14; have hcz35_0 : w33.cell? ⟨gb291, 0, none⟩ = some (.int .i64 0) := (blk_cell BK291.out 0).trans rfl; have hcz35_1 : w33.cell? ⟨gb291, 1, none⟩ = some (.int .i64 0) := (blk_cell BK291.out 1).trans rfl; have hfz35_0 := blk_frozen BK291.out 0; have hfz35_1 := blk_frozen BK291.out 1))
              go_meet
              case rel => exact ⟨_, (decide (a0_14 > 3)), (by first | rfl | (simp; done) | (simp [*]; done)), H', ⟨by first | omega | exact Nat.le_refl _⟩, ⟨by (with_reducible repeat (first | refine blk_drewN ?_ _ | refine blk_drew ?_ | refine blk_alloc ?_ _)); exact BK290.out⟩, ⟨by (with_reducible repeat (first | refine blk_drewN ?_ _ | refine blk_drew ?_ | refine blk_alloc ?_ _)); exact BK291.out⟩, ⟨by repeat (first | (with_reducible first | exact HB.out | apply below_alloc | apply pw_below_drewN | apply below_drew1 | refine below_set ?_ GE290.out | refine below_set ?_ GE291.out) | exact HB.out)⟩⟩
    · replace c8 := Bool.eq_false_iff.mpr c8
      subst c8
      have H1 : (gatelineref18_Put.j0 k true a0_0 a0_1 a0_2 a0_3 a0_4 a0_5 a0_6 a0_7 a0_8 a0_9 a0_10 a0_11 a0_12 a0_13 a0_14) = some (r1, r2) := by rw [if_neg (show ¬ (false = true) by decide)] at H; exact H
      clear H
      have H := H1
      clear H1
      have H' := Aside0.mk H
      clear H
      have hnb36 := NB290_291.out
      have hnc36 := NB291_290.out
      have hcz37_0 : w4.cell? ⟨gb290, 0, none⟩ = some (.int .i64 a0_0) := (blk_cell BK290.out 0).trans rfl
      have hcz37_1 : w4.cell? ⟨gb290, 1, none⟩ = some (.int .i64 a0_1) := (blk_cell BK290.out 1).trans rfl
      have hcz37_2 : w4.cell? ⟨gb290, 2, none⟩ = some (.int .i64 a0_2) := (blk_cell BK290.out 2).trans rfl
      have hcz37_3 : w4.cell? ⟨gb290, 3, none⟩ = some (.int .i64 a0_3) := (blk_cell BK290.out 3).trans rfl
      have hcz37_4 : w4.cell? ⟨gb290, 4, none⟩ = some (.int .i64 a0_4) := (blk_cell BK290.out 4).trans rfl
      have hcz37_5 : w4.cell? ⟨gb290, 5, none⟩ = some (.int .i64 a0_5) := (blk_cell BK290.out 5).trans rfl
      have hcz37_6 : w4.cell? ⟨gb290, 6, none⟩ = some (.int .i64 a0_6) := (blk_cell BK290.out 6).trans rfl
      have hcz37_7 : w4.cell? ⟨gb290, 7, none⟩ = some (.int .i64 a0_7) := (blk_cell BK290.out 7).trans rfl
      have hcz37_8 : w4.cell? ⟨gb290, 8, none⟩ = some (.int .i64 a0_8) := (blk_cell BK290.out 8).trans rfl
      have hcz37_9 : w4.cell? ⟨gb290, 9, none⟩ = some (.int .i64 a0_9) := (blk_cell BK290.out 9).trans rfl
      have hcz37_10 : w4.cell? ⟨gb290, 10, none⟩ = some (.int .i64 a0_10) := (blk_cell BK290.out 10).trans rfl
      have hcz37_11 : w4.cell? ⟨gb290, 11, none⟩ = some (.int .i64 a0_11) := (blk_cell BK290.out 11).trans rfl
      have hcz37_12 : w4.cell? ⟨gb290, 12, none⟩ = some (.int .i64 a0_12) := (blk_cell BK290.out 12).trans rfl
      have hcz37_13 : w4.cell? ⟨gb290, 13, none⟩ = some (.int .i64 a0_13) := (blk_cell BK290.out 13).trans rfl
      have hcz37_14 : w4.cell? ⟨gb290, 14, none⟩ = some (.int .i64 a0_14) := (blk_cell BK290.out 14).trans rfl
      have hfz37_0 := blk_frozen BK290.out 0
      have hfz37_1 := blk_frozen BK290.out 1
      have hfz37_2 := blk_frozen BK290.out 2
      have hfz37_3 := blk_frozen BK290.out 3
      have hfz37_4 := blk_frozen BK290.out 4
      have hfz37_5 := blk_frozen BK290.out 5
      have hfz37_6 := blk_frozen BK290.out 6
      have hfz37_7 := blk_frozen BK290.out 7
      have hfz37_8 := blk_frozen BK290.out 8
      have hfz37_9 := blk_frozen BK290.out 9
      have hfz37_10 := blk_frozen BK290.out 10
      have hfz37_11 := blk_frozen BK290.out 11
      have hfz37_12 := blk_frozen BK290.out 12
      have hfz37_13 := blk_frozen BK290.out 13
      have hfz37_14 := blk_frozen BK290.out 14
      go_wp2_with (first | ((with_reducible refine gate_callee (f := 41) rfl ?_); refine goesL_ (some 15) rfl rfl Try.func41 (by kernel_rfl) rfl #[.agg #[.int .i64 a0_0, .int .i64 a0_1, .int .i64 a0_2, .int .i64 a0_3, .int .i64 a0_4, .int .i64 a0_5, .int .i64 a0_6, .int .i64 a0_7, .int .i64 a0_8, .int .i64 a0_9, .int .i64 a0_10]] rfl (by (try simp only [List.map_toArray, List.map_cons, List.map_nil]); first | done | rfl | (simp only [List.length_drop, List.length_take]; rfl)) ?_; (with_reducible refine (gatelineref09_Is.calls k a0_0 a0_1 a0_2 a0_3 a0_4 a0_5 a0_6 a0_7 a0_8 a0_9 a0_10 false _ A7.out).mono ?_); rintro e w38 ⟨rfl, hb⟩; refine ⟨_, rfl, ?_⟩; have n0_ := Aside0.mk (blk_below (g := gb290) (o := .cells #[.int .i64 a0_0, .int .i64 a0_1, .int .i64 a0_2, .int .i64 a0_3, .int .i64 a0_4, .int .i64 a0_5, .int .i64 a0_6, .int .i64 a0_7, .int .i64 a0_8, .int .i64 a0_9, .int .i64 a0_10, .int .i64 a0_11, .int .i64 a0_12, .int .i64 a0_13, .int .i64 a0_14] 46 (0, 0)) (by (with_reducible repeat (first | refine blk_drewN ?_ _ | refine blk_drew ?_ | refine blk_alloc ?_ _)); refine blk_far ?_ NB290_291.out _; (with_reducible repeat (first | refine blk_drewN ?_ _ | refine blk_drew ?_ | refine blk_alloc ?_ _)); refine blk_far ?_ NB290_291.out _; (with_reducible repeat (first | refine blk_drewN ?_ _ | refine blk_drew ?_ | refine blk_alloc ?_ _)); exact BK290.out) hb); have n1_ := Aside0.mk (blk_below (g := gb291) (o := .cells #[.int .i64 0, .int .i64 0] 44 (0, 0)) (by (with_reducible repeat (first | refine blk_drewN ?_ _ | refine blk_drew ?_ | refine blk_alloc ?_ _)); refine blk_put (cs := #[.int .i64 0, .int .i64 0]) ?_ 1 _ rfl; (with_reducible repeat (first | refine blk_drewN ?_ _ | refine blk_drew ?_ | refine blk_alloc ?_ _)); refine blk_put (cs := #[.int .i64 0, .int .i64 0]) ?_ 0 _ rfl; (with_reducible repeat (first | refine blk_drewN ?_ _ | refine blk_drew ?_ | refine blk_alloc ?_ _)); exact BK291.out) hb); have n2_ := Aside0.mk (below_step (by repeat (first | (with_reducible first | exact HB.out | apply below_alloc | apply pw_below_drewN | apply below_drew1 | refine below_set ?_ GE290.out | refine below_set ?_ GE291.out) | exact HB.out)) hb); clear BK290; clear BK291; clear HB; have BK290 := n0_; have BK291 := n1_; have HB := n2_; clear n0_ n1_ n2_; (try clear hb); (try clear hb2); (try clear hk); (try clear hi); (try clear A7)))
      go_meet
      case rel => exact ⟨_, (true), (by first | rfl | (simp; done) | (simp [*]; done)), H', ⟨by first | omega | exact Nat.le_refl _⟩, ⟨by (with_reducible repeat (first | refine blk_drewN ?_ _ | refine blk_drew ?_ | refine blk_alloc ?_ _)); exact BK290.out⟩, ⟨by (with_reducible repeat (first | refine blk_drewN ?_ _ | refine blk_drew ?_ | refine blk_alloc ?_ _)); exact BK291.out⟩, ⟨by repeat (first | (with_reducible first | exact HB.out | apply below_alloc | apply pw_below_drewN | apply below_drew1 | refine below_set ?_ GE290.out | refine below_set ?_ GE291.out) | exact HB.out)⟩⟩
  case rest =>
    clear HC2
    try clear c1
    try clear c2
    try clear p2
    try clear c3
    try clear c4
    try clear c5
    try clear c8
    try clear c9
    try clear c9b0
    try clear c10
    try clear c14
    try clear c14b0
    try clear c15
    try clear c19
    try clear c19b0
    try clear c20
    try clear c25
    try clear c25b0
    try clear c26
    try clear c29
    try clear c31
    try clear c36
    try clear hcz11_0
    try clear hcz11_1
    try clear hcz11_10
    try clear hcz11_11
    try clear hcz11_12
    try clear hcz11_13
    try clear hcz11_14
    try clear hcz11_2
    try clear hcz11_3
    try clear hcz11_4
    try clear hcz11_5
    try clear hcz11_6
    try clear hcz11_7
    try clear hcz11_8
    try clear hcz11_9
    try clear hcz13_0
    try clear hcz13_1
    try clear hcz13_10
    try clear hcz13_11
    try clear hcz13_12
    try clear hcz13_13
    try clear hcz13_14
    try clear hcz13_2
    try clear hcz13_3
    try clear hcz13_4
    try clear hcz13_5
    try clear hcz13_6
    try clear hcz13_7
    try clear hcz13_8
    try clear hcz13_9
    try clear hcz16_0
    try clear hcz16_1
    try clear hcz16_10
    try clear hcz16_11
    try clear hcz16_12
    try clear hcz16_13
    try clear hcz16_14
    try clear hcz16_2
    try clear hcz16_3
    try clear hcz16_4
    try clear hcz16_5
    try clear hcz16_6
    try clear hcz16_7
    try clear hcz16_8
    try clear hcz16_9
    try clear hcz18_0
    try clear hcz18_1
    try clear hcz18_10
    try clear hcz18_11
    try clear hcz18_12
    try clear hcz18_13
    try clear hcz18_14
    try clear hcz18_2
    try clear hcz18_3
    try clear hcz18_4
    try clear hcz18_5
    try clear hcz18_6
    try clear hcz18_7
    try clear hcz18_8
    try clear hcz18_9
    try clear hcz21_0
    try clear hcz21_1
    try clear hcz21_10
    try clear hcz21_11
    try clear hcz21_12
    try clear hcz21_13
    try clear hcz21_14
    try clear hcz21_2
    try clear hcz21_3
    try clear hcz21_4
    try clear hcz21_5
    try clear hcz21_6
    try clear hcz21_7
    try clear hcz21_8
    try clear hcz21_9
    try clear hcz23_0
    try clear hcz23_1
    try clear hcz23_10
    try clear hcz23_11
    try clear hcz23_12
    try clear hcz23_13
    try clear hcz23_14
    try clear hcz23_2
    try clear hcz23_3
    try clear hcz23_4
    try clear hcz23_5
    try clear hcz23_6
    try clear hcz23_7
    try clear hcz23_8
    try clear hcz23_9
    try clear hcz24_0
    try clear hcz24_1
    try clear hcz27_0
    try clear hcz27_1
    try clear hcz27_10
    try clear hcz27_11
    try clear hcz27_12
    try clear hcz27_13
    try clear hcz27_14
    try clear hcz27_2
    try clear hcz27_3
    try clear hcz27_4
    try clear hcz27_5
    try clear hcz27_6
    try clear hcz27_7
    try clear hcz27_8
    try clear hcz27_9
    try clear hcz29_0
    try clear hcz29_1
    try clear hcz29_10
    try clear hcz29_11
    try clear hcz29_12
    try clear hcz29_13
    try clear hcz29_14
    try clear hcz29_2
    try clear hcz29_3
    try clear hcz29_4
    try clear hcz29_5
    try clear hcz29_6
    try clear hcz29_7
    try clear hcz29_8
    try clear hcz29_9
    try clear hcz30_0
    try clear hcz30_1
    try clear hcz32_0
    try clear hcz32_1
    try clear hcz32_10
    try clear hcz32_11
    try clear hcz32_12
    try clear hcz32_13
    try clear hcz32_14
    try clear hcz32_2
    try clear hcz32_3
    try clear hcz32_4
    try clear hcz32_5
    try clear hcz32_6
    try clear hcz32_7
    try clear hcz32_8
    try clear hcz32_9
    try clear hcz34_0
    try clear hcz34_1
    try clear hcz34_10
    try clear hcz34_11
    try clear hcz34_12
    try clear hcz34_13
    try clear hcz34_14
    try clear hcz34_2
    try clear hcz34_3
    try clear hcz34_4
    try clear hcz34_5
    try clear hcz34_6
    try clear hcz34_7
    try clear hcz34_8
    try clear hcz34_9
    try clear hcz35_0
    try clear hcz35_1
    try clear hcz37_0
    try clear hcz37_1
    try clear hcz37_10
    try clear hcz37_11
    try clear hcz37_12
    try clear hcz37_13
    try clear hcz37_14
    try clear hcz37_2
    try clear hcz37_3
    try clear hcz37_4
    try clear hcz37_5
    try clear hcz37_6
    try clear hcz37_7
    try clear hcz37_8
    try clear hcz37_9
    try clear hcz6_0
    try clear hcz6_1
    try clear hfz11_0
    try clear hfz11_1
    try clear hfz11_10
    try clear hfz11_11
    try clear hfz11_12
    try clear hfz11_13
    try clear hfz11_14
    try clear hfz11_2
    try clear hfz11_3
    try clear hfz11_4
    try clear hfz11_5
    try clear hfz11_6
    try clear hfz11_7
    try clear hfz11_8
    try clear hfz11_9
    try clear hfz13_0
    try clear hfz13_1
    try clear hfz13_10
    try clear hfz13_11
    try clear hfz13_12
    try clear hfz13_13
    try clear hfz13_14
    try clear hfz13_2
    try clear hfz13_3
    try clear hfz13_4
    try clear hfz13_5
    try clear hfz13_6
    try clear hfz13_7
    try clear hfz13_8
    try clear hfz13_9
    try clear hfz16_0
    try clear hfz16_1
    try clear hfz16_10
    try clear hfz16_11
    try clear hfz16_12
    try clear hfz16_13
    try clear hfz16_14
    try clear hfz16_2
    try clear hfz16_3
    try clear hfz16_4
    try clear hfz16_5
    try clear hfz16_6
    try clear hfz16_7
    try clear hfz16_8
    try clear hfz16_9
    try clear hfz18_0
    try clear hfz18_1
    try clear hfz18_10
    try clear hfz18_11
    try clear hfz18_12
    try clear hfz18_13
    try clear hfz18_14
    try clear hfz18_2
    try clear hfz18_3
    try clear hfz18_4
    try clear hfz18_5
    try clear hfz18_6
    try clear hfz18_7
    try clear hfz18_8
    try clear hfz18_9
    try clear hfz21_0
    try clear hfz21_1
    try clear hfz21_10
    try clear hfz21_11
    try clear hfz21_12
    try clear hfz21_13
    try clear hfz21_14
    try clear hfz21_2
    try clear hfz21_3
    try clear hfz21_4
    try clear hfz21_5
    try clear hfz21_6
    try clear hfz21_7
    try clear hfz21_8
    try clear hfz21_9
    try clear hfz23_0
    try clear hfz23_1
    try clear hfz23_10
    try clear hfz23_11
    try clear hfz23_12
    try clear hfz23_13
    try clear hfz23_14
    try clear hfz23_2
    try clear hfz23_3
    try clear hfz23_4
    try clear hfz23_5
    try clear hfz23_6
    try clear hfz23_7
    try clear hfz23_8
    try clear hfz23_9
    try clear hfz24_0
    try clear hfz24_1
    try clear hfz27_0
    try clear hfz27_1
    try clear hfz27_10
    try clear hfz27_11
    try clear hfz27_12
    try clear hfz27_13
    try clear hfz27_14
    try clear hfz27_2
    try clear hfz27_3
    try clear hfz27_4
    try clear hfz27_5
    try clear hfz27_6
    try clear hfz27_7
    try clear hfz27_8
    try clear hfz27_9
    try clear hfz29_0
    try clear hfz29_1
    try clear hfz29_10
    try clear hfz29_11
    try clear hfz29_12
    try clear hfz29_13
    try clear hfz29_14
    try clear hfz29_2
    try clear hfz29_3
    try clear hfz29_4
    try clear hfz29_5
    try clear hfz29_6
    try clear hfz29_7
    try clear hfz29_8
    try clear hfz29_9
    try clear hfz30_0
    try clear hfz30_1
    try clear hfz32_0
    try clear hfz32_1
    try clear hfz32_10
    try clear hfz32_11
    try clear hfz32_12
    try clear hfz32_13
    try clear hfz32_14
    try clear hfz32_2
    try clear hfz32_3
    try clear hfz32_4
    try clear hfz32_5
    try clear hfz32_6
    try clear hfz32_7
    try clear hfz32_8
    try clear hfz32_9
    try clear hfz34_0
    try clear hfz34_1
    try clear hfz34_10
    try clear hfz34_11
    try clear hfz34_12
    try clear hfz34_13
    try clear hfz34_14
    try clear hfz34_2
    try clear hfz34_3
    try clear hfz34_4
    try clear hfz34_5
    try clear hfz34_6
    try clear hfz34_7
    try clear hfz34_8
    try clear hfz34_9
    try clear hfz35_0
    try clear hfz35_1
    try clear hfz37_0
    try clear hfz37_1
    try clear hfz37_10
    try clear hfz37_11
    try clear hfz37_12
    try clear hfz37_13
    try clear hfz37_14
    try clear hfz37_2
    try clear hfz37_3
    try clear hfz37_4
    try clear hfz37_5
    try clear hfz37_6
    try clear hfz37_7
    try clear hfz37_8
    try clear hfz37_9
    try clear hfz6_0
    try clear hfz6_1
    obtain ⟨kq, x42_1, rfl, HA, HJ1, BK290, BK291, HB⟩ := hcut
    cases kq with
    | zero => exact absurd HA.out (by simp [gatelineref18_Put.j0])
    | succ kj1 =>
      have H := HA.out
      clear HA
      simp only [gatelineref18_Put.j0] at H
      by_cases c39 : x42_1 = true
      · subst c39
        have H1 : (some (([] : List (S40)), 1)) = some (r1, r2) := by rw [if_pos rfl] at H; exact H
        clear H
        have H := H1
        clear H1
        simp only [Option.some.injEq, Prod.mk.injEq] at H
        obtain ⟨rfl, rfl⟩ := H
        go_wp2
        go_ret2
        exact ⟨_, by first | rfl | (simp [errW_none, errW_some] <;> rfl) | (simp [*, errW_none, errW_some] <;> rfl), by first | exact Kd.S_nil _ _ _ _ _ | exact Kd.N_nil _ _ _ _ _ | exact Kd.V_nil _ _ _ _ _ | exact Kd.Q_nil _ _ _ _ _ | exact Kd.R_nil _ _ _ _ _, by repeat (first | (with_reducible first | exact HB.out | apply below_alloc | apply pw_below_drewN | apply below_drew1 | refine below_set ?_ GE290.out | refine below_set ?_ GE291.out) | exact HB.out)⟩
      · replace c39 := Bool.eq_false_iff.mpr c39
        subst c39
        have H1 : ((gatelineref18_numbers.f a0_0 a0_1 a0_2 a0_3 a0_4 a0_5 a0_6 a0_7 a0_8 a0_9 a0_10 a0_11 a0_12 a0_13 a0_14).bind fun t293 => (gatelineref18_Put.l0 kj1 t293 (([] : List (S40))) 0 a0_0 a0_1 a0_2 a0_3 a0_4 a0_5 a0_6 a0_7 a0_8 a0_9 a0_10 a0_11 a0_12 a0_13 a0_14)) = some (r1, r2) := by rw [if_neg (show ¬ (false = true) by decide)] at H; exact H
        clear H
        have H := H1
        clear H1
        replace H := Option.bind_eq_some_iff.mp H
        obtain ⟨t293, A400, H⟩ := H
        replace H : (gatelineref18_Put.l0 kj1 t293 (([] : List (S40))) 0 a0_0 a0_1 a0_2 a0_3 a0_4 a0_5 a0_6 a0_7 a0_8 a0_9 a0_10 a0_11 a0_12 a0_13 a0_14) = some (r1, r2) := H
        have A40 := Aside0.mk A400
        clear A400
        obtain ⟨y296, hy296⟩ : ∃ y_ : List (S40), y_ = (([] : List (S40))) := ⟨_, rfl⟩
        replace H : (gatelineref18_Put.l0 kj1 t293 y296 0 a0_0 a0_1 a0_2 a0_3 a0_4 a0_5 a0_6 a0_7 a0_8 a0_9 a0_10 a0_11 a0_12 a0_13 a0_14) = some (r1, r2) := by first | (rw [hy296]; with_reducible exact H) | (have H2_ := (Option.bind_some _ _).symm.trans H; rw [hy296]; with_reducible exact H2_) | (have H2_ := (Option.bind_some _ _).symm.trans H; with_reducible exact H2_) | with_reducible exact H | (rw [hy296]; exact H) | exact H
        have Ny296 := Aside0.mk hy296
        clear hy296
        have H' := Aside0.mk H
        clear H
        have hnb41 := NB290_291.out
        have hnc41 := NB291_290.out
        have hcz42_0 : wc.cell? ⟨gb290, 0, none⟩ = some (.int .i64 a0_0) := (blk_cell BK290.out 0).trans rfl
        have hcz42_1 : wc.cell? ⟨gb290, 1, none⟩ = some (.int .i64 a0_1) := (blk_cell BK290.out 1).trans rfl
        have hcz42_2 : wc.cell? ⟨gb290, 2, none⟩ = some (.int .i64 a0_2) := (blk_cell BK290.out 2).trans rfl
        have hcz42_3 : wc.cell? ⟨gb290, 3, none⟩ = some (.int .i64 a0_3) := (blk_cell BK290.out 3).trans rfl
        have hcz42_4 : wc.cell? ⟨gb290, 4, none⟩ = some (.int .i64 a0_4) := (blk_cell BK290.out 4).trans rfl
        have hcz42_5 : wc.cell? ⟨gb290, 5, none⟩ = some (.int .i64 a0_5) := (blk_cell BK290.out 5).trans rfl
        have hcz42_6 : wc.cell? ⟨gb290, 6, none⟩ = some (.int .i64 a0_6) := (blk_cell BK290.out 6).trans rfl
        have hcz42_7 : wc.cell? ⟨gb290, 7, none⟩ = some (.int .i64 a0_7) := (blk_cell BK290.out 7).trans rfl
        have hcz42_8 : wc.cell? ⟨gb290, 8, none⟩ = some (.int .i64 a0_8) := (blk_cell BK290.out 8).trans rfl
        have hcz42_9 : wc.cell? ⟨gb290, 9, none⟩ = some (.int .i64 a0_9) := (blk_cell BK290.out 9).trans rfl
        have hcz42_10 : wc.cell? ⟨gb290, 10, none⟩ = some (.int .i64 a0_10) := (blk_cell BK290.out 10).trans rfl
        have hcz42_11 : wc.cell? ⟨gb290, 11, none⟩ = some (.int .i64 a0_11) := (blk_cell BK290.out 11).trans rfl
        have hcz42_12 : wc.cell? ⟨gb290, 12, none⟩ = some (.int .i64 a0_12) := (blk_cell BK290.out 12).trans rfl
        have hcz42_13 : wc.cell? ⟨gb290, 13, none⟩ = some (.int .i64 a0_13) := (blk_cell BK290.out 13).trans rfl
        have hcz42_14 : wc.cell? ⟨gb290, 14, none⟩ = some (.int .i64 a0_14) := (blk_cell BK290.out 14).trans rfl
        have hfz42_0 := blk_frozen BK290.out 0
        have hfz42_1 := blk_frozen BK290.out 1
        have hfz42_2 := blk_frozen BK290.out 2
        have hfz42_3 := blk_frozen BK290.out 3
        have hfz42_4 := blk_frozen BK290.out 4
        have hfz42_5 := blk_frozen BK290.out 5
        have hfz42_6 := blk_frozen BK290.out 6
        have hfz42_7 := blk_frozen BK290.out 7
        have hfz42_8 := blk_frozen BK290.out 8
        have hfz42_9 := blk_frozen BK290.out 9
        have hfz42_10 := blk_frozen BK290.out 10
        have hfz42_11 := blk_frozen BK290.out 11
        have hfz42_12 := blk_frozen BK290.out 12
        have hfz42_13 := blk_frozen BK290.out 13
        have hfz42_14 := blk_frozen BK290.out 14
        go_wp2_with (first | ((with_reducible refine gate_callee (f := 42) rfl ?_); refine goesL_ (some 44) rfl rfl Try.func42 (by kernel_rfl) rfl #[.agg #[.int .i64 a0_0, .int .i64 a0_1, .int .i64 a0_2, .int .i64 a0_3, .int .i64 a0_4, .int .i64 a0_5, .int .i64 a0_6, .int .i64 a0_7, .int .i64 a0_8, .int .i64 a0_9, .int .i64 a0_10, .int .i64 a0_11, .int .i64 a0_12, .int .i64 a0_13, .int .i64 a0_14]] rfl (by (try simp only [List.map_toArray, List.map_cons, List.map_nil]); first | done | rfl | (simp only [List.length_drop, List.length_take]; rfl)) ?_; (with_reducible refine (gatelineref18_numbers.calls a0_0 a0_1 a0_2 a0_3 a0_4 a0_5 a0_6 a0_7 a0_8 a0_9 a0_10 a0_11 a0_12 a0_13 a0_14 t293 _ A40.out).mono ?_); rintro e w43 ⟨v294, rfl, ho0, hb⟩; refine ⟨_, rfl, ?_⟩; have n0_ := Aside0.mk (Kd.R_lower ho0 (below_size (by repeat (first | (with_reducible first | exact HB.out | apply below_alloc | apply pw_below_drewN | apply below_drew1 | refine below_set ?_ GE290.out | refine below_set ?_ GE291.out) | exact HB.out)))); have n1_ := Aside0.mk (blk_below (g := gb290) (o := .cells #[.int .i64 a0_0, .int .i64 a0_1, .int .i64 a0_2, .int .i64 a0_3, .int .i64 a0_4, .int .i64 a0_5, .int .i64 a0_6, .int .i64 a0_7, .int .i64 a0_8, .int .i64 a0_9, .int .i64 a0_10, .int .i64 a0_11, .int .i64 a0_12, .int .i64 a0_13, .int .i64 a0_14] 46 (0, 0)) (by (with_reducible repeat (first | refine blk_drewN ?_ _ | refine blk_drew ?_ | refine blk_alloc ?_ _)); exact BK290.out) hb); have n2_ := Aside0.mk (blk_below (g := gb291) (o := .cells #[.int .i64 0, .int .i64 0] 44 (0, 0)) (by (with_reducible repeat (first | refine blk_drewN ?_ _ | refine blk_drew ?_ | refine blk_alloc ?_ _)); exact BK291.out) hb); have n3_ := Aside0.mk (below_step (by repeat (first | (with_reducible first | exact HB.out | apply below_alloc | apply pw_below_drewN | apply below_drew1 | refine below_set ?_ GE290.out | refine below_set ?_ GE291.out) | exact HB.out)) hb); clear BK290; clear BK291; clear HB; have HO295 := n0_; have BK290 := n1_; have BK291 := n2_; have HB := n3_; clear n0_ n1_ n2_ n3_; (try clear hb); (try clear hb2); (try clear hk); (try clear hi); (try clear ho0); (try clear A40)) | ((with_reducible refine gate_dst (N := 45) rfl ?_); refine Kd.S_lit k40 _ 40 ?hg (N := 45) ?hd (xs := ([] : List (S40))) (inner := []) (ok := fun _ => True) (okp := fun _ => True) ?hr ?hp (fun _ hk => hk) trivial (Below.refl _ _) (Nat.le_refl _) (by simp) ?_; (case hd => rfl); (case hg => rfl); (case hr => first | (go_simp; done) | (go_simp; rfl) | (go_simp; simp [gm_u8, gm_u32, gm_tmod]; done)); (case hp => exact (Reps.none _ _)); intro v297 w44 ho45 hb hg_ hnew_; clear hg_ hnew_; (first | rw [← Ny296.out] at ho45 | (simp only [Int.reduceToNat] at ho45; rw [← Ny296.out] at ho45)); have n0_ := Aside0.mk (Kd.R_below (by (with_reducible repeat (first | apply Kd.R_alloc | apply Kd.R_drewN | apply Kd.R_drew)); exact HO295.out) hb); have n1_ := Aside0.mk (Kd.S_lower ho45 (below_size (by repeat (first | (with_reducible first | exact HB.out | apply below_alloc | apply pw_below_drewN | apply below_drew1 | refine below_set ?_ GE290.out | refine below_set ?_ GE291.out) | exact HB.out)))); have n2_ := Aside0.mk (blk_below (g := gb290) (o := .cells #[.int .i64 a0_0, .int .i64 a0_1, .int .i64 a0_2, .int .i64 a0_3, .int .i64 a0_4, .int .i64 a0_5, .int .i64 a0_6, .int .i64 a0_7, .int .i64 a0_8, .int .i64 a0_9, .int .i64 a0_10, .int .i64 a0_11, .int .i64 a0_12, .int .i64 a0_13, .int .i64 a0_14] 46 (0, 0)) (by (with_reducible repeat (first | refine blk_drewN ?_ _ | refine blk_drew ?_ | refine blk_alloc ?_ _)); exact BK290.out) hb); have n3_ := Aside0.mk (blk_below (g := gb291) (o := .cells #[.int .i64 0, .int .i64 0] 44 (0, 0)) (by (with_reducible repeat (first | refine blk_drewN ?_ _ | refine blk_drew ?_ | refine blk_alloc ?_ _)); exact BK291.out) hb); have n4_ := Aside0.mk (below_step (by repeat (first | (with_reducible first | exact HB.out | apply below_alloc | apply pw_below_drewN | apply below_drew1 | refine below_set ?_ GE290.out | refine below_set ?_ GE291.out) | exact HB.out)) hb); clear HO295; clear BK290; clear BK291; clear HB; have HO295 := n0_; have HO298 := n1_; have BK290 := n2_; have BK291 := n3_; have HB := n4_; clear n0_ n1_ n2_ n3_ n4_; clear hb ho45))
        go_loopg [6, 7] kj1 (fun kq v6 v7 w' => ∃ (x6_2 : List (S40)) (x7_2 : Int), v7 = .int .i64 x7_2 ∧ Aside0 (gatelineref18_Put.l0 kq t293 x6_2 x7_2 a0_0 a0_1 a0_2 a0_3 a0_4 a0_5 a0_6 a0_7 a0_8 a0_9 a0_10 a0_11 a0_12 a0_13 a0_14 = some (r1, r2)) ∧ Aside0 (kq ≤ kj1) ∧ Aside0 (Kd.R (Kd.int .i64) 3 w' w.heap.size (fun _ => True) v294 t293) ∧ Aside0 (Kd.S k40 40 w' w.heap.size (fun _ => True) v6 x6_2) ∧ Aside0 (w'.heap[gb290]? = some (.cells #[.int .i64 a0_0, .int .i64 a0_1, .int .i64 a0_2, .int .i64 a0_3, .int .i64 a0_4, .int .i64 a0_5, .int .i64 a0_6, .int .i64 a0_7, .int .i64 a0_8, .int .i64 a0_9, .int .i64 a0_10, .int .i64 a0_11, .int .i64 a0_12, .int .i64 a0_13, .int .i64 a0_14] 46 (0, 0))) ∧ Aside0 (w'.heap[gb291]? = some (.cells #[.int .i64 0, .int .i64 0] 44 (0, 0))) ∧ Aside0 (Below w.heap.size w w'))
        case atStart => exact ⟨(y296), (0), (by first | rfl | (simp; done) | (simp [*]; done)), H', ⟨Nat.le_refl _⟩, ⟨by (with_reducible repeat (first | apply Kd.R_alloc | apply Kd.R_drewN | apply Kd.R_drew)); exact HO295.out⟩, ⟨by (with_reducible repeat (first | apply Kd.S_alloc | apply Kd.S_drewN | apply Kd.S_drew)); exact HO298.out⟩, ⟨by (with_reducible repeat (first | refine blk_drewN ?_ _ | refine blk_drew ?_ | refine blk_alloc ?_ _)); exact BK290.out⟩, ⟨by (with_reducible repeat (first | refine blk_drewN ?_ _ | refine blk_drew ?_ | refine blk_alloc ?_ _)); exact BK291.out⟩, ⟨by repeat (first | (with_reducible first | exact HB.out | apply below_alloc | apply pw_below_drewN | apply below_drew1 | refine below_set ?_ GE290.out | refine below_set ?_ GE291.out) | exact HB.out)⟩⟩
        case round =>
          clear H'
          try clear c1
          try clear c2
          try clear p2
          try clear c3
          try clear c4
          try clear c5
          try clear c8
          try clear c9
          try clear c9b0
          try clear c10
          try clear c14
          try clear c14b0
          try clear c15
          try clear c19
          try clear c19b0
          try clear c20
          try clear c25
          try clear c25b0
          try clear c26
          try clear c29
          try clear c31
          try clear c36
          try clear c39
          try clear c41
          try clear c42
          try clear hcz11_0
          try clear hcz11_1
          try clear hcz11_10
          try clear hcz11_11
          try clear hcz11_12
          try clear hcz11_13
          try clear hcz11_14
          try clear hcz11_2
          try clear hcz11_3
          try clear hcz11_4
          try clear hcz11_5
          try clear hcz11_6
          try clear hcz11_7
          try clear hcz11_8
          try clear hcz11_9
          try clear hcz13_0
          try clear hcz13_1
          try clear hcz13_10
          try clear hcz13_11
          try clear hcz13_12
          try clear hcz13_13
          try clear hcz13_14
          try clear hcz13_2
          try clear hcz13_3
          try clear hcz13_4
          try clear hcz13_5
          try clear hcz13_6
          try clear hcz13_7
          try clear hcz13_8
          try clear hcz13_9
          try clear hcz16_0
          try clear hcz16_1
          try clear hcz16_10
          try clear hcz16_11
          try clear hcz16_12
          try clear hcz16_13
          try clear hcz16_14
          try clear hcz16_2
          try clear hcz16_3
          try clear hcz16_4
          try clear hcz16_5
          try clear hcz16_6
          try clear hcz16_7
          try clear hcz16_8
          try clear hcz16_9
          try clear hcz18_0
          try clear hcz18_1
          try clear hcz18_10
          try clear hcz18_11
          try clear hcz18_12
          try clear hcz18_13
          try clear hcz18_14
          try clear hcz18_2
          try clear hcz18_3
          try clear hcz18_4
          try clear hcz18_5
          try clear hcz18_6
          try clear hcz18_7
          try clear hcz18_8
          try clear hcz18_9
          try clear hcz21_0
          try clear hcz21_1
          try clear hcz21_10
          try clear hcz21_11
          try clear hcz21_12
          try clear hcz21_13
          try clear hcz21_14
          try clear hcz21_2
          try clear hcz21_3
          try clear hcz21_4
          try clear hcz21_5
          try clear hcz21_6
          try clear hcz21_7
          try clear hcz21_8
          try clear hcz21_9
          try clear hcz23_0
          try clear hcz23_1
          try clear hcz23_10
          try clear hcz23_11
          try clear hcz23_12
          try clear hcz23_13
          try clear hcz23_14
          try clear hcz23_2
          try clear hcz23_3
          try clear hcz23_4
          try clear hcz23_5
          try clear hcz23_6
          try clear hcz23_7
          try clear hcz23_8
          try clear hcz23_9
          try clear hcz24_0
          try clear hcz24_1
          try clear hcz27_0
          try clear hcz27_1
          try clear hcz27_10
          try clear hcz27_11
          try clear hcz27_12
          try clear hcz27_13
          try clear hcz27_14
          try clear hcz27_2
          try clear hcz27_3
          try clear hcz27_4
          try clear hcz27_5
          try clear hcz27_6
          try clear hcz27_7
          try clear hcz27_8
          try clear hcz27_9
          try clear hcz29_0
          try clear hcz29_1
          try clear hcz29_10
          try clear hcz29_11
          try clear hcz29_12
          try clear hcz29_13
          try clear hcz29_14
          try clear hcz29_2
          try clear hcz29_3
          try clear hcz29_4
          try clear hcz29_5
          try clear hcz29_6
          try clear hcz29_7
          try clear hcz29_8
          try clear hcz29_9
          try clear hcz30_0
          try clear hcz30_1
          try clear hcz32_0
          try clear hcz32_1
          try clear hcz32_10
          try clear hcz32_11
          try clear hcz32_12
          try clear hcz32_13
          try clear hcz32_14
          try clear hcz32_2
          try clear hcz32_3
          try clear hcz32_4
          try clear hcz32_5
          try clear hcz32_6
          try clear hcz32_7
          try clear hcz32_8
          try clear hcz32_9
          try clear hcz34_0
          try clear hcz34_1
          try clear hcz34_10
          try clear hcz34_11
          try clear hcz34_12
          try clear hcz34_13
          try clear hcz34_14
          try clear hcz34_2
          try clear hcz34_3
          try clear hcz34_4
          try clear hcz34_5
          try clear hcz34_6
          try clear hcz34_7
          try clear hcz34_8
          try clear hcz34_9
          try clear hcz35_0
          try clear hcz35_1
          try clear hcz37_0
          try clear hcz37_1
          try clear hcz37_10
          try clear hcz37_11
          try clear hcz37_12
          try clear hcz37_13
          try clear hcz37_14
          try clear hcz37_2
          try clear hcz37_3
          try clear hcz37_4
          try clear hcz37_5
          try clear hcz37_6
          try clear hcz37_7
          try clear hcz37_8
          try clear hcz37_9
          try clear hcz42_0
          try clear hcz42_1
          try clear hcz42_10
          try clear hcz42_11
          try clear hcz42_12
          try clear hcz42_13
          try clear hcz42_14
          try clear hcz42_2
          try clear hcz42_3
          try clear hcz42_4
          try clear hcz42_5
          try clear hcz42_6
          try clear hcz42_7
          try clear hcz42_8
          try clear hcz42_9
          try clear hcz6_0
          try clear hcz6_1
          try clear hfz11_0
          try clear hfz11_1
          try clear hfz11_10
          try clear hfz11_11
          try clear hfz11_12
          try clear hfz11_13
          try clear hfz11_14
          try clear hfz11_2
          try clear hfz11_3
          try clear hfz11_4
          try clear hfz11_5
          try clear hfz11_6
          try clear hfz11_7
          try clear hfz11_8
          try clear hfz11_9
          try clear hfz13_0
          try clear hfz13_1
          try clear hfz13_10
          try clear hfz13_11
          try clear hfz13_12
          try clear hfz13_13
          try clear hfz13_14
          try clear hfz13_2
          try clear hfz13_3
          try clear hfz13_4
          try clear hfz13_5
          try clear hfz13_6
          try clear hfz13_7
          try clear hfz13_8
          try clear hfz13_9
          try clear hfz16_0
          try clear hfz16_1
          try clear hfz16_10
          try clear hfz16_11
          try clear hfz16_12
          try clear hfz16_13
          try clear hfz16_14
          try clear hfz16_2
          try clear hfz16_3
          try clear hfz16_4
          try clear hfz16_5
          try clear hfz16_6
          try clear hfz16_7
          try clear hfz16_8
          try clear hfz16_9
          try clear hfz18_0
          try clear hfz18_1
          try clear hfz18_10
          try clear hfz18_11
          try clear hfz18_12
          try clear hfz18_13
          try clear hfz18_14
          try clear hfz18_2
          try clear hfz18_3
          try clear hfz18_4
          try clear hfz18_5
          try clear hfz18_6
          try clear hfz18_7
          try clear hfz18_8
          try clear hfz18_9
          try clear hfz21_0
          try clear hfz21_1
          try clear hfz21_10
          try clear hfz21_11
          try clear hfz21_12
          try clear hfz21_13
          try clear hfz21_14
          try clear hfz21_2
          try clear hfz21_3
          try clear hfz21_4
          try clear hfz21_5
          try clear hfz21_6
          try clear hfz21_7
          try clear hfz21_8
          try clear hfz21_9
          try clear hfz23_0
          try clear hfz23_1
          try clear hfz23_10
          try clear hfz23_11
          try clear hfz23_12
          try clear hfz23_13
          try clear hfz23_14
          try clear hfz23_2
          try clear hfz23_3
          try clear hfz23_4
          try clear hfz23_5
          try clear hfz23_6
          try clear hfz23_7
          try clear hfz23_8
          try clear hfz23_9
          try clear hfz24_0
          try clear hfz24_1
          try clear hfz27_0
          try clear hfz27_1
          try clear hfz27_10
          try clear hfz27_11
          try clear hfz27_12
          try clear hfz27_13
          try clear hfz27_14
          try clear hfz27_2
          try clear hfz27_3
          try clear hfz27_4
          try clear hfz27_5
          try clear hfz27_6
          try clear hfz27_7
          try clear hfz27_8
          try clear hfz27_9
          try clear hfz29_0
          try clear hfz29_1
          try clear hfz29_10
          try clear hfz29_11
          try clear hfz29_12
          try clear hfz29_13
          try clear hfz29_14
          try clear hfz29_2
          try clear hfz29_3
          try clear hfz29_4
          try clear hfz29_5
          try clear hfz29_6
          try clear hfz29_7
          try clear hfz29_8
          try clear hfz29_9
          try clear hfz30_0
          try clear hfz30_1
          try clear hfz32_0
          try clear hfz32_1
          try clear hfz32_10
          try clear hfz32_11
          try clear hfz32_12
          try clear hfz32_13
          try clear hfz32_14
          try clear hfz32_2
          try clear hfz32_3
          try clear hfz32_4
          try clear hfz32_5
          try clear hfz32_6
          try clear hfz32_7
          try clear hfz32_8
          try clear hfz32_9
          try clear hfz34_0
          try clear hfz34_1
          try clear hfz34_10
          try clear hfz34_11
          try clear hfz34_12
          try clear hfz34_13
          try clear hfz34_14
          try clear hfz34_2
          try clear hfz34_3
          try clear hfz34_4
          try clear hfz34_5
          try clear hfz34_6
          try clear hfz34_7
          try clear hfz34_8
          try clear hfz34_9
          try clear hfz35_0
          try clear hfz35_1
          try clear hfz37_0
          try clear hfz37_1
          try clear hfz37_10
          try clear hfz37_11
          try clear hfz37_12
          try clear hfz37_13
          try clear hfz37_14
          try clear hfz37_2
          try clear hfz37_3
          try clear hfz37_4
          try clear hfz37_5
          try clear hfz37_6
          try clear hfz37_7
          try clear hfz37_8
          try clear hfz37_9
          try clear hfz42_0
          try clear hfz42_1
          try clear hfz42_10
          try clear hfz42_11
          try clear hfz42_12
          try clear hfz42_13
          try clear hfz42_14
          try clear hfz42_2
          try clear hfz42_3
          try clear hfz42_4
          try clear hfz42_5
          try clear hfz42_6
          try clear hfz42_7
          try clear hfz42_8
          try clear hfz42_9
          try clear hfz6_0
          try clear hfz6_1
          try clear p2
          obtain ⟨x6_2, x7_2, rfl, HA, HK2, HO_5, HO_6, BK290, BK291, HB⟩ := hrel
          cases gk with
          | zero => exact absurd HA.out (by simp [gatelineref18_Put.l0])
          | succ k2 =>
            have H := HA.out
            clear HA
            simp only [gatelineref18_Put.l0] at H
            by_cases c46 : x7_2 < 13
            · rw [if_pos c46] at H
              have c46b0 : decide (x7_2 < 13) = true := decide_eq_true c46
              clear c46
              replace H := Option.bind_eq_some_iff.mp H
              obtain ⟨⟨t299, t300⟩, A470, H⟩ := H
              replace H : (if 0 ≤ x7_2 then (if x7_2 < (t293.length : Int) then (if (rd t293 x7_2) = 0 then (gatelineref18_Put.j2 k2 t293 x6_2 x7_2 false a0_0 a0_1 a0_2 a0_3 a0_4 a0_5 a0_6 a0_7 a0_8 a0_9 a0_10 a0_11 a0_12 a0_13 a0_14) else (gatelineref18_Put.j2 k2 t293 x6_2 x7_2 (decide (a0_14 < t299)) a0_0 a0_1 a0_2 a0_3 a0_4 a0_5 a0_6 a0_7 a0_8 a0_9 a0_10 a0_11 a0_12 a0_13 a0_14)) else (none)) else (none)) = some (r1, r2) := H
              have A47 := Aside0.mk A470
              clear A470
              have HC48 := Aside0.mk H
              clear H
              go_upto_region 10 with (first | ((with_reducible refine gate_callee (f := 31) rfl ?_); refine goesL_ (some 53) rfl rfl Try.func31 (by kernel_rfl) rfl #[.int .i64 (wrap64 (x7_2 + 1))] rfl (by (try simp only [List.map_toArray, List.map_cons, List.map_nil]); first | done | rfl | (simp only [List.length_drop, List.length_take]; rfl)) ?_; (with_reducible refine (gatelineref18_Name.calls k2 (wrap64 (x7_2 + 1)) t299 t300 _ A47.out).mono ?_); rintro e w' ⟨rfl, ⟨nd, rfl⟩⟩; refine ⟨_, rfl, ?_⟩; (try clear A47)))
              (try simp only [Act.put, List.setIfInBounds_toArray, List.set_cons_zero, List.set_cons_succ])
              go_cut [66] (fun v66 wc => ∃ (kq : Nat) (x66_47 : Bool), v66 = .bool x66_47 ∧ Aside0 (gatelineref18_Put.j2 kq t293 x6_2 x7_2 x66_47 a0_0 a0_1 a0_2 a0_3 a0_4 a0_5 a0_6 a0_7 a0_8 a0_9 a0_10 a0_11 a0_12 a0_13 a0_14 = some (r1, r2)) ∧ Aside0 (kq ≤ k2) ∧ Aside0 (Kd.R (Kd.int .i64) 3 wc w.heap.size (fun _ => True) v294 t293) ∧ Aside0 (Kd.S k40 40 wc w.heap.size (fun _ => True) u6 x6_2) ∧ Aside0 (wc.heap[gb290]? = some (.cells #[.int .i64 a0_0, .int .i64 a0_1, .int .i64 a0_2, .int .i64 a0_3, .int .i64 a0_4, .int .i64 a0_5, .int .i64 a0_6, .int .i64 a0_7, .int .i64 a0_8, .int .i64 a0_9, .int .i64 a0_10, .int .i64 a0_11, .int .i64 a0_12, .int .i64 a0_13, .int .i64 a0_14] 46 (0, 0))) ∧ Aside0 (wc.heap[gb291]? = some (.cells #[.int .i64 0, .int .i64 0] 44 (0, 0))) ∧ Aside0 (Below w.heap.size w wc))
              case first =>
                have H := HC48.out
                clear HC48
                by_cases c49 : 0 ≤ x7_2
                · rw [if_pos c49] at H
                  have c49b0 : decide (0 ≤ x7_2) = true := decide_eq_true c49
                  clear c49
                  (first | rw [c49b0] | (simp only [i64_w, i32_w]; rw [c49b0]) | skip)
                  by_cases c50 : x7_2 < (t293.length : Int)
                  · rw [if_pos c50] at H
                    have c50b0 : decide (x7_2 < (t293.length : Int)) = true := decide_eq_true c50
                    clear c50
                    by_cases c51 : (rd t293 x7_2) = 0
                    · rw [if_pos c51] at H
                      have c51b0 : ((rd t293 x7_2) == 0) = true := beq_iff_eq.mpr c51
                      have c51b1 : ((rd t293 x7_2) != 0) = false := bne_eq_false_iff_eq.mpr c51
                      clear c51
                      have H' := Aside0.mk H
                      clear H
                      obtain ⟨Ao52, co52, eo52⟩ := Kd.R_slice HO_5.out
                      subst eo52
                      have p301 : 0 ≤ (x7_2 : Int) := of_decide_eq_true (by first | (with_reducible assumption) | assumption)
                      have q301 : x7_2 < (t293.length : Int) := of_decide_eq_true (by first | (with_reducible assumption) | assumption)
                      obtain ⟨ad301, e301, hx301_0⟩ := Kd.at_int (Kd.R_reads' HO_5.out).2.2 x7_2 p301 q301
                      cases e301
                      replace p301 := eq_true p301
                      replace q301 := eq_true q301
                      go_wp2
                      go_meet
                      case rel => exact ⟨_, (false), (by first | rfl | (simp; done) | (simp [*]; done)), H', ⟨by have := HJ1.out; have := HK2.out; first | omega | exact Nat.le_refl _⟩, ⟨by (with_reducible repeat (first | apply Kd.R_alloc | apply Kd.R_drewN | apply Kd.R_drew)); exact HO_5.out⟩, ⟨by (with_reducible repeat (first | apply Kd.S_alloc | apply Kd.S_drewN | apply Kd.S_drew)); exact HO_6.out⟩, ⟨by (with_reducible repeat (first | refine blk_drewN ?_ _ | refine blk_drew ?_ | refine blk_alloc ?_ _)); exact BK290.out⟩, ⟨by (with_reducible repeat (first | refine blk_drewN ?_ _ | refine blk_drew ?_ | refine blk_alloc ?_ _)); exact BK291.out⟩, ⟨by repeat (first | (with_reducible first | exact HB.out | apply below_alloc | apply pw_below_drewN | apply below_drew1 | refine below_set ?_ GE290.out | refine below_set ?_ GE291.out) | exact HB.out)⟩⟩
                    · rw [if_neg c51] at H
                      have c51b0 : ((rd t293 x7_2) == 0) = false := beq_eq_false_iff_ne.mpr c51
                      have c51b1 : ((rd t293 x7_2) != 0) = true := bne_iff_ne.mpr c51
                      have H' := Aside0.mk H
                      clear H
                      obtain ⟨Ao53, co53, eo53⟩ := Kd.R_slice HO_5.out
                      subst eo53
                      have p301 : 0 ≤ (x7_2 : Int) := of_decide_eq_true (by first | (with_reducible assumption) | assumption)
                      have q301 : x7_2 < (t293.length : Int) := of_decide_eq_true (by first | (with_reducible assumption) | assumption)
                      obtain ⟨ad301, e301, hx301_0⟩ := Kd.at_int (Kd.R_reads' HO_5.out).2.2 x7_2 p301 q301
                      cases e301
                      replace p301 := eq_true p301
                      replace q301 := eq_true q301
                      have hnb54 := NB290_291.out
                      have hnc54 := NB291_290.out
                      have hcz55_0 : wr.cell? ⟨gb290, 0, none⟩ = some (.int .i64 a0_0) := (blk_cell BK290.out 0).trans rfl
                      have hcz55_1 : wr.cell? ⟨gb290, 1, none⟩ = some (.int .i64 a0_1) := (blk_cell BK290.out 1).trans rfl
                      have hcz55_2 : wr.cell? ⟨gb290, 2, none⟩ = some (.int .i64 a0_2) := (blk_cell BK290.out 2).trans rfl
                      have hcz55_3 : wr.cell? ⟨gb290, 3, none⟩ = some (.int .i64 a0_3) := (blk_cell BK290.out 3).trans rfl
                      have hcz55_4 : wr.cell? ⟨gb290, 4, none⟩ = some (.int .i64 a0_4) := (blk_cell BK290.out 4).trans rfl
                      have hcz55_5 : wr.cell? ⟨gb290, 5, none⟩ = some (.int .i64 a0_5) := (blk_cell BK290.out 5).trans rfl
                      have hcz55_6 : wr.cell? ⟨gb290, 6, none⟩ = some (.int .i64 a0_6) := (blk_cell BK290.out 6).trans rfl
                      have hcz55_7 : wr.cell? ⟨gb290, 7, none⟩ = some (.int .i64 a0_7) := (blk_cell BK290.out 7).trans rfl
                      have hcz55_8 : wr.cell? ⟨gb290, 8, none⟩ = some (.int .i64 a0_8) := (blk_cell BK290.out 8).trans rfl
                      have hcz55_9 : wr.cell? ⟨gb290, 9, none⟩ = some (.int .i64 a0_9) := (blk_cell BK290.out 9).trans rfl
                      have hcz55_10 : wr.cell? ⟨gb290, 10, none⟩ = some (.int .i64 a0_10) := (blk_cell BK290.out 10).trans rfl
                      have hcz55_11 : wr.cell? ⟨gb290, 11, none⟩ = some (.int .i64 a0_11) := (blk_cell BK290.out 11).trans rfl
                      have hcz55_12 : wr.cell? ⟨gb290, 12, none⟩ = some (.int .i64 a0_12) := (blk_cell BK290.out 12).trans rfl
                      have hcz55_13 : wr.cell? ⟨gb290, 13, none⟩ = some (.int .i64 a0_13) := (blk_cell BK290.out 13).trans rfl
                      have hcz55_14 : wr.cell? ⟨gb290, 14, none⟩ = some (.int .i64 a0_14) := (blk_cell BK290.out 14).trans rfl
                      have hfz55_0 := blk_frozen BK290.out 0
                      have hfz55_1 := blk_frozen BK290.out 1
                      have hfz55_2 := blk_frozen BK290.out 2
                      have hfz55_3 := blk_frozen BK290.out 3
                      have hfz55_4 := blk_frozen BK290.out 4
                      have hfz55_5 := blk_frozen BK290.out 5
                      have hfz55_6 := blk_frozen BK290.out 6
                      have hfz55_7 := blk_frozen BK290.out 7
                      have hfz55_8 := blk_frozen BK290.out 8
                      have hfz55_9 := blk_frozen BK290.out 9
                      have hfz55_10 := blk_frozen BK290.out 10
                      have hfz55_11 := blk_frozen BK290.out 11
                      have hfz55_12 := blk_frozen BK290.out 12
                      have hfz55_13 := blk_frozen BK290.out 13
                      have hfz55_14 := blk_frozen BK290.out 14
                      go_wp2
                      go_meet
                      case rel => exact ⟨_, (decide (a0_14 < t299)), (by first | rfl | (simp; done) | (simp [*]; done)), H', ⟨by have := HJ1.out; have := HK2.out; first | omega | exact Nat.le_refl _⟩, ⟨by (with_reducible repeat (first | apply Kd.R_alloc | apply Kd.R_drewN | apply Kd.R_drew)); exact HO_5.out⟩, ⟨by (with_reducible repeat (first | apply Kd.S_alloc | apply Kd.S_drewN | apply Kd.S_drew)); exact HO_6.out⟩, ⟨by (with_reducible repeat (first | refine blk_drewN ?_ _ | refine blk_drew ?_ | refine blk_alloc ?_ _)); exact BK290.out⟩, ⟨by (with_reducible repeat (first | refine blk_drewN ?_ _ | refine blk_drew ?_ | refine blk_alloc ?_ _)); exact BK291.out⟩, ⟨by repeat (first | (with_reducible first | exact HB.out | apply below_alloc | apply pw_below_drewN | apply below_drew1 | refine below_set ?_ GE290.out | refine below_set ?_ GE291.out) | exact HB.out)⟩⟩
                  · rw [if_neg c50] at H
                    exact absurd H (by simp)
                · rw [if_neg c49] at H
                  exact absurd H (by simp)
              case rest =>
                clear HC48
                try clear c1
                try clear c2
                try clear p2
                try clear c3
                try clear p3
                try clear q3
                try clear hx3
                try clear c4
                try clear c5
                try clear p6
                try clear c8
                try clear c9
                try clear c9b0
                try clear c10
                try clear c14
                try clear c14b0
                try clear c15
                try clear c19
                try clear c19b0
                try clear c20
                try clear c25
                try clear c25b0
                try clear c26
                try clear c29
                try clear p30
                try clear q30
                try clear hx30
                try clear c31
                try clear c36
                try clear c39
                try clear c41
                try clear c42
                try clear c46
                try clear c46b0
                try clear c49
                try clear c49b0
                try clear c50
                try clear c50b0
                try clear c51
                try clear c51b0
                try clear c51b1
                try clear c54
                try clear hcz11_0
                try clear hcz11_1
                try clear hcz11_10
                try clear hcz11_11
                try clear hcz11_12
                try clear hcz11_13
                try clear hcz11_14
                try clear hcz11_2
                try clear hcz11_3
                try clear hcz11_4
                try clear hcz11_5
                try clear hcz11_6
                try clear hcz11_7
                try clear hcz11_8
                try clear hcz11_9
                try clear hcz13_0
                try clear hcz13_1
                try clear hcz13_10
                try clear hcz13_11
                try clear hcz13_12
                try clear hcz13_13
                try clear hcz13_14
                try clear hcz13_2
                try clear hcz13_3
                try clear hcz13_4
                try clear hcz13_5
                try clear hcz13_6
                try clear hcz13_7
                try clear hcz13_8
                try clear hcz13_9
                try clear hcz16_0
                try clear hcz16_1
                try clear hcz16_10
                try clear hcz16_11
                try clear hcz16_12
                try clear hcz16_13
                try clear hcz16_14
                try clear hcz16_2
                try clear hcz16_3
                try clear hcz16_4
                try clear hcz16_5
                try clear hcz16_6
                try clear hcz16_7
                try clear hcz16_8
                try clear hcz16_9
                try clear hcz18_0
                try clear hcz18_1
                try clear hcz18_10
                try clear hcz18_11
                try clear hcz18_12
                try clear hcz18_13
                try clear hcz18_14
                try clear hcz18_2
                try clear hcz18_3
                try clear hcz18_4
                try clear hcz18_5
                try clear hcz18_6
                try clear hcz18_7
                try clear hcz18_8
                try clear hcz18_9
                try clear hcz21_0
                try clear hcz21_1
                try clear hcz21_10
                try clear hcz21_11
                try clear hcz21_12
                try clear hcz21_13
                try clear hcz21_14
                try clear hcz21_2
                try clear hcz21_3
                try clear hcz21_4
                try clear hcz21_5
                try clear hcz21_6
                try clear hcz21_7
                try clear hcz21_8
                try clear hcz21_9
                try clear hcz23_0
                try clear hcz23_1
                try clear hcz23_10
                try clear hcz23_11
                try clear hcz23_12
                try clear hcz23_13
                try clear hcz23_14
                try clear hcz23_2
                try clear hcz23_3
                try clear hcz23_4
                try clear hcz23_5
                try clear hcz23_6
                try clear hcz23_7
                try clear hcz23_8
                try clear hcz23_9
                try clear hcz24_0
                try clear hcz24_1
                try clear hcz27_0
                try clear hcz27_1
                try clear hcz27_10
                try clear hcz27_11
                try clear hcz27_12
                try clear hcz27_13
                try clear hcz27_14
                try clear hcz27_2
                try clear hcz27_3
                try clear hcz27_4
                try clear hcz27_5
                try clear hcz27_6
                try clear hcz27_7
                try clear hcz27_8
                try clear hcz27_9
                try clear hcz29_0
                try clear hcz29_1
                try clear hcz29_10
                try clear hcz29_11
                try clear hcz29_12
                try clear hcz29_13
                try clear hcz29_14
                try clear hcz29_2
                try clear hcz29_3
                try clear hcz29_4
                try clear hcz29_5
                try clear hcz29_6
                try clear hcz29_7
                try clear hcz29_8
                try clear hcz29_9
                try clear hcz30_0
                try clear hcz30_1
                try clear hcz32_0
                try clear hcz32_1
                try clear hcz32_10
                try clear hcz32_11
                try clear hcz32_12
                try clear hcz32_13
                try clear hcz32_14
                try clear hcz32_2
                try clear hcz32_3
                try clear hcz32_4
                try clear hcz32_5
                try clear hcz32_6
                try clear hcz32_7
                try clear hcz32_8
                try clear hcz32_9
                try clear hcz34_0
                try clear hcz34_1
                try clear hcz34_10
                try clear hcz34_11
                try clear hcz34_12
                try clear hcz34_13
                try clear hcz34_14
                try clear hcz34_2
                try clear hcz34_3
                try clear hcz34_4
                try clear hcz34_5
                try clear hcz34_6
                try clear hcz34_7
                try clear hcz34_8
                try clear hcz34_9
                try clear hcz35_0
                try clear hcz35_1
                try clear hcz37_0
                try clear hcz37_1
                try clear hcz37_10
                try clear hcz37_11
                try clear hcz37_12
                try clear hcz37_13
                try clear hcz37_14
                try clear hcz37_2
                try clear hcz37_3
                try clear hcz37_4
                try clear hcz37_5
                try clear hcz37_6
                try clear hcz37_7
                try clear hcz37_8
                try clear hcz37_9
                try clear hcz42_0
                try clear hcz42_1
                try clear hcz42_10
                try clear hcz42_11
                try clear hcz42_12
                try clear hcz42_13
                try clear hcz42_14
                try clear hcz42_2
                try clear hcz42_3
                try clear hcz42_4
                try clear hcz42_5
                try clear hcz42_6
                try clear hcz42_7
                try clear hcz42_8
                try clear hcz42_9
                try clear hcz55_0
                try clear hcz55_1
                try clear hcz55_10
                try clear hcz55_11
                try clear hcz55_12
                try clear hcz55_13
                try clear hcz55_14
                try clear hcz55_2
                try clear hcz55_3
                try clear hcz55_4
                try clear hcz55_5
                try clear hcz55_6
                try clear hcz55_7
                try clear hcz55_8
                try clear hcz55_9
                try clear hcz6_0
                try clear hcz6_1
                try clear hfz11_0
                try clear hfz11_1
                try clear hfz11_10
                try clear hfz11_11
                try clear hfz11_12
                try clear hfz11_13
                try clear hfz11_14
                try clear hfz11_2
                try clear hfz11_3
                try clear hfz11_4
                try clear hfz11_5
                try clear hfz11_6
                try clear hfz11_7
                try clear hfz11_8
                try clear hfz11_9
                try clear hfz13_0
                try clear hfz13_1
                try clear hfz13_10
                try clear hfz13_11
                try clear hfz13_12
                try clear hfz13_13
                try clear hfz13_14
                try clear hfz13_2
                try clear hfz13_3
                try clear hfz13_4
                try clear hfz13_5
                try clear hfz13_6
                try clear hfz13_7
                try clear hfz13_8
                try clear hfz13_9
                try clear hfz16_0
                try clear hfz16_1
                try clear hfz16_10
                try clear hfz16_11
                try clear hfz16_12
                try clear hfz16_13
                try clear hfz16_14
                try clear hfz16_2
                try clear hfz16_3
                try clear hfz16_4
                try clear hfz16_5
                try clear hfz16_6
                try clear hfz16_7
                try clear hfz16_8
                try clear hfz16_9
                try clear hfz18_0
                try clear hfz18_1
                try clear hfz18_10
                try clear hfz18_11
                try clear hfz18_12
                try clear hfz18_13
                try clear hfz18_14
                try clear hfz18_2
                try clear hfz18_3
                try clear hfz18_4
                try clear hfz18_5
                try clear hfz18_6
                try clear hfz18_7
                try clear hfz18_8
                try clear hfz18_9
                try clear hfz21_0
                try clear hfz21_1
                try clear hfz21_10
                try clear hfz21_11
                try clear hfz21_12
                try clear hfz21_13
                try clear hfz21_14
                try clear hfz21_2
                try clear hfz21_3
                try clear hfz21_4
                try clear hfz21_5
                try clear hfz21_6
                try clear hfz21_7
                try clear hfz21_8
                try clear hfz21_9
                try clear hfz23_0
                try clear hfz23_1
                try clear hfz23_10
                try clear hfz23_11
                try clear hfz23_12
                try clear hfz23_13
                try clear hfz23_14
                try clear hfz23_2
                try clear hfz23_3
                try clear hfz23_4
                try clear hfz23_5
                try clear hfz23_6
                try clear hfz23_7
                try clear hfz23_8
                try clear hfz23_9
                try clear hfz24_0
                try clear hfz24_1
                try clear hfz27_0
                try clear hfz27_1
                try clear hfz27_10
                try clear hfz27_11
                try clear hfz27_12
                try clear hfz27_13
                try clear hfz27_14
                try clear hfz27_2
                try clear hfz27_3
                try clear hfz27_4
                try clear hfz27_5
                try clear hfz27_6
                try clear hfz27_7
                try clear hfz27_8
                try clear hfz27_9
                try clear hfz29_0
                try clear hfz29_1
                try clear hfz29_10
                try clear hfz29_11
                try clear hfz29_12
                try clear hfz29_13
                try clear hfz29_14
                try clear hfz29_2
                try clear hfz29_3
                try clear hfz29_4
                try clear hfz29_5
                try clear hfz29_6
                try clear hfz29_7
                try clear hfz29_8
                try clear hfz29_9
                try clear hfz30_0
                try clear hfz30_1
                try clear hfz32_0
                try clear hfz32_1
                try clear hfz32_10
                try clear hfz32_11
                try clear hfz32_12
                try clear hfz32_13
                try clear hfz32_14
                try clear hfz32_2
                try clear hfz32_3
                try clear hfz32_4
                try clear hfz32_5
                try clear hfz32_6
                try clear hfz32_7
                try clear hfz32_8
                try clear hfz32_9
                try clear hfz34_0
                try clear hfz34_1
                try clear hfz34_10
                try clear hfz34_11
                try clear hfz34_12
                try clear hfz34_13
                try clear hfz34_14
                try clear hfz34_2
                try clear hfz34_3
                try clear hfz34_4
                try clear hfz34_5
                try clear hfz34_6
                try clear hfz34_7
                try clear hfz34_8
                try clear hfz34_9
                try clear hfz35_0
                try clear hfz35_1
                try clear hfz37_0
                try clear hfz37_1
                try clear hfz37_10
                try clear hfz37_11
                try clear hfz37_12
                try clear hfz37_13
                try clear hfz37_14
                try clear hfz37_2
                try clear hfz37_3
                try clear hfz37_4
                try clear hfz37_5
                try clear hfz37_6
                try clear hfz37_7
                try clear hfz37_8
                try clear hfz37_9
                try clear hfz42_0
                try clear hfz42_1
                try clear hfz42_10
                try clear hfz42_11
                try clear hfz42_12
                try clear hfz42_13
                try clear hfz42_14
                try clear hfz42_2
                try clear hfz42_3
                try clear hfz42_4
                try clear hfz42_5
                try clear hfz42_6
                try clear hfz42_7
                try clear hfz42_8
                try clear hfz42_9
                try clear hfz55_0
                try clear hfz55_1
                try clear hfz55_10
                try clear hfz55_11
                try clear hfz55_12
                try clear hfz55_13
                try clear hfz55_14
                try clear hfz55_2
                try clear hfz55_3
                try clear hfz55_4
                try clear hfz55_5
                try clear hfz55_6
                try clear hfz55_7
                try clear hfz55_8
                try clear hfz55_9
                try clear hfz6_0
                try clear hfz6_1
                try clear hx301_0
                try clear p2
                try clear p301
                try clear q301
                obtain ⟨kq, x66_47, rfl, HA, HJ47, HO_5, HO_6, BK290, BK291, HB⟩ := hcut
                cases kq with
                | zero => exact absurd HA.out (by simp [gatelineref18_Put.j2])
                | succ kj47 =>
                  have H := HA.out
                  clear HA
                  simp only [gatelineref18_Put.j2] at H
                  by_cases c56 : x66_47 = true
                  · subst c56
                    have H1 : (some (([] : List (S40)), 18)) = some (r1, r2) := by rw [if_pos rfl] at H; exact H
                    clear H
                    have H := H1
                    clear H1
                    simp only [Option.some.injEq, Prod.mk.injEq] at H
                    obtain ⟨rfl, rfl⟩ := H
                    go_wp2
                    go_ret2
                    exact ⟨_, by first | rfl | (simp [errW_none, errW_some] <;> rfl) | (simp [*, errW_none, errW_some] <;> rfl), by first | exact Kd.S_nil _ _ _ _ _ | exact Kd.N_nil _ _ _ _ _ | exact Kd.V_nil _ _ _ _ _ | exact Kd.Q_nil _ _ _ _ _ | exact Kd.R_nil _ _ _ _ _, by repeat (first | (with_reducible first | exact HB.out | apply below_alloc | apply pw_below_drewN | apply below_drew1 | refine below_set ?_ GE290.out | refine below_set ?_ GE291.out) | exact HB.out)⟩
                  · replace c56 := Bool.eq_false_iff.mpr c56
                    subst c56
                    have H1 : (if 0 ≤ x7_2 then (if x7_2 < (t293.length : Int) then (if (rd t293 x7_2) = 0 then (gatelineref18_Put.l0 kj47 t293 x6_2 (wrap64 (x7_2 + 1)) a0_0 a0_1 a0_2 a0_3 a0_4 a0_5 a0_6 a0_7 a0_8 a0_9 a0_10 a0_11 a0_12 a0_13 a0_14) else ((gatelineref17_Number.f kj47 (rd t293 x7_2)).bind fun bt304 => (if x6_2.length < 4398046511104 then (gatelineref18_Put.l0 kj47 t293 (x6_2 ++ [(⟨wrap64 (x7_2 + 1), bt304.1⟩ : S40)]) (wrap64 (x7_2 + 1)) a0_0 a0_1 a0_2 a0_3 a0_4 a0_5 a0_6 a0_7 a0_8 a0_9 a0_10 a0_11 a0_12 a0_13 a0_14) else (none)))) else (none)) else (none)) = some (r1, r2) := by rw [if_neg (show ¬ (false = true) by decide)] at H; exact H
                    clear H
                    have H := H1
                    clear H1
                    by_cases c57 : 0 ≤ x7_2
                    · rw [if_pos c57] at H
                      have c57b0 : decide (0 ≤ x7_2) = true := decide_eq_true c57
                      clear c57
                      by_cases c58 : x7_2 < (t293.length : Int)
                      · rw [if_pos c58] at H
                        have c58b0 : decide (x7_2 < (t293.length : Int)) = true := decide_eq_true c58
                        clear c58
                        by_cases c59 : (rd t293 x7_2) = 0
                        · rw [if_pos c59] at H
                          have c59b0 : ((rd t293 x7_2) == 0) = true := beq_iff_eq.mpr c59
                          have c59b1 : ((rd t293 x7_2) != 0) = false := bne_eq_false_iff_eq.mpr c59
                          clear c59
                          have H' := Aside0.mk H
                          clear H
                          obtain ⟨Ao60, co60, eo60⟩ := Kd.R_slice HO_5.out
                          subst eo60
                          have p302 : 0 ≤ (x7_2 : Int) := of_decide_eq_true (by first | (with_reducible assumption) | assumption)
                          have q302 : x7_2 < (t293.length : Int) := of_decide_eq_true (by first | (with_reducible assumption) | assumption)
                          obtain ⟨ad302, e302, hx302_0⟩ := Kd.at_int (Kd.R_reads' HO_5.out).2.2 x7_2 p302 q302
                          cases e302
                          replace p302 := eq_true p302
                          replace q302 := eq_true q302
                          go_wp2
                          go_roundg kj47
                          case measure => have := HJ1.out; have := HK2.out; have := HJ47.out; omega
                          case rel => exact ⟨(x6_2), (wrap64 (x7_2 + 1)), (by first | rfl | (simp; done) | (simp [*]; done)), H', ⟨by have := HJ1.out; have := HK2.out; have := HJ47.out; omega⟩, ⟨by (with_reducible repeat (first | apply Kd.R_alloc | apply Kd.R_drewN | apply Kd.R_drew)); exact HO_5.out⟩, ⟨by (with_reducible repeat (first | apply Kd.S_alloc | apply Kd.S_drewN | apply Kd.S_drew)); exact HO_6.out⟩, ⟨by (with_reducible repeat (first | refine blk_drewN ?_ _ | refine blk_drew ?_ | refine blk_alloc ?_ _)); exact BK290.out⟩, ⟨by (with_reducible repeat (first | refine blk_drewN ?_ _ | refine blk_drew ?_ | refine blk_alloc ?_ _)); exact BK291.out⟩, ⟨by repeat (first | (with_reducible first | exact HB.out | apply below_alloc | apply pw_below_drewN | apply below_drew1 | refine below_set ?_ GE290.out | refine below_set ?_ GE291.out) | exact HB.out)⟩⟩
                        · rw [if_neg c59] at H
                          have c59b0 : ((rd t293 x7_2) == 0) = false := beq_eq_false_iff_ne.mpr c59
                          have c59b1 : ((rd t293 x7_2) != 0) = true := bne_iff_ne.mpr c59
                          replace H := Option.bind_eq_some_iff.mp H
                          obtain ⟨⟨t304, t305⟩, A610, H⟩ := H
                          replace H : (if x6_2.length < 4398046511104 then (gatelineref18_Put.l0 kj47 t293 (x6_2 ++ [(⟨wrap64 (x7_2 + 1), t304⟩ : S40)]) (wrap64 (x7_2 + 1)) a0_0 a0_1 a0_2 a0_3 a0_4 a0_5 a0_6 a0_7 a0_8 a0_9 a0_10 a0_11 a0_12 a0_13 a0_14) else (none)) = some (r1, r2) := H
                          have A61 := Aside0.mk A610
                          clear A610
                          by_cases c62 : x6_2.length < 4398046511104
                          · rw [if_pos c62] at H
                            have LMc62 := Aside0.mk c62
                            clear c62
                            obtain ⟨y308, hy308⟩ : ∃ y_ : List (S40), y_ = (x6_2 ++ [(⟨wrap64 (x7_2 + 1), t304⟩ : S40)]) := ⟨_, rfl⟩
                            replace H : (gatelineref18_Put.l0 kj47 t293 y308 (wrap64 (x7_2 + 1)) a0_0 a0_1 a0_2 a0_3 a0_4 a0_5 a0_6 a0_7 a0_8 a0_9 a0_10 a0_11 a0_12 a0_13 a0_14) = some (r1, r2) := by first | (rw [hy308]; with_reducible exact H) | (have H2_ := (Option.bind_some _ _).symm.trans H; rw [hy308]; with_reducible exact H2_) | (have H2_ := (Option.bind_some _ _).symm.trans H; with_reducible exact H2_) | with_reducible exact H | (rw [hy308]; exact H) | exact H
                            have Ny308 := Aside0.mk hy308
                            clear hy308
                            have H' := Aside0.mk H
                            clear H
                            obtain ⟨Ao63, co63, eo63⟩ := Kd.R_slice HO_5.out
                            subst eo63
                            have p302 : 0 ≤ (x7_2 : Int) := of_decide_eq_true (by first | (with_reducible assumption) | assumption)
                            have q302 : x7_2 < (t293.length : Int) := of_decide_eq_true (by first | (with_reducible assumption) | assumption)
                            obtain ⟨ad302, e302, hx302_0⟩ := Kd.at_int (Kd.R_reads' HO_5.out).2.2 x7_2 p302 q302
                            cases e302
                            replace p302 := eq_true p302
                            replace q302 := eq_true q302
                            have p303 : 0 ≤ (x7_2 : Int) := of_decide_eq_true (by first | (with_reducible assumption) | assumption)
                            have q303 : x7_2 < (t293.length : Int) := of_decide_eq_true (by first | (with_reducible assumption) | assumption)
                            obtain ⟨ad303, e303, hx303_0⟩ := Kd.at_int (Kd.R_reads' HO_5.out).2.2 x7_2 p303 q303
                            obtain rfl : ad302 = ad303 := (by injection e303)
                            replace p303 := eq_true p303
                            replace q303 := eq_true q303
                            go_wp2_with (first | ((with_reducible refine gate_callee (f := 25) rfl ?_); refine goesL_ (some 77) rfl rfl Try.func25 (by kernel_rfl) rfl #[.int .i64 (rd t293 x7_2)] rfl (by (try simp only [List.map_toArray, List.map_cons, List.map_nil]); first | done | rfl | (simp only [List.length_drop, List.length_take]; rfl)) ?_; (with_reducible refine (gatelineref17_Number.calls kj47 (rd t293 x7_2) t304 t305 _ A61.out).mono ?_); rintro e w64 ⟨v306, rfl, ho0, hb⟩; refine ⟨_, rfl, ?_⟩; have n0_ := Aside0.mk (Kd.R_below (by (with_reducible repeat (first | apply Kd.R_alloc | apply Kd.R_drewN | apply Kd.R_drew)); exact HO_5.out) hb); have n1_ := Aside0.mk (Kd.S_elder' (by (with_reducible repeat (first | apply Kd.S_alloc | apply Kd.S_drewN | apply Kd.S_drew)); exact HO_6.out) (Kd.R_base ho0) hb); have n2_ := Aside0.mk (Kd.R_lower ho0 (below_size (by repeat (first | (with_reducible first | exact HB.out | apply below_alloc | apply pw_below_drewN | apply below_drew1 | refine below_set ?_ GE290.out | refine below_set ?_ GE291.out) | exact HB.out)))); have n3_ := Aside0.mk (blk_below (g := gb290) (o := .cells #[.int .i64 a0_0, .int .i64 a0_1, .int .i64 a0_2, .int .i64 a0_3, .int .i64 a0_4, .int .i64 a0_5, .int .i64 a0_6, .int .i64 a0_7, .int .i64 a0_8, .int .i64 a0_9, .int .i64 a0_10, .int .i64 a0_11, .int .i64 a0_12, .int .i64 a0_13, .int .i64 a0_14] 46 (0, 0)) (by (with_reducible repeat (first | refine blk_drewN ?_ _ | refine blk_drew ?_ | refine blk_alloc ?_ _)); exact BK290.out) hb); have n4_ := Aside0.mk (blk_below (g := gb291) (o := .cells #[.int .i64 0, .int .i64 0] 44 (0, 0)) (by (with_reducible repeat (first | refine blk_drewN ?_ _ | refine blk_drew ?_ | refine blk_alloc ?_ _)); exact BK291.out) hb); have n5_ := Aside0.mk (below_step (by repeat (first | (with_reducible first | exact HB.out | apply below_alloc | apply pw_below_drewN | apply below_drew1 | refine below_set ?_ GE290.out | refine below_set ?_ GE291.out) | exact HB.out)) hb); clear HO_5; clear HO_6; clear BK290; clear BK291; clear HB; have HO_5 := n0_; have HO_6 := n1_; have HO307 := n2_; have BK290 := n3_; have BK291 := n4_; have HB := n5_; clear n0_ n1_ n2_ n3_ n4_ n5_; (try clear hb); (try clear hb2); (try clear hk); (try clear hi); (try clear ho0); (try clear A61); obtain ⟨Ao65, co65, eo65⟩ := Kd.R_slice HO307.out; subst eo65) | ((with_reducible refine gate_builtin (b := .append) (xs := #[.tmp 80, .tmp 85]) rfl ?_); at_builtin; refine Kd.S_append k40 (w0 := w) w.heap.size rfl (.tmp 80) (.tmp 85) 22 40 (.agg #[(.int .i64 0), (.slice none 0 0)]) 32 rfl Try.underlying22 info40 rfl (by decide) (by omega) u6 x6_2 (⟨wrap64 (x7_2 + 1), t304⟩ : S40) [.int .i64 (wrap64 (x7_2 + 1)), .slice Ao65 t304.length co65] (fun _ => True) (fun k_ => some k_ = (.slice Ao65 t304.length co65 : Value).ownBlock) rfl rfl ?aP (fun k_ hk_ => ((Kd.R_mono (ok' := fun k_ => ((fun _ => True)) k_ ∧ some k_ ≠ (u6 : Value).ownBlock) (Kd.R_apart' (HO307.out) (Kd.S_typed HO_6.out) (by decide)) (fun k_ hk => ⟨trivial, hk.2⟩))).1 k_ hk_.symm) ?aF ?aO ?aB ?aS ?aL ?_; (case aP => exact k40_mkM _ _ _ (⟨wrap64 (x7_2 + 1), t304⟩ : S40) (Kd.R_mono (Kd.R_tight rfl (Kd.R_mono (ok' := fun k_ => ((fun _ => True)) k_ ∧ some k_ ≠ (u6 : Value).ownBlock) (Kd.R_apart' (HO307.out) (Kd.S_typed HO_6.out) (by decide)) (fun k_ hk => ⟨trivial, hk.2⟩))) (fun _ h_ => h_))); (case aB => exact (by repeat (first | (with_reducible first | exact HB.out | apply below_alloc | apply pw_below_drewN | apply below_drew1 | refine below_set ?_ GE290.out | refine below_set ?_ GE291.out) | exact HB.out))); (case aF => exact (fun _ _ => trivial)); (case aO => exact (by (with_reducible repeat (first | apply Kd.S_alloc | apply Kd.S_drewN | apply Kd.S_drew)); exact Kd.S_mono HO_6.out (fun k_ hk => ⟨trivial, fun e_ => hk.2 e_⟩))); (case aS => exact (below_size (by repeat (first | (with_reducible first | exact HB.out | apply below_alloc | apply pw_below_drewN | apply below_drew1 | refine below_set ?_ GE290.out | refine below_set ?_ GE291.out) | exact HB.out)))); (case aL => have := LMc62.out; omega); intro v309 w66 ho hb hg hat; rw [← Ny308.out] at ho; have n0_ := Aside0.mk (Kd.R_over' (by (with_reducible repeat (first | apply Kd.R_alloc | apply Kd.R_drewN | apply Kd.R_drew)); exact HO_5.out) (Kd.S_typed (by (with_reducible repeat (first | apply Kd.S_alloc | apply Kd.S_drewN | apply Kd.S_drew)); exact HO_6.out)) (by decide) hg); have n1_ := Aside0.mk (blk_grown (g := gb290) (o := .cells #[.int .i64 a0_0, .int .i64 a0_1, .int .i64 a0_2, .int .i64 a0_3, .int .i64 a0_4, .int .i64 a0_5, .int .i64 a0_6, .int .i64 a0_7, .int .i64 a0_8, .int .i64 a0_9, .int .i64 a0_10, .int .i64 a0_11, .int .i64 a0_12, .int .i64 a0_13, .int .i64 a0_14] 46 (0, 0)) (by (with_reducible repeat (first | refine blk_drewN ?_ _ | refine blk_drew ?_ | refine blk_alloc ?_ _)); exact BK290.out) hg (Kd.S_ne HO_6.out BK290.out (by decide))); have n2_ := Aside0.mk (blk_grown (g := gb291) (o := .cells #[.int .i64 0, .int .i64 0] 44 (0, 0)) (by (with_reducible repeat (first | refine blk_drewN ?_ _ | refine blk_drew ?_ | refine blk_alloc ?_ _)); exact BK291.out) hg (Kd.S_ne HO_6.out BK291.out (by decide))); have n3_ := Aside0.mk (hb); have n4_ := Aside0.mk (ho); clear HO_5; clear BK290; clear BK291; clear HB; clear HO_6; clear HO307; have HO_5 := n0_; have BK290 := n1_; have BK291 := n2_; have HB := n3_; have HO310 := n4_; clear n0_ n1_ n2_ n3_ n4_; clear ho hb hg hat))
                            go_roundg kj47
                            case measure => have := HJ1.out; have := HK2.out; have := HJ47.out; omega
                            case rel => exact ⟨(y308), (wrap64 (x7_2 + 1)), (by first | rfl | (simp; done) | (simp [*]; done)), H', ⟨by have := HJ1.out; have := HK2.out; have := HJ47.out; omega⟩, ⟨by (with_reducible repeat (first | apply Kd.R_alloc | apply Kd.R_drewN | apply Kd.R_drew)); exact HO_5.out⟩, ⟨by (with_reducible repeat (first | apply Kd.S_alloc | apply Kd.S_drewN | apply Kd.S_drew)); exact HO310.out⟩, ⟨by (with_reducible repeat (first | refine blk_drewN ?_ _ | refine blk_drew ?_ | refine blk_alloc ?_ _)); exact BK290.out⟩, ⟨by (with_reducible repeat (first | refine blk_drewN ?_ _ | refine blk_drew ?_ | refine blk_alloc ?_ _)); exact BK291.out⟩, ⟨by repeat (first | (with_reducible first | exact HB.out | apply below_alloc | apply pw_below_drewN | apply below_drew1 | refine below_set ?_ GE290.out | refine below_set ?_ GE291.out) | exact HB.out)⟩⟩
                          · rw [if_neg c62] at H
                            exact absurd H (by simp)
                      · rw [if_neg c58] at H
                        exact absurd H (by simp)
                    · rw [if_neg c57] at H
                      exact absurd H (by simp)
            · rw [if_neg c46] at H
              have c46b0 : decide (x7_2 < 13) = false := decide_eq_false c46
              clear c46
              simp only [Option.some.injEq, Prod.mk.injEq] at H
              obtain ⟨rfl, rfl⟩ := H
              go_wp2
              go_ret2
              exact ⟨_, by first | rfl | (simp [errW_none, errW_some] <;> rfl) | (simp [*, errW_none, errW_some] <;> rfl), by (with_reducible repeat (first | apply Kd.S_alloc | apply Kd.S_drewN | apply Kd.S_drew)); exact HO_6.out, by repeat (first | (with_reducible first | exact HB.out | apply below_alloc | apply pw_below_drewN | apply below_drew1 | refine below_set ?_ GE290.out | refine below_set ?_ GE291.out) | exact HB.out)⟩

end Go.Proofs.Ytekgienbhpknlaa.PL
end
section
set_option linter.unusedVariables false
namespace Go.Proofs.Ytekgienbhpknlaa.Pure
open Go Go.RowKit Go.Proofs.Ytekgienbhpknlaa.Q Go.Proofs.Ytekgienbhpknlaa.G Go.Proofs.Ytekgienbhpknlaa.PL Go.Proofs.YtekgienbhpknlaaW.PrintWords Go.Proofs.YtekgienbhpknlaaW.PrintLast Go.Proofs.YtekgienbhpknlaaW.PrintMore
theorem refName_f (tag : Int) (h1 : 1 ≤ tag) (h2 : tag ≤ 13) (k : Nat) : gatelineref18_Name.f (k + 1) tag = some (verT tag, true) := by
  have : tag = 1 ∨ tag = 2 ∨ tag = 3 ∨ tag = 4 ∨ tag = 5 ∨ tag = 6 ∨ tag = 7 ∨ tag = 8 ∨ tag = 9 ∨ tag = 10 ∨ tag = 11 ∨ tag = 12 ∨ tag = 13 := by omega
  rcases this with rfl | rfl | rfl | rfl | rfl | rfl | rfl | rfl | rfl | rfl | rfl | rfl | rfl <;> rfl
theorem name_same (k : Nat) (a : Int) : ∃ r, fields_Name.f (k + 1) a = some r ∧ gatelineref18_Name.f (k + 1) a = some r := by
  have j : ∀ b, ∃ r, fields_Name.j0 (k + 1) a b = some r ∧ gatelineref18_Name.j0 (k + 1) a b = some r := by
    intro b
    rw [fields_Name.j0, gatelineref18_Name.j0]
    by_cases h1 : b = true
    · rw [if_pos h1]; exact ⟨_, rfl, rfl⟩
    · rw [if_neg h1]
      by_cases h2 : a = 8
      · rw [if_pos h2]; exact ⟨_, rfl, rfl⟩
      · rw [if_neg h2]
        by_cases h3 : a = 9
        · rw [if_pos h3]; exact ⟨_, rfl, rfl⟩
        · rw [if_neg h3]; exact ⟨_, rfl, rfl⟩
  unfold fields_Name.f gatelineref18_Name.f
  by_cases h : a < 1
  · rw [if_pos h, if_pos h]; exact j true
  · rw [if_neg h, if_neg h]; exact j _
def numL (v0 v1 v2 v3 v4 v5 v6 v7 v8 v9 v10 v11 v12 v13 v14 : Int) : List Int := if v1 = 4 then [v14, v11, v1, v0, v2, v3, v4, v5, v6, v7, v8, v9, v10] else [v14, v11, v1, v0, v2, v3, v4, v5, v6, v7, v8, 0, v10]
theorem numbers_f (v0 v1 v2 v3 v4 v5 v6 v7 v8 v9 v10 v11 v12 v13 v14 : Int) : gatelineref18_numbers.f v0 v1 v2 v3 v4 v5 v6 v7 v8 v9 v10 v11 v12 v13 v14 = some (numL v0 v1 v2 v3 v4 v5 v6 v7 v8 v9 v10 v11 v12 v13 v14) := by
  unfold gatelineref18_numbers.f numL
  split <;> rfl
theorem numL_len (v0 v1 v2 v3 v4 v5 v6 v7 v8 v9 v10 v11 v12 v13 v14 : Int) : (numL v0 v1 v2 v3 v4 v5 v6 v7 v8 v9 v10 v11 v12 v13 v14).length = 13 := by unfold numL; split <;> rfl
theorem numL_at (v0 v1 v2 v3 v4 v5 v6 v7 v8 v9 v10 v11 v12 v13 v14 : Int) (tag : Int) (h1 : 1 ≤ tag) (h2 : tag ≤ 13) : (numL v0 v1 v2 v3 v4 v5 v6 v7 v8 v9 v10 v11 v12 v13 v14).getD (tag.toNat - 1) 0 = eff v0 v1 v2 v3 v4 v5 v6 v7 v8 v9 v10 v11 v12 v13 v14 tag := by
  have : tag = 1 ∨ tag = 2 ∨ tag = 3 ∨ tag = 4 ∨ tag = 5 ∨ tag = 6 ∨ tag = 7 ∨ tag = 8 ∨ tag = 9 ∨ tag = 10 ∨ tag = 11 ∨ tag = 12 ∨ tag = 13 := by omega
  unfold numL eff
  by_cases h : v1 = 4
  · rw [if_pos h]
    rcases this with rfl | rfl | rfl | rfl | rfl | rfl | rfl | rfl | rfl | rfl | rfl | rfl | rfl <;> simp [numAt, h]
  · rw [if_neg h]
    rcases this with rfl | rfl | rfl | rfl | rfl | rfl | rfl | rfl | rfl | rfl | rfl | rfl | rfl <;> simp [numAt, h]
theorem many (g : Int → Nat → Prop) : ∀ n : Nat, (∀ i : Nat, i < n → ∃ K, ∀ k, K ≤ k → g (i : Int) k) → ∃ K, ∀ i : Nat, i < n → ∀ k, K ≤ k → g (i : Int) k
  | 0, _ => ⟨0, fun i hi => by omega⟩
  | n + 1, h => by
    obtain ⟨K, hK⟩ := many g n (fun i hi => h i (by omega))
    obtain ⟨K2, hK2⟩ := h n (by omega)
    refine ⟨K + K2, fun i hi k hk => ?_⟩
    by_cases hn : i = n
    · subst hn; exact hK2 k (by omega)
    · exact hK i (by omega) k (by omega)
theorem rput_l0 {v0 v1 v2 v3 v4 v5 v6 v7 v8 v9 v10 v11 v12 v13 v14 : Int} (h : okR v0 v1 v2 v3 v4 v5 v6 v7 v8 v9 v10 v11 v12 v13 v14) (K : Nat) (hK : ∀ i : Nat, i < 13 → ∀ k, K ≤ k → gatelineref17_Number.f k (eff v0 v1 v2 v3 v4 v5 v6 v7 v8 v9 v10 v11 v12 v13 v14 ((i : Int) + 1)) = some (numR (eff v0 v1 v2 v3 v4 v5 v6 v7 v8 v9 v10 v11 v12 v13 v14 ((i : Int) + 1)))) :
    ∀ (d i : Nat) (out : List SF) (k : Nat), i + d = 13 → out.length ≤ i → K + 2 * d + 3 ≤ k →
      gatelineref18_Put.l0 k (numL v0 v1 v2 v3 v4 v5 v6 v7 v8 v9 v10 v11 v12 v13 v14) out (i : Int) v0 v1 v2 v3 v4 v5 v6 v7 v8 v9 v10 v11 v12 v13 v14 = some (if bad (eff v0 v1 v2 v3 v4 v5 v6 v7 v8 v9 v10 v11 v12 v13 v14) v14 d ((i : Int) + 1) = true then ([], 18) else (out ++ flds (eff v0 v1 v2 v3 v4 v5 v6 v7 v8 v9 v10 v11 v12 v13 v14) d ((i : Int) + 1), 0))
  | 0, i, out, k, hi, ho, hk => by
    obtain ⟨k, rfl⟩ : ∃ m, k = m + 1 := ⟨k - 1, by omega⟩
    rw [gatelineref18_Put.l0, if_neg (by omega)]
    simp [bad, flds]
  | d + 1, i, out, k, hi, ho, hk => by
    obtain ⟨k, rfl⟩ : ∃ m, k = m + 1 + 1 + 1 := ⟨k - 3, by omega⟩
    have hw : wrap64 ((i : Int) + 1) = (i : Int) + 1 := Pure.w64 (by omega) (by omega)
    have hat : rd (numL v0 v1 v2 v3 v4 v5 v6 v7 v8 v9 v10 v11 v12 v13 v14) (i : Int) = eff v0 v1 v2 v3 v4 v5 v6 v7 v8 v9 v10 v11 v12 v13 v14 ((i : Int) + 1) := by
      have := numL_at v0 v1 v2 v3 v4 v5 v6 v7 v8 v9 v10 v11 v12 v13 v14 ((i : Int) + 1) (by omega) (by omega)
      rw [show ((i : Int) + 1).toNat - 1 = i by omega] at this
      rw [← this]
      simp [rd]
    have hlen : ((numL v0 v1 v2 v3 v4 v5 v6 v7 v8 v9 v10 v11 v12 v13 v14).length : Int) = 13 := by rw [numL_len]; rfl
    have ih := fun out' (ho' : out'.length ≤ i + 1) k' hk' => rput_l0 h K hK d (i + 1) out' k' (by omega) ho' hk'
    rw [gatelineref18_Put.l0, if_pos (by omega), hw, refName_f _ (by omega) (by omega), Option.bind_some, if_pos (by omega), if_pos (by omega), hat]
    by_cases h0 : eff v0 v1 v2 v3 v4 v5 v6 v7 v8 v9 v10 v11 v12 v13 v14 ((i : Int) + 1) = 0
    · rw [if_pos h0, gatelineref18_Put.j2, if_neg (by decide), if_pos (by omega), if_pos (by omega), hat, if_pos h0, hw, bad, flds, if_pos h0]
      have := ih out (by omega) (k + 1) (by omega)
      rw [show ((i + 1 : Nat) : Int) = (i : Int) + 1 by omega] at this
      rw [this]
      simp [h0]
    · rw [if_neg h0, gatelineref18_Put.j2, bad, flds, if_neg h0]
      by_cases hv : v14 < verT ((i : Int) + 1)
      · rw [if_pos (decide_eq_true hv)]
        simp [h0, hv]
      · rw [if_neg (by simpa using hv), if_pos (by omega), if_pos (by omega), hat, if_neg h0, hK i (by omega) (k + 1) (by omega), Option.bind_some, if_pos (by omega), hw]
        have := ih (out ++ [(⟨(i : Int) + 1, (numR (eff v0 v1 v2 v3 v4 v5 v6 v7 v8 v9 v10 v11 v12 v13 v14 ((i : Int) + 1))).1⟩ : SF)]) (by simp; omega) (k + 1) (by omega)
        rw [show ((i + 1 : Nat) : Int) = (i : Int) + 1 by omega] at this
        rw [this]
        simp [h0, hv, List.append_assoc]
theorem rput_j0 (k : Nat) (v0 v1 v2 v3 v4 v5 v6 v7 v8 v9 v10 v11 v12 v13 v14 : Int) : gatelineref18_Put.j0 (k + 1) true v0 v1 v2 v3 v4 v5 v6 v7 v8 v9 v10 v11 v12 v13 v14 = some ([], 1) := by rw [gatelineref18_Put.j0, if_pos rfl]
theorem rput_ev (v0 v1 v2 v3 v4 v5 v6 v7 v8 v9 v10 v11 v12 v13 v14 : Int) : Ev (fun k => gatelineref18_Put.f k v0 v1 v2 v3 v4 v5 v6 v7 v8 v9 v10 v11 v12 v13 v14) (fputR v0 v1 v2 v3 v4 v5 v6 v7 v8 v9 v10 v11 v12 v13 v14) := by
  by_cases h : okR v0 v1 v2 v3 v4 v5 v6 v7 v8 v9 v10 v11 v12 v13 v14
  · obtain ⟨K, hK⟩ := many (fun i k => gatelineref17_Number.f k (eff v0 v1 v2 v3 v4 v5 v6 v7 v8 v9 v10 v11 v12 v13 v14 (i + 1)) = some (numR (eff v0 v1 v2 v3 v4 v5 v6 v7 v8 v9 v10 v11 v12 v13 v14 (i + 1)))) 13 (fun i hi => refNumber_ev (eff v0 v1 v2 v3 v4 v5 v6 v7 v8 v9 v10 v11 v12 v13 v14 ((i : Int) + 1)) (by have := eff_bounds h ((i : Int) + 1) (by omega) (by omega); omega))
    refine ⟨K + 40, fun k hk => ?_⟩
    show gatelineref18_Put.f k v0 v1 v2 v3 v4 v5 v6 v7 v8 v9 v10 v11 v12 v13 v14 = _
    obtain ⟨k, rfl⟩ : ∃ m, k = m + 1 + 1 := ⟨k - 2, by omega⟩
    have hh := h
    obtain ⟨hb, hk0, hk1, rfl, rfl, hv0, hv1⟩ := h
    rw [gatelineref18_Put.f, refIs_f, hb, Option.bind_some, if_pos rfl, if_neg (by omega), if_neg (by omega), if_neg (by decide), if_neg (by omega), gatelineref18_Put.j0, if_neg (by simp; omega), numbers_f, Option.bind_some, fput_ok_eq hh]
    have := rput_l0 hh K hK 13 0 [] (k + 1) (by omega) (by simp) (by omega)
    simpa using this
  · refine ⟨9, fun k hk => ?_⟩
    show gatelineref18_Put.f k v0 v1 v2 v3 v4 v5 v6 v7 v8 v9 v10 v11 v12 v13 v14 = _
    obtain ⟨k, rfl⟩ : ∃ m, k = m + 1 + 1 := ⟨k - 2, by omega⟩
    rw [gatelineref18_Put.f, refIs_f, Option.bind_some, fput_no_eq h]
    by_cases hb : isB v0 v1 v2 v3 v4 v5 v6 v7 v8 v9 v10 = true
    · rw [if_pos hb]
      by_cases h1 : v11 < 0
      · rw [if_pos h1, rput_j0]
      · rw [if_neg h1]
        by_cases h2 : v11 > 99
        · rw [if_pos h2, rput_j0]
        · rw [if_neg h2]
          by_cases h3 : (!(v12 == 0) || !(v13 == 0)) = true
          · rw [if_pos h3, rput_j0]
          · rw [if_neg h3]
            by_cases h4 : v14 < 1
            · rw [if_pos h4, rput_j0]
            · rw [if_neg h4]
              have h5 : v14 > 3 := by
                apply Decidable.byContradiction
                intro h5
                simp only [Bool.or_eq_true, Bool.not_eq_true', beq_eq_false_iff_ne, ne_eq, not_or, Decidable.not_not] at h3
                exact h ⟨hb, by omega, by omega, h3.1, h3.2, by omega, by omega⟩
              rw [decide_eq_true h5, rput_j0]
    · rw [if_neg hb, rput_j0]
end Go.Proofs.Ytekgienbhpknlaa.Pure
end
