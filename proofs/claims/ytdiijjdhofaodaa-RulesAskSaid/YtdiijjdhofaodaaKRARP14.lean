/- What the functions that this claim reaches do and answer: printed words and walks, walks by hand and plain laws, packed together, each with its own remark; printed rows are by the kit's print program, turned by this session. Conditions: those that each theorem states. -/
import Derived.Test.YtdiijjdhofaodaaKA0
import Derived.Test.YtdiijjdhofaodaaKJeRARP3
import Derived.Test.YtdiijjdhofaodaaKJeRARP4
import Derived.Test.YtdiijjdhofaodaaKRARDRPRS10
section
namespace Go.Proofs.Ytdiijjdhofaodaa.PL
open Go.RowKit Go.Proofs.YtdiijjdhofaodaaW.PrintWords Go.Proofs.YtdiijjdhofaodaaW.PrintLast Go.Proofs.YtdiijjdhofaodaaW.PrintMore
attribute [local go_sem] max2_int min2_int max_two min_two max_three min_three max_four min_four   -- for this text's walks alone
set_option linter.unusedVariables false
set_option linter.unusedSimpArgs false
attribute [local go_sem high] eqA23

/-! ### gatelineref24_Is: function 72 -/
def gatelineref24_Is.f (k : Nat) (a0_0 : Int) (a0_1 : Int) (a0_2 : Int) (a0_3 : Int) (a0_4 : Int) (a0_5 : Int) (a0_6 : Int) (a0_7 : Int) (a0_8 : Int) (a0_9 : Int) (a0_10 : Int) (a0_11 : Int) (a0_12 : Int) (a0_13 : Bool) : Option (Bool) := (gatelineref23_Is.f k a0_0 a0_1 a0_2 a0_3 a0_4 a0_5 a0_6 a0_7 a0_8 a0_9 a0_10 a0_11 a0_12).bind fun t295 => (some t295)
theorem gatelineref24_Is.mono : ∀ a0 a1 a2 a3 a4 a5 a6 a7 a8 a9 a10 a11 a12 a13 k, LeO (gatelineref24_Is.f k a0 a1 a2 a3 a4 a5 a6 a7 a8 a9 a10 a11 a12 a13) (gatelineref24_Is.f (k + 1) a0 a1 a2 a3 a4 a5 a6 a7 a8 a9 a10 a11 a12 a13) := by
  intro a0 a1 a2 a3 a4 a5 a6 a7 a8 a9 a10 a11 a12 a13 k
  unfold gatelineref24_Is.f
  repeat' first
      | (with_reducible exact gatelineref23_Is.mono _ _ _ _ _ _ _ _ _ _ _ _ _ _)
      | (with_reducible exact LeO.refl _)
      | (with_reducible exact LeO.none _)
      | (with_reducible refine LeO.ite ?_ ?_)
      | (with_reducible refine LeO.bind ?_ (fun _ => ?_))
      | exact gatelineref23_Is.mono _ _ _ _ _ _ _ _ _ _ _ _ _ _
      | exact LeO.none _
      | refine LeO.ite ?_ ?_
      | refine LeO.bind ?_ (fun _ => ?_)
set_option maxHeartbeats 8000000 in
set_option maxRecDepth 100000 in
theorem gatelineref24_Is.calls (k : Nat) (a0_0 : Int) (a0_1 : Int) (a0_2 : Int) (a0_3 : Int) (a0_4 : Int) (a0_5 : Int) (a0_6 : Int) (a0_7 : Int) (a0_8 : Int) (a0_9 : Int) (a0_10 : Int) (a0_11 : Int) (a0_12 : Int) (a0_13 : Bool) (r : Bool) (w : World) (h : gatelineref24_Is.f k a0_0 a0_1 a0_2 a0_3 a0_4 a0_5 a0_6 a0_7 a0_8 a0_9 a0_10 a0_11 a0_12 a0_13 = some r) :
    Calls Try.prog 72 #[.agg #[.int .i64 a0_0, .int .i64 a0_1, .int .i64 a0_2, .int .i64 a0_3, .int .i64 a0_4, .int .i64 a0_5, .int .i64 a0_6, .int .i64 a0_7, .int .i64 a0_8, .int .i64 a0_9, .int .i64 a0_10, .int .i64 a0_11, .int .i64 a0_12, .bool a0_13]] w fun e w' => e = .returned (.bool r) ∧ Below w.heap.size w w' := by
  have hu48 := Try.underlying48
  have hu23 := Try.underlying23
  have hu25 := Try.underlying25
  have HB := Aside0.mk (Below.refl w.heap.size w)
  have H : ((gatelineref23_Is.f k a0_0 a0_1 a0_2 a0_3 a0_4 a0_5 a0_6 a0_7 a0_8 a0_9 a0_10 a0_11 a0_12).bind fun t295 => (some t295)) = some r := h
  clear h
  replace H := Option.bind_eq_some_iff.mp H
  obtain ⟨t295, A20, H⟩ := H
  replace H : (some t295) = some r := H
  have A2 := Aside0.mk A20
  clear A20
  obtain rfl := Option.some.inj H
  go_enter Try.func72, Try.ntmps72
  go_wp2_with (first | ((with_reducible refine gate_dst (N := 1) rfl ?_); refine box_event ?hg (N := 1) ?hd (cs := #[.int .i64 a0_0, .int .i64 a0_1, .int .i64 a0_2, .int .i64 a0_3, .int .i64 a0_4, .int .i64 a0_5, .int .i64 a0_6, .int .i64 a0_7, .int .i64 a0_8, .int .i64 a0_9, .int .i64 a0_10, .int .i64 a0_11, .int .i64 a0_12, .bool a0_13]) (t := 48) ?hr ?_; (case hd => rfl); (case hg => rfl); (case hr => first | (go_simp; done) | (go_simp; rfl)); intro gb294 hg w3 hbox hb; have n0_ := Aside0.mk (below_step (by repeat (first | (with_reducible first | exact HB.out | apply below_alloc | apply pw_below_drewN | apply below_drew1) | exact HB.out)) hb); have n1_ := Aside0.mk (hbox); have n2_ := Aside0.mk ((by rw [hg]; exact (below_size (by repeat (first | (with_reducible first | exact HB.out | apply below_alloc | apply pw_below_drewN | apply below_drew1) | exact HB.out))) : w.heap.size ≤ gb294)); have n3_ := Aside0.mk ((by rw [hg]; exact (below_size (by repeat (first | (with_reducible first | exact HB.out | apply below_alloc | apply pw_below_drewN | apply below_drew1) | exact HB.out))) : w.heap.size ≤ gb294)); clear HB; have HB := n0_; have BK294 := n1_; have GW294 := n2_; have GE294 := n3_; clear n0_ n1_ n2_ n3_; clear hb hbox hg; have hcz4_0 : w3.cell? ⟨gb294, 0, none⟩ = some (.int .i64 a0_0) := (blk_cell BK294.out 0).trans rfl; have hcz4_1 : w3.cell? ⟨gb294, 1, none⟩ = some (.int .i64 a0_1) := (blk_cell BK294.out 1).trans rfl; have hcz4_2 : w3.cell? ⟨gb294, 2, none⟩ = some (.int .i64 a0_2) := (blk_cell BK294.out 2).trans rfl; have hcz4_3 : w3.cell? ⟨gb294, 3, none⟩ = some (.int .i64 a0_3) := (blk_cell BK294.out 3).trans rfl; have hcz4_4 : w3.cell? ⟨gb294, 4, none⟩ = some (.int .i64 a0_4) := (blk_cell BK294.out 4).trans rfl; have hcz4_5 : w3.cell? ⟨gb294, 5, none⟩ = some (.int .i64 a0_5) := (blk_cell BK294.out 5).trans rfl; have hcz4_6 : w3.cell? ⟨gb294, 6, none⟩ = some (.int .i64 a0_6) := (blk_cell BK294.out 6).trans rfl; have hcz4_7 : w3.cell? ⟨gb294, 7, none⟩ = some (.int .i64 a0_7) := (blk_cell BK294.out 7).trans rfl; have hcz4_8 : w3.cell? ⟨gb294, 8, none⟩ = some (.int .i64 a0_8) := (blk_cell BK294.out 8).trans rfl; have hcz4_9 : w3.cell? ⟨gb294, 9, none⟩ = some (.int .i64 a0_9) := (blk_cell BK294.out 9).trans rfl; have hcz4_10 : w3.cell? ⟨gb294, 10, none⟩ = some (.int .i64 a0_10) := (blk_cell BK294.out 10).trans rfl; have hcz4_11 : w3.cell? ⟨gb294, 11, none⟩ = some (.int .i64 a0_11) := (blk_cell BK294.out 11).trans rfl; have hcz4_12 : w3.cell? ⟨gb294, 12, none⟩ = some (.int .i64 a0_12) := (blk_cell BK294.out 12).trans rfl; have hcz4_13 : w3.cell? ⟨gb294, 13, none⟩ = some (.bool a0_13) := (blk_cell BK294.out 13).trans rfl; have hfz4_0 := blk_frozen BK294.out 0; have hfz4_1 := blk_frozen BK294.out 1; have hfz4_2 := blk_frozen BK294.out 2; have hfz4_3 := blk_frozen BK294.out 3; have hfz4_4 := blk_frozen BK294.out 4; have hfz4_5 := blk_frozen BK294.out 5; have hfz4_6 := blk_frozen BK294.out 6; have hfz4_7 := blk_frozen BK294.out 7; have hfz4_8 := blk_frozen BK294.out 8; have hfz4_9 := blk_frozen BK294.out 9; have hfz4_10 := blk_frozen BK294.out 10; have hfz4_11 := blk_frozen BK294.out 11; have hfz4_12 := blk_frozen BK294.out 12; have hfz4_13 := blk_frozen BK294.out 13) | ((with_reducible refine gate_callee (f := 23) rfl ?_); refine goesL_ (some 7) rfl rfl Try.func23 (by kernel_rfl) rfl #[.agg #[.int .i64 a0_0, .int .i64 a0_1, .int .i64 a0_2, .int .i64 a0_3, .int .i64 a0_4, .int .i64 a0_5, .int .i64 a0_6, .int .i64 a0_7, .int .i64 a0_8, .int .i64 a0_9, .int .i64 a0_10], .agg #[.int .i64 a0_11, .int .i64 a0_12]] rfl (by (try simp only [List.map_toArray, List.map_cons, List.map_nil]); first | done | rfl | (simp only [List.length_drop, List.length_take]; rfl)) ?_; (with_reducible refine (gatelineref23_Is.calls k a0_0 a0_1 a0_2 a0_3 a0_4 a0_5 a0_6 a0_7 a0_8 a0_9 a0_10 a0_11 a0_12 t295 _ A2.out).mono ?_); rintro e w5 ⟨rfl, hb⟩; refine ⟨_, rfl, ?_⟩; have n0_ := Aside0.mk (blk_below (g := gb294) (o := .cells #[.int .i64 a0_0, .int .i64 a0_1, .int .i64 a0_2, .int .i64 a0_3, .int .i64 a0_4, .int .i64 a0_5, .int .i64 a0_6, .int .i64 a0_7, .int .i64 a0_8, .int .i64 a0_9, .int .i64 a0_10, .int .i64 a0_11, .int .i64 a0_12, .bool a0_13] 48 (0, 0)) (by (with_reducible repeat (first | refine blk_drewN ?_ _ | refine blk_drew ?_ | refine blk_alloc ?_ _)); exact BK294.out) hb); have n1_ := Aside0.mk (below_step (by repeat (first | (with_reducible first | exact HB.out | apply below_alloc | apply pw_below_drewN | apply below_drew1 | refine below_set ?_ GE294.out) | exact HB.out)) hb); clear BK294; clear HB; have BK294 := n0_; have HB := n1_; clear n0_ n1_; (try clear hb); (try clear hb2); (try clear hk); (try clear hi); (try clear A2)))
  go_ret
  exact ⟨by first | rfl | (simp [errW_none, errW_some] <;> rfl) | (simp [*, errW_none, errW_some] <;> rfl), by repeat (first | (with_reducible first | exact HB.out | apply below_alloc | apply pw_below_drewN | apply below_drew1 | refine below_set ?_ GE294.out) | exact HB.out)⟩

/-! ### gatelineref25_Same: function 39 -/
def gatelineref25_Same.f (k : Nat) (a0_0 : Int) (a0_1 : Int) (a0_2 : Int) (a0_3 : Int) (a0_4 : Int) (a0_5 : Int) (a0_6 : Int) (a0_7 : Int) (a0_8 : Int) (a0_9 : Int) (a0_10 : Int) (a0_11 : Int) (a0_12 : Int) (a0_13 : Bool) (a1_0 : Int) (a1_1 : Int) (a1_2 : Int) (a1_3 : Int) (a1_4 : Int) (a1_5 : Int) (a1_6 : Int) (a1_7 : Int) (a1_8 : Int) (a1_9 : Int) (a1_10 : Int) : Option (Int × Int) := (gatelineref24_Is.f k a0_0 a0_1 a0_2 a0_3 a0_4 a0_5 a0_6 a0_7 a0_8 a0_9 a0_10 a0_11 a0_12 a0_13).bind fun t298 => (if t298 = true then (if a0_13 = true then (some (4, 0)) else (if (!(a1_0 == a0_0) || (!(a1_1 == a0_1) || (!(a1_2 == a0_2) || (!(a1_3 == a0_3) || (!(a1_4 == a0_4) || (!(a1_5 == a0_5) || (!(a1_6 == a0_6) || (!(a1_7 == a0_7) || (!(a1_8 == a0_8) || (!(a1_9 == a0_9) || (!(a1_10 == a0_10)))))))))))) = true then (some (5, 0)) else (some (0, 0)))) else (some (0, 1)))
theorem gatelineref25_Same.mono : ∀ a0 a1 a2 a3 a4 a5 a6 a7 a8 a9 a10 a11 a12 a13 a14 a15 a16 a17 a18 a19 a20 a21 a22 a23 a24 k, LeO (gatelineref25_Same.f k a0 a1 a2 a3 a4 a5 a6 a7 a8 a9 a10 a11 a12 a13 a14 a15 a16 a17 a18 a19 a20 a21 a22 a23 a24) (gatelineref25_Same.f (k + 1) a0 a1 a2 a3 a4 a5 a6 a7 a8 a9 a10 a11 a12 a13 a14 a15 a16 a17 a18 a19 a20 a21 a22 a23 a24) := by
  intro a0 a1 a2 a3 a4 a5 a6 a7 a8 a9 a10 a11 a12 a13 a14 a15 a16 a17 a18 a19 a20 a21 a22 a23 a24 k
  unfold gatelineref25_Same.f
  repeat' first
      | (with_reducible exact gatelineref24_Is.mono _ _ _ _ _ _ _ _ _ _ _ _ _ _ _)
      | (with_reducible exact LeO.refl _)
      | (with_reducible exact LeO.none _)
      | (with_reducible refine LeO.ite ?_ ?_)
      | (with_reducible refine LeO.bind ?_ (fun _ => ?_))
      | exact gatelineref24_Is.mono _ _ _ _ _ _ _ _ _ _ _ _ _ _ _
      | exact LeO.none _
      | refine LeO.ite ?_ ?_
      | refine LeO.bind ?_ (fun _ => ?_)
set_option maxHeartbeats 8000000 in
set_option maxRecDepth 100000 in
theorem gatelineref25_Same.calls (k : Nat) (a0_0 : Int) (a0_1 : Int) (a0_2 : Int) (a0_3 : Int) (a0_4 : Int) (a0_5 : Int) (a0_6 : Int) (a0_7 : Int) (a0_8 : Int) (a0_9 : Int) (a0_10 : Int) (a0_11 : Int) (a0_12 : Int) (a0_13 : Bool) (a1_0 : Int) (a1_1 : Int) (a1_2 : Int) (a1_3 : Int) (a1_4 : Int) (a1_5 : Int) (a1_6 : Int) (a1_7 : Int) (a1_8 : Int) (a1_9 : Int) (a1_10 : Int) (r1 : Int) (r2 : Int) (w : World) (h : gatelineref25_Same.f k a0_0 a0_1 a0_2 a0_3 a0_4 a0_5 a0_6 a0_7 a0_8 a0_9 a0_10 a0_11 a0_12 a0_13 a1_0 a1_1 a1_2 a1_3 a1_4 a1_5 a1_6 a1_7 a1_8 a1_9 a1_10 = some (r1, r2)) :
    Calls Try.prog 39 #[.agg #[.int .i64 a0_0, .int .i64 a0_1, .int .i64 a0_2, .int .i64 a0_3, .int .i64 a0_4, .int .i64 a0_5, .int .i64 a0_6, .int .i64 a0_7, .int .i64 a0_8, .int .i64 a0_9, .int .i64 a0_10, .int .i64 a0_11, .int .i64 a0_12, .bool a0_13], .agg #[.int .i64 a1_0, .int .i64 a1_1, .int .i64 a1_2, .int .i64 a1_3, .int .i64 a1_4, .int .i64 a1_5, .int .i64 a1_6, .int .i64 a1_7, .int .i64 a1_8, .int .i64 a1_9, .int .i64 a1_10]] w fun e w' => e = .returned (.tuple #[.int .i64 r1, .int .i64 r2]) ∧ Below w.heap.size w w' := by
  have hu48 := Try.underlying48
  have hu23 := Try.underlying23
  have HB := Aside0.mk (Below.refl w.heap.size w)
  have H : ((gatelineref24_Is.f k a0_0 a0_1 a0_2 a0_3 a0_4 a0_5 a0_6 a0_7 a0_8 a0_9 a0_10 a0_11 a0_12 a0_13).bind fun t298 => (if t298 = true then (if a0_13 = true then (some (4, 0)) else (if (!(a1_0 == a0_0) || (!(a1_1 == a0_1) || (!(a1_2 == a0_2) || (!(a1_3 == a0_3) || (!(a1_4 == a0_4) || (!(a1_5 == a0_5) || (!(a1_6 == a0_6) || (!(a1_7 == a0_7) || (!(a1_8 == a0_8) || (!(a1_9 == a0_9) || (!(a1_10 == a0_10)))))))))))) = true then (some (5, 0)) else (some (0, 0)))) else (some (0, 1)))) = some (r1, r2) := h
  clear h
  replace H := Option.bind_eq_some_iff.mp H
  obtain ⟨t298, A30, H⟩ := H
  replace H : (if t298 = true then (if a0_13 = true then (some (4, 0)) else (if (!(a1_0 == a0_0) || (!(a1_1 == a0_1) || (!(a1_2 == a0_2) || (!(a1_3 == a0_3) || (!(a1_4 == a0_4) || (!(a1_5 == a0_5) || (!(a1_6 == a0_6) || (!(a1_7 == a0_7) || (!(a1_8 == a0_8) || (!(a1_9 == a0_9) || (!(a1_10 == a0_10)))))))))))) = true then (some (5, 0)) else (some (0, 0)))) else (some (0, 1))) = some (r1, r2) := H
  have A3 := Aside0.mk A30
  clear A30
  by_cases c4 : t298 = true
  · subst c4
    have H1 : (if a0_13 = true then (some (4, 0)) else (if (!(a1_0 == a0_0) || (!(a1_1 == a0_1) || (!(a1_2 == a0_2) || (!(a1_3 == a0_3) || (!(a1_4 == a0_4) || (!(a1_5 == a0_5) || (!(a1_6 == a0_6) || (!(a1_7 == a0_7) || (!(a1_8 == a0_8) || (!(a1_9 == a0_9) || (!(a1_10 == a0_10)))))))))))) = true then (some (5, 0)) else (some (0, 0)))) = some (r1, r2) := by rw [if_pos rfl] at H; exact H
    clear H
    have H := H1
    clear H1
    by_cases c5 : a0_13 = true
    · subst c5
      have H1 : (some (4, 0)) = some (r1, r2) := by rw [if_pos rfl] at H; exact H
      clear H
      have H := H1
      clear H1
      simp only [Option.some.injEq, Prod.mk.injEq] at H
      obtain ⟨rfl, rfl⟩ := H
      go_enter Try.func39, Try.ntmps39
      go_wp2_with (first | ((with_reducible refine gate_dst (N := 2) rfl ?_); refine box_event ?hg (N := 2) ?hd (cs := #[.int .i64 a0_0, .int .i64 a0_1, .int .i64 a0_2, .int .i64 a0_3, .int .i64 a0_4, .int .i64 a0_5, .int .i64 a0_6, .int .i64 a0_7, .int .i64 a0_8, .int .i64 a0_9, .int .i64 a0_10, .int .i64 a0_11, .int .i64 a0_12, .bool true]) (t := 48) ?hr ?_; (case hd => rfl); (case hg => rfl); (case hr => first | (go_simp; done) | (go_simp; rfl)); intro gb296 hg w6 hbox hb; have n0_ := Aside0.mk (below_step (by repeat (first | (with_reducible first | exact HB.out | apply below_alloc | apply pw_below_drewN | apply below_drew1) | exact HB.out)) hb); have n1_ := Aside0.mk (hbox); have n2_ := Aside0.mk ((by rw [hg]; exact (below_size (by repeat (first | (with_reducible first | exact HB.out | apply below_alloc | apply pw_below_drewN | apply below_drew1) | exact HB.out))) : w.heap.size ≤ gb296)); have n3_ := Aside0.mk ((by rw [hg]; exact (below_size (by repeat (first | (with_reducible first | exact HB.out | apply below_alloc | apply pw_below_drewN | apply below_drew1) | exact HB.out))) : w.heap.size ≤ gb296)); clear HB; have HB := n0_; have BK296 := n1_; have GW296 := n2_; have GE296 := n3_; clear n0_ n1_ n2_ n3_; clear hb hbox hg) | ((with_reducible refine gate_dst (N := 3) rfl ?_); refine box_event ?hg (N := 3) ?hd (cs := #[.int .i64 a1_0, .int .i64 a1_1, .int .i64 a1_2, .int .i64 a1_3, .int .i64 a1_4, .int .i64 a1_5, .int .i64 a1_6, .int .i64 a1_7, .int .i64 a1_8, .int .i64 a1_9, .int .i64 a1_10]) (t := 23) ?hr ?_; (case hd => rfl); (case hg => rfl); (case hr => first | (go_simp; done) | (go_simp; rfl)); intro gb297 hg w7 hbox hb; have n0_ := Aside0.mk (blk_below (g := gb296) (o := .cells #[.int .i64 a0_0, .int .i64 a0_1, .int .i64 a0_2, .int .i64 a0_3, .int .i64 a0_4, .int .i64 a0_5, .int .i64 a0_6, .int .i64 a0_7, .int .i64 a0_8, .int .i64 a0_9, .int .i64 a0_10, .int .i64 a0_11, .int .i64 a0_12, .bool true] 48 (0, 0)) (by (with_reducible repeat (first | refine blk_drewN ?_ _ | refine blk_drew ?_ | refine blk_alloc ?_ _)); exact BK296.out) hb); have n1_ := Aside0.mk (below_step (by repeat (first | (with_reducible first | exact HB.out | apply below_alloc | apply pw_below_drewN | apply below_drew1 | refine below_set ?_ GE296.out) | exact HB.out)) hb); have n2_ := Aside0.mk (hbox); have n3_ := Aside0.mk ((by rw [hg]; exact (below_size (by repeat (first | (with_reducible first | exact HB.out | apply below_alloc | apply pw_below_drewN | apply below_drew1 | refine below_set ?_ GE296.out) | exact HB.out))) : w.heap.size ≤ gb297)); have n4_ := Aside0.mk ((by rw [hg]; exact (below_size (by repeat (first | (with_reducible first | exact HB.out | apply below_alloc | apply pw_below_drewN | apply below_drew1 | refine below_set ?_ GE296.out) | exact HB.out))) : w.heap.size ≤ gb297)); have n5_ := Aside0.mk ((by rw [hg]; exact Nat.ne_of_lt (blk_lt (g := gb296) (o := .cells #[.int .i64 a0_0, .int .i64 a0_1, .int .i64 a0_2, .int .i64 a0_3, .int .i64 a0_4, .int .i64 a0_5, .int .i64 a0_6, .int .i64 a0_7, .int .i64 a0_8, .int .i64 a0_9, .int .i64 a0_10, .int .i64 a0_11, .int .i64 a0_12, .bool true] 48 (0, 0)) (by (with_reducible repeat (first | refine blk_drewN ?_ _ | refine blk_drew ?_ | refine blk_alloc ?_ _)); exact BK296.out)) : gb296 ≠ gb297)); have n6_ := Aside0.mk ((by rw [hg]; exact Nat.ne_of_gt (blk_lt (g := gb296) (o := .cells #[.int .i64 a0_0, .int .i64 a0_1, .int .i64 a0_2, .int .i64 a0_3, .int .i64 a0_4, .int .i64 a0_5, .int .i64 a0_6, .int .i64 a0_7, .int .i64 a0_8, .int .i64 a0_9, .int .i64 a0_10, .int .i64 a0_11, .int .i64 a0_12, .bool true] 48 (0, 0)) (by (with_reducible repeat (first | refine blk_drewN ?_ _ | refine blk_drew ?_ | refine blk_alloc ?_ _)); exact BK296.out)) : gb297 ≠ gb296)); clear BK296; clear HB; have BK296 := n0_; have HB := n1_; have BK297 := n2_; have GW297 := n3_; have GE297 := n4_; have NB296_297 := n5_; have NB297_296 := n6_; clear n0_ n1_ n2_ n3_ n4_ n5_ n6_; clear hb hbox hg; have hnb8 := NB296_297.out; have hnc8 := NB297_296.out; have hcz9_0 : w7.cell? ⟨gb296, 0, none⟩ = some (.int .i64 a0_0) := (blk_cell BK296.out 0).trans rfl; have hcz9_1 : w7.cell? ⟨gb296, 1, none⟩ = some (.int .i64 a0_1) := (blk_cell BK296.out 1).trans rfl; have hcz9_2 : w7.cell? ⟨gb296, 2, none⟩ = some (.int .i64 a0_2) := (blk_cell BK296.out 2).trans rfl; have hcz9_3 : w7.cell? ⟨gb296, 3, none⟩ = some (.int .i64 a0_3) := (blk_cell BK296.out 3).trans rfl; have hcz9_4 : w7.cell? ⟨gb296, 4, none⟩ = some (.int .i64 a0_4) := (blk_cell BK296.out 4).trans rfl; have hcz9_5 : w7.cell? ⟨gb296, 5, none⟩ = some (.int .i64 a0_5) := (blk_cell BK296.out 5).trans rfl; have hcz9_6 : w7.cell? ⟨gb296, 6, none⟩ = some (.int .i64 a0_6) := (blk_cell BK296.out 6).trans rfl; have hcz9_7 : w7.cell? ⟨gb296, 7, none⟩ = some (.int .i64 a0_7) := (blk_cell BK296.out 7).trans rfl; have hcz9_8 : w7.cell? ⟨gb296, 8, none⟩ = some (.int .i64 a0_8) := (blk_cell BK296.out 8).trans rfl; have hcz9_9 : w7.cell? ⟨gb296, 9, none⟩ = some (.int .i64 a0_9) := (blk_cell BK296.out 9).trans rfl; have hcz9_10 : w7.cell? ⟨gb296, 10, none⟩ = some (.int .i64 a0_10) := (blk_cell BK296.out 10).trans rfl; have hcz9_11 : w7.cell? ⟨gb296, 11, none⟩ = some (.int .i64 a0_11) := (blk_cell BK296.out 11).trans rfl; have hcz9_12 : w7.cell? ⟨gb296, 12, none⟩ = some (.int .i64 a0_12) := (blk_cell BK296.out 12).trans rfl; have hcz9_13 : w7.cell? ⟨gb296, 13, none⟩ = some (.bool true) := (blk_cell BK296.out 13).trans rfl; have hfz9_0 := blk_frozen BK296.out 0; have hfz9_1 := blk_frozen BK296.out 1; have hfz9_2 := blk_frozen BK296.out 2; have hfz9_3 := blk_frozen BK296.out 3; have hfz9_4 := blk_frozen BK296.out 4; have hfz9_5 := blk_frozen BK296.out 5; have hfz9_6 := blk_frozen BK296.out 6; have hfz9_7 := blk_frozen BK296.out 7; have hfz9_8 := blk_frozen BK296.out 8; have hfz9_9 := blk_frozen BK296.out 9; have hfz9_10 := blk_frozen BK296.out 10; have hfz9_11 := blk_frozen BK296.out 11; have hfz9_12 := blk_frozen BK296.out 12; have hfz9_13 := blk_frozen BK296.out 13) | ((with_reducible refine gate_callee (f := 72) rfl ?_); refine goesL_ (some 7) rfl rfl Try.func72 (by kernel_rfl) rfl #[.agg #[.int .i64 a0_0, .int .i64 a0_1, .int .i64 a0_2, .int .i64 a0_3, .int .i64 a0_4, .int .i64 a0_5, .int .i64 a0_6, .int .i64 a0_7, .int .i64 a0_8, .int .i64 a0_9, .int .i64 a0_10, .int .i64 a0_11, .int .i64 a0_12, .bool true]] rfl (by (try simp only [List.map_toArray, List.map_cons, List.map_nil]); first | done | rfl | (simp only [List.length_drop, List.length_take]; rfl)) ?_; (with_reducible refine (gatelineref24_Is.calls k a0_0 a0_1 a0_2 a0_3 a0_4 a0_5 a0_6 a0_7 a0_8 a0_9 a0_10 a0_11 a0_12 true true _ A3.out).mono ?_); rintro e w10 ⟨rfl, hb⟩; refine ⟨_, rfl, ?_⟩; have n0_ := Aside0.mk (blk_below (g := gb296) (o := .cells #[.int .i64 a0_0, .int .i64 a0_1, .int .i64 a0_2, .int .i64 a0_3, .int .i64 a0_4, .int .i64 a0_5, .int .i64 a0_6, .int .i64 a0_7, .int .i64 a0_8, .int .i64 a0_9, .int .i64 a0_10, .int .i64 a0_11, .int .i64 a0_12, .bool true] 48 (0, 0)) (by (with_reducible repeat (first | refine blk_drewN ?_ _ | refine blk_drew ?_ | refine blk_alloc ?_ _)); exact BK296.out) hb); have n1_ := Aside0.mk (blk_below (g := gb297) (o := .cells #[.int .i64 a1_0, .int .i64 a1_1, .int .i64 a1_2, .int .i64 a1_3, .int .i64 a1_4, .int .i64 a1_5, .int .i64 a1_6, .int .i64 a1_7, .int .i64 a1_8, .int .i64 a1_9, .int .i64 a1_10] 23 (0, 0)) (by (with_reducible repeat (first | refine blk_drewN ?_ _ | refine blk_drew ?_ | refine blk_alloc ?_ _)); exact BK297.out) hb); have n2_ := Aside0.mk (below_step (by repeat (first | (with_reducible first | exact HB.out | apply below_alloc | apply pw_below_drewN | apply below_drew1 | refine below_set ?_ GE296.out | refine below_set ?_ GE297.out) | exact HB.out)) hb); clear BK296; clear BK297; clear HB; have BK296 := n0_; have BK297 := n1_; have HB := n2_; clear n0_ n1_ n2_; (try clear hb); (try clear hb2); (try clear hk); (try clear hi); (try clear A3); have hcz11_0 : w10.cell? ⟨gb296, 0, none⟩ = some (.int .i64 a0_0) := (blk_cell BK296.out 0).trans rfl; have hcz11_1 : w10.cell? ⟨gb296, 1, none⟩ = some (.int .i64 a0_1) := (blk_cell BK296.out 1).trans rfl; have hcz11_2 : w10.cell? ⟨gb296, 2, none⟩ = some (.int .i64 a0_2) := (blk_cell BK296.out 2).trans rfl; have hcz11_3 : w10.cell? ⟨gb296, 3, none⟩ = some (.int .i64 a0_3) := (blk_cell BK296.out 3).trans rfl; have hcz11_4 : w10.cell? ⟨gb296, 4, none⟩ = some (.int .i64 a0_4) := (blk_cell BK296.out 4).trans rfl; have hcz11_5 : w10.cell? ⟨gb296, 5, none⟩ = some (.int .i64 a0_5) := (blk_cell BK296.out 5).trans rfl; have hcz11_6 : w10.cell? ⟨gb296, 6, none⟩ = some (.int .i64 a0_6) := (blk_cell BK296.out 6).trans rfl; have hcz11_7 : w10.cell? ⟨gb296, 7, none⟩ = some (.int .i64 a0_7) := (blk_cell BK296.out 7).trans rfl; have hcz11_8 : w10.cell? ⟨gb296, 8, none⟩ = some (.int .i64 a0_8) := (blk_cell BK296.out 8).trans rfl; have hcz11_9 : w10.cell? ⟨gb296, 9, none⟩ = some (.int .i64 a0_9) := (blk_cell BK296.out 9).trans rfl; have hcz11_10 : w10.cell? ⟨gb296, 10, none⟩ = some (.int .i64 a0_10) := (blk_cell BK296.out 10).trans rfl; have hcz11_11 : w10.cell? ⟨gb296, 11, none⟩ = some (.int .i64 a0_11) := (blk_cell BK296.out 11).trans rfl; have hcz11_12 : w10.cell? ⟨gb296, 12, none⟩ = some (.int .i64 a0_12) := (blk_cell BK296.out 12).trans rfl; have hcz11_13 : w10.cell? ⟨gb296, 13, none⟩ = some (.bool true) := (blk_cell BK296.out 13).trans rfl; have hfz11_0 := blk_frozen BK296.out 0; have hfz11_1 := blk_frozen BK296.out 1; have hfz11_2 := blk_frozen BK296.out 2; have hfz11_3 := blk_frozen BK296.out 3; have hfz11_4 := blk_frozen BK296.out 4; have hfz11_5 := blk_frozen BK296.out 5; have hfz11_6 := blk_frozen BK296.out 6; have hfz11_7 := blk_frozen BK296.out 7; have hfz11_8 := blk_frozen BK296.out 8; have hfz11_9 := blk_frozen BK296.out 9; have hfz11_10 := blk_frozen BK296.out 10; have hfz11_11 := blk_frozen BK296.out 11; have hfz11_12 := blk_frozen BK296.out 12; have hfz11_13 := blk_frozen BK296.out 13))
      go_ret2
      exact ⟨by first | rfl | (simp [errW_none, errW_some] <;> rfl) | (simp [*, errW_none, errW_some] <;> rfl), by repeat (first | (with_reducible first | exact HB.out | apply below_alloc | apply pw_below_drewN | apply below_drew1 | refine below_set ?_ GE296.out | refine below_set ?_ GE297.out) | exact HB.out)⟩
    · replace c5 := Bool.eq_false_iff.mpr c5
      subst c5
      have H1 : (if (!(a1_0 == a0_0) || (!(a1_1 == a0_1) || (!(a1_2 == a0_2) || (!(a1_3 == a0_3) || (!(a1_4 == a0_4) || (!(a1_5 == a0_5) || (!(a1_6 == a0_6) || (!(a1_7 == a0_7) || (!(a1_8 == a0_8) || (!(a1_9 == a0_9) || (!(a1_10 == a0_10)))))))))))) = true then (some (5, 0)) else (some (0, 0))) = some (r1, r2) := by rw [if_neg (show ¬ (false = true) by decide)] at H; exact H
      clear H
      have H := H1
      clear H1
      by_cases c12 : (!(a1_0 == a0_0) || (!(a1_1 == a0_1) || (!(a1_2 == a0_2) || (!(a1_3 == a0_3) || (!(a1_4 == a0_4) || (!(a1_5 == a0_5) || (!(a1_6 == a0_6) || (!(a1_7 == a0_7) || (!(a1_8 == a0_8) || (!(a1_9 == a0_9) || (!(a1_10 == a0_10)))))))))))) = true
      · rw [if_pos c12] at H
        have c12b0 : (!(a1_0 == a0_0) || (!(a1_1 == a0_1) || (!(a1_2 == a0_2) || (!(a1_3 == a0_3) || (!(a1_4 == a0_4) || (!(a1_5 == a0_5) || (!(a1_6 == a0_6) || (!(a1_7 == a0_7) || (!(a1_8 == a0_8) || (!(a1_9 == a0_9) || (!(a1_10 == a0_10)))))))))))) = true := c12
        clear c12
        simp only [Option.some.injEq, Prod.mk.injEq] at H
        obtain ⟨rfl, rfl⟩ := H
        go_enter Try.func39, Try.ntmps39
        go_wp2_with (first | ((with_reducible refine gate_dst (N := 2) rfl ?_); refine box_event ?hg (N := 2) ?hd (cs := #[.int .i64 a0_0, .int .i64 a0_1, .int .i64 a0_2, .int .i64 a0_3, .int .i64 a0_4, .int .i64 a0_5, .int .i64 a0_6, .int .i64 a0_7, .int .i64 a0_8, .int .i64 a0_9, .int .i64 a0_10, .int .i64 a0_11, .int .i64 a0_12, .bool false]) (t := 48) ?hr ?_; (case hd => rfl); (case hg => rfl); (case hr => first | (go_simp; done) | (go_simp; rfl)); intro gb296 hg w13 hbox hb; have n0_ := Aside0.mk (below_step (by repeat (first | (with_reducible first | exact HB.out | apply below_alloc | apply pw_below_drewN | apply below_drew1) | exact HB.out)) hb); have n1_ := Aside0.mk (hbox); have n2_ := Aside0.mk ((by rw [hg]; exact (below_size (by repeat (first | (with_reducible first | exact HB.out | apply below_alloc | apply pw_below_drewN | apply below_drew1) | exact HB.out))) : w.heap.size ≤ gb296)); have n3_ := Aside0.mk ((by rw [hg]; exact (below_size (by repeat (first | (with_reducible first | exact HB.out | apply below_alloc | apply pw_below_drewN | apply below_drew1) | exact HB.out))) : w.heap.size ≤ gb296)); clear HB; have HB := n0_; have BK296 := n1_; have GW296 := n2_; have GE296 := n3_; clear n0_ n1_ n2_ n3_; clear hb hbox hg) | ((with_reducible refine gate_dst (N := 3) rfl ?_); refine box_event ?hg (N := 3) ?hd (cs := #[.int .i64 a1_0, .int .i64 a1_1, .int .i64 a1_2, .int .i64 a1_3, .int .i64 a1_4, .int .i64 a1_5, .int .i64 a1_6, .int .i64 a1_7, .int .i64 a1_8, .int .i64 a1_9, .int .i64 a1_10]) (t := 23) ?hr ?_; (case hd => rfl); (case hg => rfl); (case hr => first | (go_simp; done) | (go_simp; rfl)); intro gb297 hg w14 hbox hb; have n0_ := Aside0.mk (blk_below (g := gb296) (o := .cells #[.int .i64 a0_0, .int .i64 a0_1, .int .i64 a0_2, .int .i64 a0_3, .int .i64 a0_4, .int .i64 a0_5, .int .i64 a0_6, .int .i64 a0_7, .int .i64 a0_8, .int .i64 a0_9, .int .i64 a0_10, .int .i64 a0_11, .int .i64 a0_12, .bool false] 48 (0, 0)) (by (with_reducible repeat (first | refine blk_drewN ?_ _ | refine blk_drew ?_ | refine blk_alloc ?_ _)); exact BK296.out) hb); have n1_ := Aside0.mk (below_step (by repeat (first | (with_reducible first | exact HB.out | apply below_alloc | apply pw_below_drewN | apply below_drew1 | refine below_set ?_ GE296.out) | exact HB.out)) hb); have n2_ := Aside0.mk (hbox); have n3_ := Aside0.mk ((by rw [hg]; exact (below_size (by repeat (first | (with_reducible first | exact HB.out | apply below_alloc | apply pw_below_drewN | apply below_drew1 | refine below_set ?_ GE296.out) | exact HB.out))) : w.heap.size ≤ gb297)); have n4_ := Aside0.mk ((by rw [hg]; exact (below_size (by repeat (first | (with_reducible first | exact HB.out | apply below_alloc | apply pw_below_drewN | apply below_drew1 | refine below_set ?_ GE296.out) | exact HB.out))) : w.heap.size ≤ gb297)); have n5_ := Aside0.mk ((by rw [hg]; exact Nat.ne_of_lt (blk_lt (g := gb296) (o := .cells #[.int .i64 a0_0, .int .i64 a0_1, .int .i64 a0_2, .int .i64 a0_3, .int .i64 a0_4, .int .i64 a0_5, .int .i64 a0_6, .int .i64 a0_7, .int .i64 a0_8, .int .i64 a0_9, .int .i64 a0_10, .int .i64 a0_11, .int .i64 a0_12, .bool false] 48 (0, 0)) (by (with_reducible repeat (first | refine blk_drewN ?_ _ | refine blk_drew ?_ | refine blk_alloc ?_ _)); exact BK296.out)) : gb296 ≠ gb297)); have n6_ := Aside0.mk ((by rw [hg]; exact Nat.ne_of_gt (blk_lt (g := gb296) (o := .cells #[.int .i64 a0_0, .int .i64 a0_1, .int .i64 a0_2, .int .i64 a0_3, .int .i64 a0_4, .int .i64 a0_5, .int .i64 a0_6, .int .i64 a0_7, .int .i64 a0_8, .int .i64 a0_9, .int .i64 a0_10, .int .i64 a0_11, .int .i64 a0_12, .bool false] 48 (0, 0)) (by (with_reducible repeat (first | refine blk_drewN ?_ _ | refine blk_drew ?_ | refine blk_alloc ?_ _)); exact BK296.out)) : gb297 ≠ gb296)); clear BK296; clear HB; have BK296 := n0_; have HB := n1_; have BK297 := n2_; have GW297 := n3_; have GE297 := n4_; have NB296_297 := n5_; have NB297_296 := n6_; clear n0_ n1_ n2_ n3_ n4_ n5_ n6_; clear hb hbox hg; have hnb15 := NB296_297.out; have hnc15 := NB297_296.out; have hcz16_0 : w14.cell? ⟨gb296, 0, none⟩ = some (.int .i64 a0_0) := (blk_cell BK296.out 0).trans rfl; have hcz16_1 : w14.cell? ⟨gb296, 1, none⟩ = some (.int .i64 a0_1) := (blk_cell BK296.out 1).trans rfl; have hcz16_2 : w14.cell? ⟨gb296, 2, none⟩ = some (.int .i64 a0_2) := (blk_cell BK296.out 2).trans rfl; have hcz16_3 : w14.cell? ⟨gb296, 3, none⟩ = some (.int .i64 a0_3) := (blk_cell BK296.out 3).trans rfl; have hcz16_4 : w14.cell? ⟨gb296, 4, none⟩ = some (.int .i64 a0_4) := (blk_cell BK296.out 4).trans rfl; have hcz16_5 : w14.cell? ⟨gb296, 5, none⟩ = some (.int .i64 a0_5) := (blk_cell BK296.out 5).trans rfl; have hcz16_6 : w14.cell? ⟨gb296, 6, none⟩ = some (.int .i64 a0_6) := (blk_cell BK296.out 6).trans rfl; have hcz16_7 : w14.cell? ⟨gb296, 7, none⟩ = some (.int .i64 a0_7) := (blk_cell BK296.out 7).trans rfl; have hcz16_8 : w14.cell? ⟨gb296, 8, none⟩ = some (.int .i64 a0_8) := (blk_cell BK296.out 8).trans rfl; have hcz16_9 : w14.cell? ⟨gb296, 9, none⟩ = some (.int .i64 a0_9) := (blk_cell BK296.out 9).trans rfl; have hcz16_10 : w14.cell? ⟨gb296, 10, none⟩ = some (.int .i64 a0_10) := (blk_cell BK296.out 10).trans rfl; have hcz16_11 : w14.cell? ⟨gb296, 11, none⟩ = some (.int .i64 a0_11) := (blk_cell BK296.out 11).trans rfl; have hcz16_12 : w14.cell? ⟨gb296, 12, none⟩ = some (.int .i64 a0_12) := (blk_cell BK296.out 12).trans rfl; have hcz16_13 : w14.cell? ⟨gb296, 13, none⟩ = some (.bool false) := (blk_cell BK296.out 13).trans rfl; have hfz16_0 := blk_frozen BK296.out 0; have hfz16_1 := blk_frozen BK296.out 1; have hfz16_2 := blk_frozen BK296.out 2; have hfz16_3 := blk_frozen BK296.out 3; have hfz16_4 := blk_frozen BK296.out 4; have hfz16_5 := blk_frozen BK296.out 5; have hfz16_6 := blk_frozen BK296.out 6; have hfz16_7 := blk_frozen BK296.out 7; have hfz16_8 := blk_frozen BK296.out 8; have hfz16_9 := blk_frozen BK296.out 9; have hfz16_10 := blk_frozen BK296.out 10; have hfz16_11 := blk_frozen BK296.out 11; have hfz16_12 := blk_frozen BK296.out 12; have hfz16_13 := blk_frozen BK296.out 13) | ((with_reducible refine gate_callee (f := 72) rfl ?_); refine goesL_ (some 7) rfl rfl Try.func72 (by kernel_rfl) rfl #[.agg #[.int .i64 a0_0, .int .i64 a0_1, .int .i64 a0_2, .int .i64 a0_3, .int .i64 a0_4, .int .i64 a0_5, .int .i64 a0_6, .int .i64 a0_7, .int .i64 a0_8, .int .i64 a0_9, .int .i64 a0_10, .int .i64 a0_11, .int .i64 a0_12, .bool false]] rfl (by (try simp only [List.map_toArray, List.map_cons, List.map_nil]); first | done | rfl | (simp only [List.length_drop, List.length_take]; rfl)) ?_; (with_reducible refine (gatelineref24_Is.calls k a0_0 a0_1 a0_2 a0_3 a0_4 a0_5 a0_6 a0_7 a0_8 a0_9 a0_10 a0_11 a0_12 false true _ A3.out).mono ?_); rintro e w17 ⟨rfl, hb⟩; refine ⟨_, rfl, ?_⟩; have n0_ := Aside0.mk (blk_below (g := gb296) (o := .cells #[.int .i64 a0_0, .int .i64 a0_1, .int .i64 a0_2, .int .i64 a0_3, .int .i64 a0_4, .int .i64 a0_5, .int .i64 a0_6, .int .i64 a0_7, .int .i64 a0_8, .int .i64 a0_9, .int .i64 a0_10, .int .i64 a0_11, .int .i64 a0_12, .bool false] 48 (0, 0)) (by (with_reducible repeat (first | refine blk_drewN ?_ _ | refine blk_drew ?_ | refine blk_alloc ?_ _)); exact BK296.out) hb); have n1_ := Aside0.mk (blk_below (g := gb297) (o := .cells #[.int .i64 a1_0, .int .i64 a1_1, .int .i64 a1_2, .int .i64 a1_3, .int .i64 a1_4, .int .i64 a1_5, .int .i64 a1_6, .int .i64 a1_7, .int .i64 a1_8, .int .i64 a1_9, .int .i64 a1_10] 23 (0, 0)) (by (with_reducible repeat (first | refine blk_drewN ?_ _ | refine blk_drew ?_ | refine blk_alloc ?_ _)); exact BK297.out) hb); have n2_ := Aside0.mk (below_step (by repeat (first | (with_reducible first | exact HB.out | apply below_alloc | apply pw_below_drewN | apply below_drew1 | refine below_set ?_ GE296.out | refine below_set ?_ GE297.out) | exact HB.out)) hb); clear BK296; clear BK297; clear HB; have BK296 := n0_; have BK297 := n1_; have HB := n2_; clear n0_ n1_ n2_; (try clear hb); (try clear hb2); (try clear hk); (try clear hi); (try clear A3); have hcz18_0 : w17.cell? ⟨gb296, 0, none⟩ = some (.int .i64 a0_0) := (blk_cell BK296.out 0).trans rfl; have hcz18_1 : w17.cell? ⟨gb296, 1, none⟩ = some (.int .i64 a0_1) := (blk_cell BK296.out 1).trans rfl; have hcz18_2 : w17.cell? ⟨gb296, 2, none⟩ = some (.int .i64 a0_2) := (blk_cell BK296.out 2).trans rfl; have hcz18_3 : w17.cell? ⟨gb296, 3, none⟩ = some (.int .i64 a0_3) := (blk_cell BK296.out 3).trans rfl; have hcz18_4 : w17.cell? ⟨gb296, 4, none⟩ = some (.int .i64 a0_4) := (blk_cell BK296.out 4).trans rfl; have hcz18_5 : w17.cell? ⟨gb296, 5, none⟩ = some (.int .i64 a0_5) := (blk_cell BK296.out 5).trans rfl; have hcz18_6 : w17.cell? ⟨gb296, 6, none⟩ = some (.int .i64 a0_6) := (blk_cell BK296.out 6).trans rfl; have hcz18_7 : w17.cell? ⟨gb296, 7, none⟩ = some (.int .i64 a0_7) := (blk_cell BK296.out 7).trans rfl; have hcz18_8 : w17.cell? ⟨gb296, 8, none⟩ = some (.int .i64 a0_8) := (blk_cell BK296.out 8).trans rfl; have hcz18_9 : w17.cell? ⟨gb296, 9, none⟩ = some (.int .i64 a0_9) := (blk_cell BK296.out 9).trans rfl; have hcz18_10 : w17.cell? ⟨gb296, 10, none⟩ = some (.int .i64 a0_10) := (blk_cell BK296.out 10).trans rfl; have hcz18_11 : w17.cell? ⟨gb296, 11, none⟩ = some (.int .i64 a0_11) := (blk_cell BK296.out 11).trans rfl; have hcz18_12 : w17.cell? ⟨gb296, 12, none⟩ = some (.int .i64 a0_12) := (blk_cell BK296.out 12).trans rfl; have hcz18_13 : w17.cell? ⟨gb296, 13, none⟩ = some (.bool false) := (blk_cell BK296.out 13).trans rfl; have hfz18_0 := blk_frozen BK296.out 0; have hfz18_1 := blk_frozen BK296.out 1; have hfz18_2 := blk_frozen BK296.out 2; have hfz18_3 := blk_frozen BK296.out 3; have hfz18_4 := blk_frozen BK296.out 4; have hfz18_5 := blk_frozen BK296.out 5; have hfz18_6 := blk_frozen BK296.out 6; have hfz18_7 := blk_frozen BK296.out 7; have hfz18_8 := blk_frozen BK296.out 8; have hfz18_9 := blk_frozen BK296.out 9; have hfz18_10 := blk_frozen BK296.out 10; have hfz18_11 := blk_frozen BK296.out 11; have hfz18_12 := blk_frozen BK296.out 12; have hfz18_13 := blk_frozen BK296.out 13; have hcz19_0 : w17.cell? ⟨gb297, 0, none⟩ = some (.int .i64 a1_0) := (blk_cell BK297.out 0).trans rfl; have hcz19_1 : w17.cell? ⟨gb297, 1, none⟩ = some (.int .i64 a1_1) := (blk_cell BK297.out 1).trans rfl; have hcz19_2 : w17.cell? ⟨gb297, 2, none⟩ = some (.int .i64 a1_2) := (blk_cell BK297.out 2).trans rfl; have hcz19_3 : w17.cell? ⟨gb297, 3, none⟩ = some (.int .i64 a1_3) := (blk_cell BK297.out 3).trans rfl; have hcz19_4 : w17.cell? ⟨gb297, 4, none⟩ = some (.int .i64 a1_4) := (blk_cell BK297.out 4).trans rfl; have hcz19_5 : w17.cell? ⟨gb297, 5, none⟩ = some (.int .i64 a1_5) := (blk_cell BK297.out 5).trans rfl; have hcz19_6 : w17.cell? ⟨gb297, 6, none⟩ = some (.int .i64 a1_6) := (blk_cell BK297.out 6).trans rfl; have hcz19_7 : w17.cell? ⟨gb297, 7, none⟩ = some (.int .i64 a1_7) := (blk_cell BK297.out 7).trans rfl; have hcz19_8 : w17.cell? ⟨gb297, 8, none⟩ = some (.int .i64 a1_8) := (blk_cell BK297.out 8).trans rfl; have hcz19_9 : w17.cell? ⟨gb297, 9, none⟩ = some (.int .i64 a1_9) := (blk_cell BK297.out 9).trans rfl; have hcz19_10 : w17.cell? ⟨gb297, 10, none⟩ = some (.int .i64 a1_10) := (blk_cell BK297.out 10).trans rfl; have hfz19_0 := blk_frozen BK297.out 0; have hfz19_1 := blk_frozen BK297.out 1; have hfz19_2 := blk_frozen BK297.out 2; have hfz19_3 := blk_frozen BK297.out 3; have hfz19_4 := blk_frozen BK297.out 4; have hfz19_5 := blk_frozen BK297.out 5; have hfz19_6 := blk_frozen BK297.out 6; have hfz19_7 := blk_frozen BK297.out 7; have hfz19_8 := blk_frozen BK297.out 8; have hfz19_9 := blk_frozen BK297.out 9; have hfz19_10 := blk_frozen BK297.out 10))
        go_ret2
        exact ⟨by first | rfl | (simp [errW_none, errW_some] <;> rfl) | (simp [*, errW_none, errW_some] <;> rfl), by repeat (first | (with_reducible first | exact HB.out | apply below_alloc | apply pw_below_drewN | apply below_drew1 | refine below_set ?_ GE296.out | refine below_set ?_ GE297.out) | exact HB.out)⟩
      · rw [if_neg c12] at H
        have c12b0 : (!(a1_0 == a0_0) || (!(a1_1 == a0_1) || (!(a1_2 == a0_2) || (!(a1_3 == a0_3) || (!(a1_4 == a0_4) || (!(a1_5 == a0_5) || (!(a1_6 == a0_6) || (!(a1_7 == a0_7) || (!(a1_8 == a0_8) || (!(a1_9 == a0_9) || (!(a1_10 == a0_10)))))))))))) = false := by simpa using c12
        clear c12
        simp only [Option.some.injEq, Prod.mk.injEq] at H
        obtain ⟨rfl, rfl⟩ := H
        go_enter Try.func39, Try.ntmps39
        go_wp2_with (first | ((with_reducible refine gate_dst (N := 2) rfl ?_); refine box_event ?hg (N := 2) ?hd (cs := #[.int .i64 a0_0, .int .i64 a0_1, .int .i64 a0_2, .int .i64 a0_3, .int .i64 a0_4, .int .i64 a0_5, .int .i64 a0_6, .int .i64 a0_7, .int .i64 a0_8, .int .i64 a0_9, .int .i64 a0_10, .int .i64 a0_11, .int .i64 a0_12, .bool false]) (t := 48) ?hr ?_; (case hd => rfl); (case hg => rfl); (case hr => first | (go_simp; done) | (go_simp; rfl)); intro gb296 hg w20 hbox hb; have n0_ := Aside0.mk (below_step (by repeat (first | (with_reducible first | exact HB.out | apply below_alloc | apply pw_below_drewN | apply below_drew1) | exact HB.out)) hb); have n1_ := Aside0.mk (hbox); have n2_ := Aside0.mk ((by rw [hg]; exact (below_size (by repeat (first | (with_reducible first | exact HB.out | apply below_alloc | apply pw_below_drewN | apply below_drew1) | exact HB.out))) : w.heap.size ≤ gb296)); have n3_ := Aside0.mk ((by rw [hg]; exact (below_size (by repeat (first | (with_reducible first | exact HB.out | apply below_alloc | apply pw_below_drewN | apply below_drew1) | exact HB.out))) : w.heap.size ≤ gb296)); clear HB; have HB := n0_; have BK296 := n1_; have GW296 := n2_; have GE296 := n3_; clear n0_ n1_ n2_ n3_; clear hb hbox hg) | ((with_reducible refine gate_dst (N := 3) rfl ?_); refine box_event ?hg (N := 3) ?hd (cs := #[.int .i64 a1_0, .int .i64 a1_1, .int .i64 a1_2, .int .i64 a1_3, .int .i64 a1_4, .int .i64 a1_5, .int .i64 a1_6, .int .i64 a1_7, .int .i64 a1_8, .int .i64 a1_9, .int .i64 a1_10]) (t := 23) ?hr ?_; (case hd => rfl); (case hg => rfl); (case hr => first | (go_simp; done) | (go_simp; rfl)); intro gb297 hg w21 hbox hb; have n0_ := Aside0.mk (blk_below (g := gb296) (o := .cells #[.int .i64 a0_0, .int .i64 a0_1, .int .i64 a0_2, .int .i64 a0_3, .int .i64 a0_4, .int .i64 a0_5, .int .i64 a0_6, .int .i64 a0_7, .int .i64 a0_8, .int .i64 a0_9, .int .i64 a0_10, .int .i64 a0_11, .int .i64 a0_12, .bool false] 48 (0, 0)) (by (with_reducible repeat (first | refine blk_drewN ?_ _ | refine blk_drew ?_ | refine blk_alloc ?_ _)); exact BK296.out) hb); have n1_ := Aside0.mk (below_step (by repeat (first | (with_reducible first | exact HB.out | apply below_alloc | apply pw_below_drewN | apply below_drew1 | refine below_set ?_ GE296.out) | exact HB.out)) hb); have n2_ := Aside0.mk (hbox); have n3_ := Aside0.mk ((by rw [hg]; exact (below_size (by repeat (first | (with_reducible first | exact HB.out | apply below_alloc | apply pw_below_drewN | apply below_drew1 | refine below_set ?_ GE296.out) | exact HB.out))) : w.heap.size ≤ gb297)); have n4_ := Aside0.mk ((by rw [hg]; exact (below_size (by repeat (first | (with_reducible first | exact HB.out | apply below_alloc | apply pw_below_drewN | apply below_drew1 | refine below_set ?_ GE296.out) | exact HB.out))) : w.heap.size ≤ gb297)); have n5_ := Aside0.mk ((by rw [hg]; exact Nat.ne_of_lt (blk_lt (g := gb296) (o := .cells #[.int .i64 a0_0, .int .i64 a0_1, .int .i64 a0_2, .int .i64 a0_3, .int .i64 a0_4, .int .i64 a0_5, .int .i64 a0_6, .int .i64 a0_7, .int .i64 a0_8, .int .i64 a0_9, .int .i64 a0_10, .int .i64 a0_11, .int .i64 a0_12, .bool false] 48 (0, 0)) (by (with_reducible repeat (first | refine blk_drewN ?_ _ | refine blk_drew ?_ | refine blk_alloc ?_ _)); exact BK296.out)) : gb296 ≠ gb297)); have n6_ := Aside0.mk ((by rw [hg]; exact Nat.ne_of_gt (blk_lt (g := gb296) (o := .cells #[.int .i64 a0_0, .int .i64 a0_1, .int .i64 a0_2, .int .i64 a0_3, .int .i64 a0_4, .int .i64 a0_5, .int .i64 a0_6, .int .i64 a0_7, .int .i64 a0_8, .int .i64 a0_9, .int .i64 a0_10, .int .i64 a0_11, .int .i64 a0_12, .bool false] 48 (0, 0)) (by (with_reducible repeat (first | refine blk_drewN ?_ _ | refine blk_drew ?_ | refine blk_alloc ?_ _)); exact BK296.out)) : gb297 ≠ gb296)); clear BK296; clear HB; have BK296 := n0_; have HB := n1_; have BK297 := n2_; have GW297 := n3_; have GE297 := n4_; have NB296_297 := n5_; have NB297_296 := n6_; clear n0_ n1_ n2_ n3_ n4_ n5_ n6_; clear hb hbox hg; have hnb22 := NB296_297.out; have hnc22 := NB297_296.out; have hcz23_0 : w21.cell? ⟨gb296, 0, none⟩ = some (.int .i64 a0_0) := (blk_cell BK296.out 0).trans rfl; have hcz23_1 : w21.cell? ⟨gb296, 1, none⟩ = some (.int .i64 a0_1) := (blk_cell BK296.out 1).trans rfl; have hcz23_2 : w21.cell? ⟨gb296, 2, none⟩ = some (.int .i64 a0_2) := (blk_cell BK296.out 2).trans rfl; have hcz23_3 : w21.cell? ⟨gb296, 3, none⟩ = some (.int .i64 a0_3) := (blk_cell BK296.out 3).trans rfl; have hcz23_4 : w21.cell? ⟨gb296, 4, none⟩ = some (.int .i64 a0_4) := (blk_cell BK296.out 4).trans rfl; have hcz23_5 : w21.cell? ⟨gb296, 5, none⟩ = some (.int .i64 a0_5) := (blk_cell BK296.out 5).trans rfl; have hcz23_6 : w21.cell? ⟨gb296, 6, none⟩ = some (.int .i64 a0_6) := (blk_cell BK296.out 6).trans rfl; have hcz23_7 : w21.cell? ⟨gb296, 7, none⟩ = some (.int .i64 a0_7) := (blk_cell BK296.out 7).trans rfl; have hcz23_8 : w21.cell? ⟨gb296, 8, none⟩ = some (.int .i64 a0_8) := (blk_cell BK296.out 8).trans rfl; have hcz23_9 : w21.cell? ⟨gb296, 9, none⟩ = some (.int .i64 a0_9) := (blk_cell BK296.out 9).trans rfl; have hcz23_10 : w21.cell? ⟨gb296, 10, none⟩ = some (.int .i64 a0_10) := (blk_cell BK296.out 10).trans rfl; have hcz23_11 : w21.cell? ⟨gb296, 11, none⟩ = some (.int .i64 a0_11) := (blk_cell BK296.out 11).trans rfl; have hcz23_12 : w21.cell? ⟨gb296, 12, none⟩ = some (.int .i64 a0_12) := (blk_cell BK296.out 12).trans rfl; have hcz23_13 : w21.cell? ⟨gb296, 13, none⟩ = some (.bool false) := (blk_cell BK296.out 13).trans rfl; have hfz23_0 := blk_frozen BK296.out 0; have hfz23_1 := blk_frozen BK296.out 1; have hfz23_2 := blk_frozen BK296.out 2; have hfz23_3 := blk_frozen BK296.out 3; have hfz23_4 := blk_frozen BK296.out 4; have hfz23_5 := blk_frozen BK296.out 5; have hfz23_6 := blk_frozen BK296.out 6; have hfz23_7 := blk_frozen BK296.out 7; have hfz23_8 := blk_frozen BK296.out 8; have hfz23_9 := blk_frozen BK296.out 9; have hfz23_10 := blk_frozen BK296.out 10; have hfz23_11 := blk_frozen BK296.out 11; have hfz23_12 := blk_frozen BK296.out 12; have hfz23_13 := blk_frozen BK296.out 13) | ((with_reducible refine gate_callee (f := 72) rfl ?_); refine goesL_ (some 7) rfl rfl Try.func72 (by kernel_rfl) rfl #[.agg #[.int .i64 a0_0, .int .i64 a0_1, .int .i64 a0_2, .int .i64 a0_3, .int .i64 a0_4, .int .i64 a0_5, .int .i64 a0_6, .int .i64 a0_7, .int .i64 a0_8, .int .i64 a0_9, .int .i64 a0_10, .int .i64 a0_11, .int .i64 a0_12, .bool false]] rfl (by (try simp only [List.map_toArray, List.map_cons, List.map_nil]); first | done | rfl | (simp only [List.length_drop, List.length_take]; rfl)) ?_; (with_reducible refine (gatelineref24_Is.calls k a0_0 a0_1 a0_2 a0_3 a0_4 a0_5 a0_6 a0_7 a0_8 a0_9 a0_10 a0_11 a0_12 false true _ A3.out).mono ?_); rintro e w24 ⟨rfl, hb⟩; refine ⟨_, rfl, ?_⟩; have n0_ := Aside0.mk (blk_below (g := gb296) (o := .cells #[.int .i64 a0_0, .int .i64 a0_1, .int .i64 a0_2, .int .i64 a0_3, .int .i64 a0_4, .int .i64 a0_5, .int .i64 a0_6, .int .i64 a0_7, .int .i64 a0_8, .int .i64 a0_9, .int .i64 a0_10, .int .i64 a0_11, .int .i64 a0_12, .bool false] 48 (0, 0)) (by (with_reducible repeat (first | refine blk_drewN ?_ _ | refine blk_drew ?_ | refine blk_alloc ?_ _)); exact BK296.out) hb); have n1_ := Aside0.mk (blk_below (g := gb297) (o := .cells #[.int .i64 a1_0, .int .i64 a1_1, .int .i64 a1_2, .int .i64 a1_3, .int .i64 a1_4, .int .i64 a1_5, .int .i64 a1_6, .int .i64 a1_7, .int .i64 a1_8, .int .i64 a1_9, .int .i64 a1_10] 23 (0, 0)) (by (with_reducible repeat (first | refine blk_drewN ?_ _ | refine blk_drew ?_ | refine blk_alloc ?_ _)); exact BK297.out) hb); have n2_ := Aside0.mk (below_step (by repeat (first | (with_reducible first | exact HB.out | apply below_alloc | apply pw_below_drewN | apply below_drew1 | refine below_set ?_ GE296.out | refine below_set ?_ GE297.out) | exact HB.out)) hb); clear BK296; clear BK297; clear HB; have BK296 := n0_; have BK297 := n1_; have HB := n2_; clear n0_ n1_ n2_; (try clear hb); (try clear hb2); (try clear hk); (try clear hi); (try clear A3); have hcz25_0 : w24.cell? ⟨gb296, 0, none⟩ = some (.int .i64 a0_0) := (blk_cell BK296.out 0).trans rfl; have hcz25_1 : w24.cell? ⟨gb296, 1, none⟩ = some (.int .i64 a0_1) := (blk_cell BK296.out 1).trans rfl; have hcz25_2 : w24.cell? ⟨gb296, 2, none⟩ = some (.int .i64 a0_2) := (blk_cell BK296.out 2).trans rfl; have hcz25_3 : w24.cell? ⟨gb296, 3, none⟩ = some (.int .i64 a0_3) := (blk_cell BK296.out 3).trans rfl; have hcz25_4 : w24.cell? ⟨gb296, 4, none⟩ = some (.int .i64 a0_4) := (blk_cell BK296.out 4).trans rfl; have hcz25_5 : w24.cell? ⟨gb296, 5, none⟩ = some (.int .i64 a0_5) := (blk_cell BK296.out 5).trans rfl; have hcz25_6 : w24.cell? ⟨gb296, 6, none⟩ = some (.int .i64 a0_6) := (blk_cell BK296.out 6).trans rfl; have hcz25_7 : w24.cell? ⟨gb296, 7, none⟩ = some (.int .i64 a0_7) := (blk_cell BK296.out 7).trans rfl; have hcz25_8 : w24.cell? ⟨gb296, 8, none⟩ = some (.int .i64 a0_8) := (blk_cell BK296.out 8).trans rfl; have hcz25_9 : w24.cell? ⟨gb296, 9, none⟩ = some (.int .i64 a0_9) := (blk_cell BK296.out 9).trans rfl; have hcz25_10 : w24.cell? ⟨gb296, 10, none⟩ = some (.int .i64 a0_10) := (blk_cell BK296.out 10).trans rfl; have hcz25_11 : w24.cell? ⟨gb296, 11, none⟩ = some (.int .i64 a0_11) := (blk_cell BK296.out 11).trans rfl; have hcz25_12 : w24.cell? ⟨gb296, 12, none⟩ = some (.int .i64 a0_12) := (blk_cell BK296.out 12).trans rfl; have hcz25_13 : w24.cell? ⟨gb296, 13, none⟩ = some (.bool false) := (blk_cell BK296.out 13).trans rfl; have hfz25_0 := blk_frozen BK296.out 0; have hfz25_1 := blk_frozen BK296.out 1; have hfz25_2 := blk_frozen BK296.out 2; have hfz25_3 := blk_frozen BK296.out 3; have hfz25_4 := blk_frozen BK296.out 4; have hfz25_5 := blk_frozen BK296.out 5; have hfz25_6 := blk_frozen BK296.out 6; have hfz25_7 := blk_frozen BK296.out 7; have hfz25_8 := blk_frozen BK296.out 8; have hfz25_9 := blk_frozen BK296.out 9; have hfz25_10 := blk_frozen BK296.out 10; have hfz25_11 := blk_frozen BK296.out 11; have hfz25_12 := blk_frozen BK296.out 12; have hfz25_13 := blk_frozen BK296.out 13; have hcz26_0 : w24.cell? ⟨gb297, 0, none⟩ = some (.int .i64 a1_0) := (blk_cell BK297.out 0).trans rfl; have hcz26_1 : w24.cell? ⟨gb297, 1, none⟩ = some (.int .i64 a1_1) := (blk_cell BK297.out 1).trans rfl; have hcz26_2 : w24.cell? ⟨gb297, 2, none⟩ = some (.int .i64 a1_2) := (blk_cell BK297.out 2).trans rfl; have hcz26_3 : w24.cell? ⟨gb297, 3, none⟩ = some (.int .i64 a1_3) := (blk_cell BK297.out 3).trans rfl; have hcz26_4 : w24.cell? ⟨gb297, 4, none⟩ = some (.int .i64 a1_4) := (blk_cell BK297.out 4).trans rfl; have hcz26_5 : w24.cell? ⟨gb297, 5, none⟩ = some (.int .i64 a1_5) := (blk_cell BK297.out 5).trans rfl; have hcz26_6 : w24.cell? ⟨gb297, 6, none⟩ = some (.int .i64 a1_6) := (blk_cell BK297.out 6).trans rfl; have hcz26_7 : w24.cell? ⟨gb297, 7, none⟩ = some (.int .i64 a1_7) := (blk_cell BK297.out 7).trans rfl; have hcz26_8 : w24.cell? ⟨gb297, 8, none⟩ = some (.int .i64 a1_8) := (blk_cell BK297.out 8).trans rfl; have hcz26_9 : w24.cell? ⟨gb297, 9, none⟩ = some (.int .i64 a1_9) := (blk_cell BK297.out 9).trans rfl; have hcz26_10 : w24.cell? ⟨gb297, 10, none⟩ = some (.int .i64 a1_10) := (blk_cell BK297.out 10).trans rfl; have hfz26_0 := blk_frozen BK297.out 0; have hfz26_1 := blk_frozen BK297.out 1; have hfz26_2 := blk_frozen BK297.out 2; have hfz26_3 := blk_frozen BK297.out 3; have hfz26_4 := blk_frozen BK297.out 4; have hfz26_5 := blk_frozen BK297.out 5; have hfz26_6 := blk_frozen BK297.out 6; have hfz26_7 := blk_frozen BK297.out 7; have hfz26_8 := blk_frozen BK297.out 8; have hfz26_9 := blk_frozen BK297.out 9; have hfz26_10 := blk_frozen BK297.out 10))
        go_ret2
        exact ⟨by first | rfl | (simp [errW_none, errW_some] <;> rfl) | (simp [*, errW_none, errW_some] <;> rfl), by repeat (first | (with_reducible first | exact HB.out | apply below_alloc | apply pw_below_drewN | apply below_drew1 | refine below_set ?_ GE296.out | refine below_set ?_ GE297.out) | exact HB.out)⟩
  · replace c4 := Bool.eq_false_iff.mpr c4
    subst c4
    have H1 : (some (0, 1)) = some (r1, r2) := by rw [if_neg (show ¬ (false = true) by decide)] at H; exact H
    clear H
    have H := H1
    clear H1
    simp only [Option.some.injEq, Prod.mk.injEq] at H
    obtain ⟨rfl, rfl⟩ := H
    go_enter Try.func39, Try.ntmps39
    go_wp2_with (first | ((with_reducible refine gate_dst (N := 2) rfl ?_); refine box_event ?hg (N := 2) ?hd (cs := #[.int .i64 a0_0, .int .i64 a0_1, .int .i64 a0_2, .int .i64 a0_3, .int .i64 a0_4, .int .i64 a0_5, .int .i64 a0_6, .int .i64 a0_7, .int .i64 a0_8, .int .i64 a0_9, .int .i64 a0_10, .int .i64 a0_11, .int .i64 a0_12, .bool a0_13]) (t := 48) ?hr ?_; (case hd => rfl); (case hg => rfl); (case hr => first | (go_simp; done) | (go_simp; rfl)); intro gb296 hg w27 hbox hb; have n0_ := Aside0.mk (below_step (by repeat (first | (with_reducible first | exact HB.out | apply below_alloc | apply pw_below_drewN | apply below_drew1) | exact HB.out)) hb); have n1_ := Aside0.mk (hbox); have n2_ := Aside0.mk ((by rw [hg]; exact (below_size (by repeat (first | (with_reducible first | exact HB.out | apply below_alloc | apply pw_below_drewN | apply below_drew1) | exact HB.out))) : w.heap.size ≤ gb296)); have n3_ := Aside0.mk ((by rw [hg]; exact (below_size (by repeat (first | (with_reducible first | exact HB.out | apply below_alloc | apply pw_below_drewN | apply below_drew1) | exact HB.out))) : w.heap.size ≤ gb296)); clear HB; have HB := n0_; have BK296 := n1_; have GW296 := n2_; have GE296 := n3_; clear n0_ n1_ n2_ n3_; clear hb hbox hg) | ((with_reducible refine gate_dst (N := 3) rfl ?_); refine box_event ?hg (N := 3) ?hd (cs := #[.int .i64 a1_0, .int .i64 a1_1, .int .i64 a1_2, .int .i64 a1_3, .int .i64 a1_4, .int .i64 a1_5, .int .i64 a1_6, .int .i64 a1_7, .int .i64 a1_8, .int .i64 a1_9, .int .i64 a1_10]) (t := 23) ?hr ?_; (case hd => rfl); (case hg => rfl); (case hr => first | (go_simp; done) | (go_simp; rfl)); intro gb297 hg w28 hbox hb; have n0_ := Aside0.mk (blk_below (g := gb296) (o := .cells #[.int .i64 a0_0, .int .i64 a0_1, .int .i64 a0_2, .int .i64 a0_3, .int .i64 a0_4, .int .i64 a0_5, .int .i64 a0_6, .int .i64 a0_7, .int .i64 a0_8, .int .i64 a0_9, .int .i64 a0_10, .int .i64 a0_11, .int .i64 a0_12, .bool a0_13] 48 (0, 0)) (by (with_reducible repeat (first | refine blk_drewN ?_ _ | refine blk_drew ?_ | refine blk_alloc ?_ _)); exact BK296.out) hb); have n1_ := Aside0.mk (below_step (by repeat (first | (with_reducible first | exact HB.out | apply below_alloc | apply pw_below_drewN | apply below_drew1 | refine below_set ?_ GE296.out) | exact HB.out)) hb); have n2_ := Aside0.mk (hbox); have n3_ := Aside0.mk ((by rw [hg]; exact (below_size (by repeat (first | (with_reducible first | exact HB.out | apply below_alloc | apply pw_below_drewN | apply below_drew1 | refine below_set ?_ GE296.out) | exact HB.out))) : w.heap.size ≤ gb297)); have n4_ := Aside0.mk ((by rw [hg]; exact (below_size (by repeat (first | (with_reducible first | exact HB.out | apply below_alloc | apply pw_below_drewN | apply below_drew1 | refine below_set ?_ GE296.out) | exact HB.out))) : w.heap.size ≤ gb297)); have n5_ := Aside0.mk ((by rw [hg]; exact Nat.ne_of_lt (blk_lt (g := gb296) (o := .cells #[.int .i64 a0_0, .int .i64 a0_1, .int .i64 a0_2, .int .i64 a0_3, .int .i64 a0_4, .int .i64 a0_5, .int .i64 a0_6, .int .i64 a0_7, .int .i64 a0_8, .int .i64 a0_9, .int .i64 a0_10, .int .i64 a0_11, .int .i64 a0_12, .bool a0_13] 48 (0, 0)) (by (with_reducible repeat (first | refine blk_drewN ?_ _ | refine blk_drew ?_ | refine blk_alloc ?_ _)); exact BK296.out)) : gb296 ≠ gb297)); have n6_ := Aside0.mk ((by rw [hg]; exact Nat.ne_of_gt (blk_lt (g := gb296) (o := .cells #[.int .i64 a0_0, .int .i64 a0_1, .int .i64 a0_2, .int .i64 a0_3, .int .i64 a0_4, .int .i64 a0_5, .int .i64 a0_6, .int .i64 a0_7, .int .i64 a0_8, .int .i64 a0_9, .int .i64 a0_10, .int .i64 a0_11, .int .i64 a0_12, .bool a0_13] 48 (0, 0)) (by (with_reducible repeat (first | refine blk_drewN ?_ _ | refine blk_drew ?_ | refine blk_alloc ?_ _)); exact BK296.out)) : gb297 ≠ gb296)); clear BK296; clear HB; have BK296 := n0_; have HB := n1_; have BK297 := n2_; have GW297 := n3_; have GE297 := n4_; have NB296_297 := n5_; have NB297_296 := n6_; clear n0_ n1_ n2_ n3_ n4_ n5_ n6_; clear hb hbox hg; have hnb29 := NB296_297.out; have hnc29 := NB297_296.out; have hcz30_0 : w28.cell? ⟨gb296, 0, none⟩ = some (.int .i64 a0_0) := (blk_cell BK296.out 0).trans rfl; have hcz30_1 : w28.cell? ⟨gb296, 1, none⟩ = some (.int .i64 a0_1) := (blk_cell BK296.out 1).trans rfl; have hcz30_2 : w28.cell? ⟨gb296, 2, none⟩ = some (.int .i64 a0_2) := (blk_cell BK296.out 2).trans rfl; have hcz30_3 : w28.cell? ⟨gb296, 3, none⟩ = some (.int .i64 a0_3) := (blk_cell BK296.out 3).trans rfl; have hcz30_4 : w28.cell? ⟨gb296, 4, none⟩ = some (.int .i64 a0_4) := (blk_cell BK296.out 4).trans rfl; have hcz30_5 : w28.cell? ⟨gb296, 5, none⟩ = some (.int .i64 a0_5) := (blk_cell BK296.out 5).trans rfl; have hcz30_6 : w28.cell? ⟨gb296, 6, none⟩ = some (.int .i64 a0_6) := (blk_cell BK296.out 6).trans rfl; have hcz30_7 : w28.cell? ⟨gb296, 7, none⟩ = some (.int .i64 a0_7) := (blk_cell BK296.out 7).trans rfl; have hcz30_8 : w28.cell? ⟨gb296, 8, none⟩ = some (.int .i64 a0_8) := (blk_cell BK296.out 8).trans rfl; have hcz30_9 : w28.cell? ⟨gb296, 9, none⟩ = some (.int .i64 a0_9) := (blk_cell BK296.out 9).trans rfl; have hcz30_10 : w28.cell? ⟨gb296, 10, none⟩ = some (.int .i64 a0_10) := (blk_cell BK296.out 10).trans rfl; have hcz30_11 : w28.cell? ⟨gb296, 11, none⟩ = some (.int .i64 a0_11) := (blk_cell BK296.out 11).trans rfl; have hcz30_12 : w28.cell? ⟨gb296, 12, none⟩ = some (.int .i64 a0_12) := (blk_cell BK296.out 12).trans rfl; have hcz30_13 : w28.cell? ⟨gb296, 13, none⟩ = some (.bool a0_13) := (blk_cell BK296.out 13).trans rfl; have hfz30_0 := blk_frozen BK296.out 0; have hfz30_1 := blk_frozen BK296.out 1; have hfz30_2 := blk_frozen BK296.out 2; have hfz30_3 := blk_frozen BK296.out 3; have hfz30_4 := blk_frozen BK296.out 4; have hfz30_5 := blk_frozen BK296.out 5; have hfz30_6 := blk_frozen BK296.out 6; have hfz30_7 := blk_frozen BK296.out 7; have hfz30_8 := blk_frozen BK296.out 8; have hfz30_9 := blk_frozen BK296.out 9; have hfz30_10 := blk_frozen BK296.out 10; have hfz30_11 := blk_frozen BK296.out 11; have hfz30_12 := blk_frozen BK296.out 12; have hfz30_13 := blk_frozen BK296.out 13) | ((with_reducible refine gate_callee (f := 72) rfl ?_); refine goesL_ (some 7) rfl rfl Try.func72 (by kernel_rfl) rfl #[.agg #[.int .i64 a0_0, .int .i64 a0_1, .int .i64 a0_2, .int .i64 a0_3, .int .i64 a0_4, .int .i64 a0_5, .int .i64 a0_6, .int .i64 a0_7, .int .i64 a0_8, .int .i64 a0_9, .int .i64 a0_10, .int .i64 a0_11, .int .i64 a0_12, .bool a0_13]] rfl (by (try simp only [List.map_toArray, List.map_cons, List.map_nil]); first | done | rfl | (simp only [List.length_drop, List.length_take]; rfl)) ?_; (with_reducible refine (gatelineref24_Is.calls k a0_0 a0_1 a0_2 a0_3 a0_4 a0_5 a0_6 a0_7 a0_8 a0_9 a0_10 a0_11 a0_12 a0_13 false _ A3.out).mono ?_); rintro e w31 ⟨rfl, hb⟩; refine ⟨_, rfl, ?_⟩; have n0_ := Aside0.mk (blk_below (g := gb296) (o := .cells #[.int .i64 a0_0, .int .i64 a0_1, .int .i64 a0_2, .int .i64 a0_3, .int .i64 a0_4, .int .i64 a0_5, .int .i64 a0_6, .int .i64 a0_7, .int .i64 a0_8, .int .i64 a0_9, .int .i64 a0_10, .int .i64 a0_11, .int .i64 a0_12, .bool a0_13] 48 (0, 0)) (by (with_reducible repeat (first | refine blk_drewN ?_ _ | refine blk_drew ?_ | refine blk_alloc ?_ _)); exact BK296.out) hb); have n1_ := Aside0.mk (blk_below (g := gb297) (o := .cells #[.int .i64 a1_0, .int .i64 a1_1, .int .i64 a1_2, .int .i64 a1_3, .int .i64 a1_4, .int .i64 a1_5, .int .i64 a1_6, .int .i64 a1_7, .int .i64 a1_8, .int .i64 a1_9, .int .i64 a1_10] 23 (0, 0)) (by (with_reducible repeat (first | refine blk_drewN ?_ _ | refine blk_drew ?_ | refine blk_alloc ?_ _)); exact BK297.out) hb); have n2_ := Aside0.mk (below_step (by repeat (first | (with_reducible first | exact HB.out | apply below_alloc | apply pw_below_drewN | apply below_drew1 | refine below_set ?_ GE296.out | refine below_set ?_ GE297.out) | exact HB.out)) hb); clear BK296; clear BK297; clear HB; have BK296 := n0_; have BK297 := n1_; have HB := n2_; clear n0_ n1_ n2_; (try clear hb); (try clear hb2); (try clear hk); (try clear hi); (try clear A3)))
    go_ret2
    exact ⟨by first | rfl | (simp [errW_none, errW_some] <;> rfl) | (simp [*, errW_none, errW_some] <;> rfl), by repeat (first | (with_reducible first | exact HB.out | apply below_alloc | apply pw_below_drewN | apply below_drew1 | refine below_set ?_ GE296.out | refine below_set ?_ GE297.out) | exact HB.out)⟩

/-! ### gatelineref25_Day: function 41 -/
def gatelineref25_Day.j0 : Nat → Int → Bool → Bool → Int → Int → Int → Int → Int → Int → Int → Int → Int → Int → Int → Option (Int × Int)
  | 0, _, _, _, _, _, _, _, _, _, _, _, _, _, _ => none
  | k + 1, x1, x2, x18, x300000, x300001, x300002, x300003, x300004, x300005, x300006, x300007, x300008, x300009, x300010 => if x18 = true then (some (7, 0)) else (if x2 = true then (some (0, 0)) else (if x1 ≥ (wrap64 (x300007 + x300008)) then (some (8, 0)) else (some (0, 0))))
def gatelineref25_Day.f (k : Nat) (a0_0 : Int) (a0_1 : Int) (a0_2 : Int) (a0_3 : Int) (a0_4 : Int) (a0_5 : Int) (a0_6 : Int) (a0_7 : Int) (a0_8 : Int) (a0_9 : Int) (a0_10 : Int) (a1 : Int) (a2 : Bool) : Option (Int × Int) := (gatelineref09_Is.f k a0_0 a0_1 a0_2 a0_3 a0_4 a0_5 a0_6 a0_7 a0_8 a0_9 a0_10).bind fun t300 => (if t300 = true then (if a2 = true then (gatelineref25_Day.j0 k a1 a2 false a0_0 a0_1 a0_2 a0_3 a0_4 a0_5 a0_6 a0_7 a0_8 a0_9 a0_10) else (gatelineref25_Day.j0 k a1 a2 (decide (a1 < a0_7)) a0_0 a0_1 a0_2 a0_3 a0_4 a0_5 a0_6 a0_7 a0_8 a0_9 a0_10)) else (some (0, 1)))
theorem gatelineref25_Day.mono_l : ∀ k, (∀ y0 y1 y2 y3 y4 y5 y6 y7 y8 y9 y10 y11 y12 y13, LeO (gatelineref25_Day.j0 k y0 y1 y2 y3 y4 y5 y6 y7 y8 y9 y10 y11 y12 y13) (gatelineref25_Day.j0 (k + 1) y0 y1 y2 y3 y4 y5 y6 y7 y8 y9 y10 y11 y12 y13))
  | 0 => fun _ _ _ _ _ _ _ _ _ _ _ _ _ _ r h => by simp [gatelineref25_Day.j0] at h
  | k + 1 => by
    have ih0 := gatelineref25_Day.mono_l k
    · intro y0 y1 y2 y3 y4 y5 y6 y7 y8 y9 y10 y11 y12 y13
      unfold gatelineref25_Day.j0
      repeat' first
      | (with_reducible exact ih0 _ _ _ _ _ _ _ _ _ _ _ _ _ _)
      | (with_reducible exact gatelineref09_Is.mono _ _ _ _ _ _ _ _ _ _ _ _)
      | (with_reducible exact LeO.refl _)
      | (with_reducible exact LeO.none _)
      | (with_reducible refine LeO.ite ?_ ?_)
      | (with_reducible refine LeO.bind ?_ (fun _ => ?_))
      | exact ih0 _ _ _ _ _ _ _ _ _ _ _ _ _ _
      | exact gatelineref09_Is.mono _ _ _ _ _ _ _ _ _ _ _ _
      | exact LeO.none _
      | refine LeO.ite ?_ ?_
      | refine LeO.bind ?_ (fun _ => ?_)
theorem gatelineref25_Day.mono : ∀ a0 a1 a2 a3 a4 a5 a6 a7 a8 a9 a10 a11 a12 k, LeO (gatelineref25_Day.f k a0 a1 a2 a3 a4 a5 a6 a7 a8 a9 a10 a11 a12) (gatelineref25_Day.f (k + 1) a0 a1 a2 a3 a4 a5 a6 a7 a8 a9 a10 a11 a12) := by
  intro a0 a1 a2 a3 a4 a5 a6 a7 a8 a9 a10 a11 a12 k
  have ih0 := gatelineref25_Day.mono_l k
  unfold gatelineref25_Day.f
  repeat' first
      | (with_reducible exact ih0 _ _ _ _ _ _ _ _ _ _ _ _ _ _)
      | (with_reducible exact gatelineref09_Is.mono _ _ _ _ _ _ _ _ _ _ _ _)
      | (with_reducible exact LeO.refl _)
      | (with_reducible exact LeO.none _)
      | (with_reducible refine LeO.ite ?_ ?_)
      | (with_reducible refine LeO.bind ?_ (fun _ => ?_))
      | exact ih0 _ _ _ _ _ _ _ _ _ _ _ _ _ _
      | exact gatelineref09_Is.mono _ _ _ _ _ _ _ _ _ _ _ _
      | exact LeO.none _
      | refine LeO.ite ?_ ?_
      | refine LeO.bind ?_ (fun _ => ?_)
set_option maxHeartbeats 8000000 in
set_option maxRecDepth 100000 in
theorem gatelineref25_Day.calls (k : Nat) (a0_0 : Int) (a0_1 : Int) (a0_2 : Int) (a0_3 : Int) (a0_4 : Int) (a0_5 : Int) (a0_6 : Int) (a0_7 : Int) (a0_8 : Int) (a0_9 : Int) (a0_10 : Int) (a1 : Int) (a2 : Bool) (r1 : Int) (r2 : Int) (w : World) (h : gatelineref25_Day.f k a0_0 a0_1 a0_2 a0_3 a0_4 a0_5 a0_6 a0_7 a0_8 a0_9 a0_10 a1 a2 = some (r1, r2)) :
    Calls Try.prog 41 #[.agg #[.int .i64 a0_0, .int .i64 a0_1, .int .i64 a0_2, .int .i64 a0_3, .int .i64 a0_4, .int .i64 a0_5, .int .i64 a0_6, .int .i64 a0_7, .int .i64 a0_8, .int .i64 a0_9, .int .i64 a0_10], .int .i64 a1, .bool a2] w fun e w' => e = .returned (.tuple #[.int .i64 r1, .int .i64 r2]) ∧ Below w.heap.size w w' := by
  have hu23 := Try.underlying23
  have HB := Aside0.mk (Below.refl w.heap.size w)
  have H : ((gatelineref09_Is.f k a0_0 a0_1 a0_2 a0_3 a0_4 a0_5 a0_6 a0_7 a0_8 a0_9 a0_10).bind fun t300 => (if t300 = true then (if a2 = true then (gatelineref25_Day.j0 k a1 a2 false a0_0 a0_1 a0_2 a0_3 a0_4 a0_5 a0_6 a0_7 a0_8 a0_9 a0_10) else (gatelineref25_Day.j0 k a1 a2 (decide (a1 < a0_7)) a0_0 a0_1 a0_2 a0_3 a0_4 a0_5 a0_6 a0_7 a0_8 a0_9 a0_10)) else (some (0, 1)))) = some (r1, r2) := h
  clear h
  replace H := Option.bind_eq_some_iff.mp H
  obtain ⟨t300, A40, H⟩ := H
  replace H : (if t300 = true then (if a2 = true then (gatelineref25_Day.j0 k a1 a2 false a0_0 a0_1 a0_2 a0_3 a0_4 a0_5 a0_6 a0_7 a0_8 a0_9 a0_10) else (gatelineref25_Day.j0 k a1 a2 (decide (a1 < a0_7)) a0_0 a0_1 a0_2 a0_3 a0_4 a0_5 a0_6 a0_7 a0_8 a0_9 a0_10)) else (some (0, 1))) = some (r1, r2) := H
  have A4 := Aside0.mk A40
  clear A40
  by_cases c5 : t300 = true
  · subst c5
    have H1 : (if a2 = true then (gatelineref25_Day.j0 k a1 a2 false a0_0 a0_1 a0_2 a0_3 a0_4 a0_5 a0_6 a0_7 a0_8 a0_9 a0_10) else (gatelineref25_Day.j0 k a1 a2 (decide (a1 < a0_7)) a0_0 a0_1 a0_2 a0_3 a0_4 a0_5 a0_6 a0_7 a0_8 a0_9 a0_10)) = some (r1, r2) := by rw [if_pos rfl] at H; exact H
    clear H
    have H := H1
    clear H1
    have HC6 := Aside0.mk H
    clear H
    go_enter Try.func41, Try.ntmps41
    go_upto_region 3 with (first | ((with_reducible refine gate_dst (N := 3) rfl ?_); refine box_event ?hg (N := 3) ?hd (cs := #[.int .i64 a0_0, .int .i64 a0_1, .int .i64 a0_2, .int .i64 a0_3, .int .i64 a0_4, .int .i64 a0_5, .int .i64 a0_6, .int .i64 a0_7, .int .i64 a0_8, .int .i64 a0_9, .int .i64 a0_10]) (t := 23) ?hr ?_; (case hd => rfl); (case hg => rfl); (case hr => first | (go_simp; done) | (go_simp; rfl)); intro gb299 hg w7 hbox hb; have n0_ := Aside0.mk (below_step (by repeat (first | (with_reducible first | exact HB.out | apply below_alloc | apply pw_below_drewN | apply below_drew1) | exact HB.out)) hb); have n1_ := Aside0.mk (hbox); have n2_ := Aside0.mk ((by rw [hg]; exact (below_size (by repeat (first | (with_reducible first | exact HB.out | apply below_alloc | apply pw_below_drewN | apply below_drew1) | exact HB.out))) : w.heap.size ≤ gb299)); have n3_ := Aside0.mk ((by rw [hg]; exact (below_size (by repeat (first | (with_reducible first | exact HB.out | apply below_alloc | apply pw_below_drewN | apply below_drew1) | exact HB.out))) : w.heap.size ≤ gb299)); clear HB; have HB := n0_; have BK299 := n1_; have GW299 := n2_; have GE299 := n3_; clear n0_ n1_ n2_ n3_; clear hb hbox hg; have hcz8_0 : w7.cell? ⟨gb299, 0, none⟩ = some (.int .i64 a0_0) := (blk_cell BK299.out 0).trans rfl; have hcz8_1 : w7.cell? ⟨gb299, 1, none⟩ = some (.int .i64 a0_1) := (blk_cell BK299.out 1).trans rfl; have hcz8_2 : w7.cell? ⟨gb299, 2, none⟩ = some (.int .i64 a0_2) := (blk_cell BK299.out 2).trans rfl; have hcz8_3 : w7.cell? ⟨gb299, 3, none⟩ = some (.int .i64 a0_3) := (blk_cell BK299.out 3).trans rfl; have hcz8_4 : w7.cell? ⟨gb299, 4, none⟩ = some (.int .i64 a0_4) := (blk_cell BK299.out 4).trans rfl; have hcz8_5 : w7.cell? ⟨gb299, 5, none⟩ = some (.int .i64 a0_5) := (blk_cell BK299.out 5).trans rfl; have hcz8_6 : w7.cell? ⟨gb299, 6, none⟩ = some (.int .i64 a0_6) := (blk_cell BK299.out 6).trans rfl; have hcz8_7 : w7.cell? ⟨gb299, 7, none⟩ = some (.int .i64 a0_7) := (blk_cell BK299.out 7).trans rfl; have hcz8_8 : w7.cell? ⟨gb299, 8, none⟩ = some (.int .i64 a0_8) := (blk_cell BK299.out 8).trans rfl; have hcz8_9 : w7.cell? ⟨gb299, 9, none⟩ = some (.int .i64 a0_9) := (blk_cell BK299.out 9).trans rfl; have hcz8_10 : w7.cell? ⟨gb299, 10, none⟩ = some (.int .i64 a0_10) := (blk_cell BK299.out 10).trans rfl; have hfz8_0 := blk_frozen BK299.out 0; have hfz8_1 := blk_frozen BK299.out 1; have hfz8_2 := blk_frozen BK299.out 2; have hfz8_3 := blk_frozen BK299.out 3; have hfz8_4 := blk_frozen BK299.out 4; have hfz8_5 := blk_frozen BK299.out 5; have hfz8_6 := blk_frozen BK299.out 6; have hfz8_7 := blk_frozen BK299.out 7; have hfz8_8 := blk_frozen BK299.out 8; have hfz8_9 := blk_frozen BK299.out 9; have hfz8_10 := blk_frozen BK299.out 10) | ((with_reducible refine gate_callee (f := 31) rfl ?_); refine goesL_ (some 9) rfl rfl Try.func31 (by kernel_rfl) rfl #[.agg #[.int .i64 a0_0, .int .i64 a0_1, .int .i64 a0_2, .int .i64 a0_3, .int .i64 a0_4, .int .i64 a0_5, .int .i64 a0_6, .int .i64 a0_7, .int .i64 a0_8, .int .i64 a0_9, .int .i64 a0_10]] rfl (by (try simp only [List.map_toArray, List.map_cons, List.map_nil]); first | done | rfl | (simp only [List.length_drop, List.length_take]; rfl)) ?_; (with_reducible refine (gatelineref09_Is.calls k a0_0 a0_1 a0_2 a0_3 a0_4 a0_5 a0_6 a0_7 a0_8 a0_9 a0_10 true _ A4.out).mono ?_); rintro e w9 ⟨rfl, hb⟩; refine ⟨_, rfl, ?_⟩; have n0_ := Aside0.mk (blk_below (g := gb299) (o := .cells #[.int .i64 a0_0, .int .i64 a0_1, .int .i64 a0_2, .int .i64 a0_3, .int .i64 a0_4, .int .i64 a0_5, .int .i64 a0_6, .int .i64 a0_7, .int .i64 a0_8, .int .i64 a0_9, .int .i64 a0_10] 23 (0, 0)) (by (with_reducible repeat (first | refine blk_drewN ?_ _ | refine blk_drew ?_ | refine blk_alloc ?_ _)); exact BK299.out) hb); have n1_ := Aside0.mk (below_step (by repeat (first | (with_reducible first | exact HB.out | apply below_alloc | apply pw_below_drewN | apply below_drew1 | refine below_set ?_ GE299.out) | exact HB.out)) hb); clear BK299; clear HB; have BK299 := n0_; have HB := n1_; clear n0_ n1_; (try clear hb); (try clear hb2); (try clear hk); (try clear hi); (try clear A4)))
    (try simp only [Act.put, List.setIfInBounds_toArray, List.set_cons_zero, List.set_cons_succ])
    go_cut [18] (fun v18 wc => ∃ (kq : Nat) (x18_5 : Bool), v18 = .bool x18_5 ∧ Aside0 (gatelineref25_Day.j0 kq a1 a2 x18_5 a0_0 a0_1 a0_2 a0_3 a0_4 a0_5 a0_6 a0_7 a0_8 a0_9 a0_10 = some (r1, r2)) ∧ Aside0 (kq ≤ k) ∧ Aside0 (wc.heap[gb299]? = some (.cells #[.int .i64 a0_0, .int .i64 a0_1, .int .i64 a0_2, .int .i64 a0_3, .int .i64 a0_4, .int .i64 a0_5, .int .i64 a0_6, .int .i64 a0_7, .int .i64 a0_8, .int .i64 a0_9, .int .i64 a0_10] 23 (0, 0))) ∧ Aside0 (Below w.heap.size w wc))
    case first =>
      have H := HC6.out
      clear HC6
      by_cases c10 : a2 = true
      · subst c10
        have H1 : (gatelineref25_Day.j0 k a1 true false a0_0 a0_1 a0_2 a0_3 a0_4 a0_5 a0_6 a0_7 a0_8 a0_9 a0_10) = some (r1, r2) := by rw [if_pos rfl] at H; exact H
        clear H
        have H := H1
        clear H1
        have H' := Aside0.mk H
        clear H
        go_wp2
        go_meet
        case rel => exact ⟨_, (false), (by first | rfl | (simp; done) | (simp [*]; done)), H', ⟨by first | omega | exact Nat.le_refl _⟩, ⟨by (with_reducible repeat (first | refine blk_drewN ?_ _ | refine blk_drew ?_ | refine blk_alloc ?_ _)); exact BK299.out⟩, ⟨by repeat (first | (with_reducible first | exact HB.out | apply below_alloc | apply pw_below_drewN | apply below_drew1 | refine below_set ?_ GE299.out) | exact HB.out)⟩⟩
      · replace c10 := Bool.eq_false_iff.mpr c10
        subst c10
        have H1 : (gatelineref25_Day.j0 k a1 false (decide (a1 < a0_7)) a0_0 a0_1 a0_2 a0_3 a0_4 a0_5 a0_6 a0_7 a0_8 a0_9 a0_10) = some (r1, r2) := by rw [if_neg (show ¬ (false = true) by decide)] at H; exact H
        clear H
        have H := H1
        clear H1
        have H' := Aside0.mk H
        clear H
        have hcz11_0 : w9.cell? ⟨gb299, 0, none⟩ = some (.int .i64 a0_0) := (blk_cell BK299.out 0).trans rfl
        have hcz11_1 : w9.cell? ⟨gb299, 1, none⟩ = some (.int .i64 a0_1) := (blk_cell BK299.out 1).trans rfl
        have hcz11_2 : w9.cell? ⟨gb299, 2, none⟩ = some (.int .i64 a0_2) := (blk_cell BK299.out 2).trans rfl
        have hcz11_3 : w9.cell? ⟨gb299, 3, none⟩ = some (.int .i64 a0_3) := (blk_cell BK299.out 3).trans rfl
        have hcz11_4 : w9.cell? ⟨gb299, 4, none⟩ = some (.int .i64 a0_4) := (blk_cell BK299.out 4).trans rfl
        have hcz11_5 : w9.cell? ⟨gb299, 5, none⟩ = some (.int .i64 a0_5) := (blk_cell BK299.out 5).trans rfl
        have hcz11_6 : w9.cell? ⟨gb299, 6, none⟩ = some (.int .i64 a0_6) := (blk_cell BK299.out 6).trans rfl
        have hcz11_7 : w9.cell? ⟨gb299, 7, none⟩ = some (.int .i64 a0_7) := (blk_cell BK299.out 7).trans rfl
        have hcz11_8 : w9.cell? ⟨gb299, 8, none⟩ = some (.int .i64 a0_8) := (blk_cell BK299.out 8).trans rfl
        have hcz11_9 : w9.cell? ⟨gb299, 9, none⟩ = some (.int .i64 a0_9) := (blk_cell BK299.out 9).trans rfl
        have hcz11_10 : w9.cell? ⟨gb299, 10, none⟩ = some (.int .i64 a0_10) := (blk_cell BK299.out 10).trans rfl
        have hfz11_0 := blk_frozen BK299.out 0
        have hfz11_1 := blk_frozen BK299.out 1
        have hfz11_2 := blk_frozen BK299.out 2
        have hfz11_3 := blk_frozen BK299.out 3
        have hfz11_4 := blk_frozen BK299.out 4
        have hfz11_5 := blk_frozen BK299.out 5
        have hfz11_6 := blk_frozen BK299.out 6
        have hfz11_7 := blk_frozen BK299.out 7
        have hfz11_8 := blk_frozen BK299.out 8
        have hfz11_9 := blk_frozen BK299.out 9
        have hfz11_10 := blk_frozen BK299.out 10
        go_wp2
        go_meet
        case rel => exact ⟨_, (decide (a1 < a0_7)), (by first | rfl | (simp; done) | (simp [*]; done)), H', ⟨by first | omega | exact Nat.le_refl _⟩, ⟨by (with_reducible repeat (first | refine blk_drewN ?_ _ | refine blk_drew ?_ | refine blk_alloc ?_ _)); exact BK299.out⟩, ⟨by repeat (first | (with_reducible first | exact HB.out | apply below_alloc | apply pw_below_drewN | apply below_drew1 | refine below_set ?_ GE299.out) | exact HB.out)⟩⟩
    case rest =>
      clear HC6
      try clear c1
      try clear p2
      try clear c3
      try clear c4
      try clear c5
      try clear c10
      try clear hcz11_0
      try clear hcz11_1
      try clear hcz11_10
      try clear hcz11_2
      try clear hcz11_3
      try clear hcz11_4
      try clear hcz11_5
      try clear hcz11_6
      try clear hcz11_7
      try clear hcz11_8
      try clear hcz11_9
      try clear hcz8_0
      try clear hcz8_1
      try clear hcz8_10
      try clear hcz8_2
      try clear hcz8_3
      try clear hcz8_4
      try clear hcz8_5
      try clear hcz8_6
      try clear hcz8_7
      try clear hcz8_8
      try clear hcz8_9
      try clear hfz11_0
      try clear hfz11_1
      try clear hfz11_10
      try clear hfz11_2
      try clear hfz11_3
      try clear hfz11_4
      try clear hfz11_5
      try clear hfz11_6
      try clear hfz11_7
      try clear hfz11_8
      try clear hfz11_9
      try clear hfz8_0
      try clear hfz8_1
      try clear hfz8_10
      try clear hfz8_2
      try clear hfz8_3
      try clear hfz8_4
      try clear hfz8_5
      try clear hfz8_6
      try clear hfz8_7
      try clear hfz8_8
      try clear hfz8_9
      obtain ⟨kq, x18_5, rfl, HA, HJ5, BK299, HB⟩ := hcut
      cases kq with
      | zero => exact absurd HA.out (by simp [gatelineref25_Day.j0])
      | succ kj5 =>
        have H := HA.out
        clear HA
        simp only [gatelineref25_Day.j0] at H
        by_cases c12 : x18_5 = true
        · subst c12
          have H1 : (some (7, 0)) = some (r1, r2) := by rw [if_pos rfl] at H; exact H
          clear H
          have H := H1
          clear H1
          simp only [Option.some.injEq, Prod.mk.injEq] at H
          obtain ⟨rfl, rfl⟩ := H
          go_wp2
          go_ret2
          exact ⟨by first | rfl | (simp [errW_none, errW_some] <;> rfl) | (simp [*, errW_none, errW_some] <;> rfl), by repeat (first | (with_reducible first | exact HB.out | apply below_alloc | apply pw_below_drewN | apply below_drew1 | refine below_set ?_ GE299.out) | exact HB.out)⟩
        · replace c12 := Bool.eq_false_iff.mpr c12
          subst c12
          have H1 : (if a2 = true then (some (0, 0)) else (if a1 ≥ (wrap64 (a0_7 + a0_8)) then (some (8, 0)) else (some (0, 0)))) = some (r1, r2) := by rw [if_neg (show ¬ (false = true) by decide)] at H; exact H
          clear H
          have H := H1
          clear H1
          by_cases c13 : a2 = true
          · subst c13
            have H1 : (some (0, 0)) = some (r1, r2) := by rw [if_pos rfl] at H; exact H
            clear H
            have H := H1
            clear H1
            simp only [Option.some.injEq, Prod.mk.injEq] at H
            obtain ⟨rfl, rfl⟩ := H
            go_wp2
            go_ret2
            exact ⟨by first | rfl | (simp [errW_none, errW_some] <;> rfl) | (simp [*, errW_none, errW_some] <;> rfl), by repeat (first | (with_reducible first | exact HB.out | apply below_alloc | apply pw_below_drewN | apply below_drew1 | refine below_set ?_ GE299.out) | exact HB.out)⟩
          · replace c13 := Bool.eq_false_iff.mpr c13
            subst c13
            have H1 : (if a1 ≥ (wrap64 (a0_7 + a0_8)) then (some (8, 0)) else (some (0, 0))) = some (r1, r2) := by rw [if_neg (show ¬ (false = true) by decide)] at H; exact H
            clear H
            have H := H1
            clear H1
            by_cases c14 : a1 ≥ (wrap64 (a0_7 + a0_8))
            · rw [if_pos c14] at H
              have c14b0 : decide ((wrap64 (a0_7 + a0_8)) ≤ a1) = true := decide_eq_true c14
              clear c14
              simp only [Option.some.injEq, Prod.mk.injEq] at H
              obtain ⟨rfl, rfl⟩ := H
              have hcz15_0 : wc.cell? ⟨gb299, 0, none⟩ = some (.int .i64 a0_0) := (blk_cell BK299.out 0).trans rfl
              have hcz15_1 : wc.cell? ⟨gb299, 1, none⟩ = some (.int .i64 a0_1) := (blk_cell BK299.out 1).trans rfl
              have hcz15_2 : wc.cell? ⟨gb299, 2, none⟩ = some (.int .i64 a0_2) := (blk_cell BK299.out 2).trans rfl
              have hcz15_3 : wc.cell? ⟨gb299, 3, none⟩ = some (.int .i64 a0_3) := (blk_cell BK299.out 3).trans rfl
              have hcz15_4 : wc.cell? ⟨gb299, 4, none⟩ = some (.int .i64 a0_4) := (blk_cell BK299.out 4).trans rfl
              have hcz15_5 : wc.cell? ⟨gb299, 5, none⟩ = some (.int .i64 a0_5) := (blk_cell BK299.out 5).trans rfl
              have hcz15_6 : wc.cell? ⟨gb299, 6, none⟩ = some (.int .i64 a0_6) := (blk_cell BK299.out 6).trans rfl
              have hcz15_7 : wc.cell? ⟨gb299, 7, none⟩ = some (.int .i64 a0_7) := (blk_cell BK299.out 7).trans rfl
              have hcz15_8 : wc.cell? ⟨gb299, 8, none⟩ = some (.int .i64 a0_8) := (blk_cell BK299.out 8).trans rfl
              have hcz15_9 : wc.cell? ⟨gb299, 9, none⟩ = some (.int .i64 a0_9) := (blk_cell BK299.out 9).trans rfl
              have hcz15_10 : wc.cell? ⟨gb299, 10, none⟩ = some (.int .i64 a0_10) := (blk_cell BK299.out 10).trans rfl
              have hfz15_0 := blk_frozen BK299.out 0
              have hfz15_1 := blk_frozen BK299.out 1
              have hfz15_2 := blk_frozen BK299.out 2
              have hfz15_3 := blk_frozen BK299.out 3
              have hfz15_4 := blk_frozen BK299.out 4
              have hfz15_5 := blk_frozen BK299.out 5
              have hfz15_6 := blk_frozen BK299.out 6
              have hfz15_7 := blk_frozen BK299.out 7
              have hfz15_8 := blk_frozen BK299.out 8
              have hfz15_9 := blk_frozen BK299.out 9
              have hfz15_10 := blk_frozen BK299.out 10
              go_wp2
              go_ret2
              exact ⟨by first | rfl | (simp [errW_none, errW_some] <;> rfl) | (simp [*, errW_none, errW_some] <;> rfl), by repeat (first | (with_reducible first | exact HB.out | apply below_alloc | apply pw_below_drewN | apply below_drew1 | refine below_set ?_ GE299.out) | exact HB.out)⟩
            · rw [if_neg c14] at H
              have c14b0 : decide ((wrap64 (a0_7 + a0_8)) ≤ a1) = false := decide_eq_false c14
              clear c14
              simp only [Option.some.injEq, Prod.mk.injEq] at H
              obtain ⟨rfl, rfl⟩ := H
              have hcz16_0 : wc.cell? ⟨gb299, 0, none⟩ = some (.int .i64 a0_0) := (blk_cell BK299.out 0).trans rfl
              have hcz16_1 : wc.cell? ⟨gb299, 1, none⟩ = some (.int .i64 a0_1) := (blk_cell BK299.out 1).trans rfl
              have hcz16_2 : wc.cell? ⟨gb299, 2, none⟩ = some (.int .i64 a0_2) := (blk_cell BK299.out 2).trans rfl
              have hcz16_3 : wc.cell? ⟨gb299, 3, none⟩ = some (.int .i64 a0_3) := (blk_cell BK299.out 3).trans rfl
              have hcz16_4 : wc.cell? ⟨gb299, 4, none⟩ = some (.int .i64 a0_4) := (blk_cell BK299.out 4).trans rfl
              have hcz16_5 : wc.cell? ⟨gb299, 5, none⟩ = some (.int .i64 a0_5) := (blk_cell BK299.out 5).trans rfl
              have hcz16_6 : wc.cell? ⟨gb299, 6, none⟩ = some (.int .i64 a0_6) := (blk_cell BK299.out 6).trans rfl
              have hcz16_7 : wc.cell? ⟨gb299, 7, none⟩ = some (.int .i64 a0_7) := (blk_cell BK299.out 7).trans rfl
              have hcz16_8 : wc.cell? ⟨gb299, 8, none⟩ = some (.int .i64 a0_8) := (blk_cell BK299.out 8).trans rfl
              have hcz16_9 : wc.cell? ⟨gb299, 9, none⟩ = some (.int .i64 a0_9) := (blk_cell BK299.out 9).trans rfl
              have hcz16_10 : wc.cell? ⟨gb299, 10, none⟩ = some (.int .i64 a0_10) := (blk_cell BK299.out 10).trans rfl
              have hfz16_0 := blk_frozen BK299.out 0
              have hfz16_1 := blk_frozen BK299.out 1
              have hfz16_2 := blk_frozen BK299.out 2
              have hfz16_3 := blk_frozen BK299.out 3
              have hfz16_4 := blk_frozen BK299.out 4
              have hfz16_5 := blk_frozen BK299.out 5
              have hfz16_6 := blk_frozen BK299.out 6
              have hfz16_7 := blk_frozen BK299.out 7
              have hfz16_8 := blk_frozen BK299.out 8
              have hfz16_9 := blk_frozen BK299.out 9
              have hfz16_10 := blk_frozen BK299.out 10
              go_wp2
              go_ret2
              exact ⟨by first | rfl | (simp [errW_none, errW_some] <;> rfl) | (simp [*, errW_none, errW_some] <;> rfl), by repeat (first | (with_reducible first | exact HB.out | apply below_alloc | apply pw_below_drewN | apply below_drew1 | refine below_set ?_ GE299.out) | exact HB.out)⟩
  · replace c5 := Bool.eq_false_iff.mpr c5
    subst c5
    have H1 : (some (0, 1)) = some (r1, r2) := by rw [if_neg (show ¬ (false = true) by decide)] at H; exact H
    clear H
    have H := H1
    clear H1
    simp only [Option.some.injEq, Prod.mk.injEq] at H
    obtain ⟨rfl, rfl⟩ := H
    go_enter Try.func41, Try.ntmps41
    go_wp2_with (first | ((with_reducible refine gate_dst (N := 3) rfl ?_); refine box_event ?hg (N := 3) ?hd (cs := #[.int .i64 a0_0, .int .i64 a0_1, .int .i64 a0_2, .int .i64 a0_3, .int .i64 a0_4, .int .i64 a0_5, .int .i64 a0_6, .int .i64 a0_7, .int .i64 a0_8, .int .i64 a0_9, .int .i64 a0_10]) (t := 23) ?hr ?_; (case hd => rfl); (case hg => rfl); (case hr => first | (go_simp; done) | (go_simp; rfl)); intro gb299 hg w17 hbox hb; have n0_ := Aside0.mk (below_step (by repeat (first | (with_reducible first | exact HB.out | apply below_alloc | apply pw_below_drewN | apply below_drew1) | exact HB.out)) hb); have n1_ := Aside0.mk (hbox); have n2_ := Aside0.mk ((by rw [hg]; exact (below_size (by repeat (first | (with_reducible first | exact HB.out | apply below_alloc | apply pw_below_drewN | apply below_drew1) | exact HB.out))) : w.heap.size ≤ gb299)); have n3_ := Aside0.mk ((by rw [hg]; exact (below_size (by repeat (first | (with_reducible first | exact HB.out | apply below_alloc | apply pw_below_drewN | apply below_drew1) | exact HB.out))) : w.heap.size ≤ gb299)); clear HB; have HB := n0_; have BK299 := n1_; have GW299 := n2_; have GE299 := n3_; clear n0_ n1_ n2_ n3_; clear hb hbox hg; have hcz18_0 : w17.cell? ⟨gb299, 0, none⟩ = some (.int .i64 a0_0) := (blk_cell BK299.out 0).trans rfl; have hcz18_1 : w17.cell? ⟨gb299, 1, none⟩ = some (.int .i64 a0_1) := (blk_cell BK299.out 1).trans rfl; have hcz18_2 : w17.cell? ⟨gb299, 2, none⟩ = some (.int .i64 a0_2) := (blk_cell BK299.out 2).trans rfl; have hcz18_3 : w17.cell? ⟨gb299, 3, none⟩ = some (.int .i64 a0_3) := (blk_cell BK299.out 3).trans rfl; have hcz18_4 : w17.cell? ⟨gb299, 4, none⟩ = some (.int .i64 a0_4) := (blk_cell BK299.out 4).trans rfl; have hcz18_5 : w17.cell? ⟨gb299, 5, none⟩ = some (.int .i64 a0_5) := (blk_cell BK299.out 5).trans rfl; have hcz18_6 : w17.cell? ⟨gb299, 6, none⟩ = some (.int .i64 a0_6) := (blk_cell BK299.out 6).trans rfl; have hcz18_7 : w17.cell? ⟨gb299, 7, none⟩ = some (.int .i64 a0_7) := (blk_cell BK299.out 7).trans rfl; have hcz18_8 : w17.cell? ⟨gb299, 8, none⟩ = some (.int .i64 a0_8) := (blk_cell BK299.out 8).trans rfl; have hcz18_9 : w17.cell? ⟨gb299, 9, none⟩ = some (.int .i64 a0_9) := (blk_cell BK299.out 9).trans rfl; have hcz18_10 : w17.cell? ⟨gb299, 10, none⟩ = some (.int .i64 a0_10) := (blk_cell BK299.out 10).trans rfl; have hfz18_0 := blk_frozen BK299.out 0; have hfz18_1 := blk_frozen BK299.out 1; have hfz18_2 := blk_frozen BK299.out 2; have hfz18_3 := blk_frozen BK299.out 3; have hfz18_4 := blk_frozen BK299.out 4; have hfz18_5 := blk_frozen BK299.out 5; have hfz18_6 := blk_frozen BK299.out 6; have hfz18_7 := blk_frozen BK299.out 7; have hfz18_8 := blk_frozen BK299.out 8; have hfz18_9 := blk_frozen BK299.out 9; have hfz18_10 := blk_frozen BK299.out 10) | ((with_reducible refine gate_callee (f := 31) rfl ?_); refine goesL_ (some 9) rfl rfl Try.func31 (by kernel_rfl) rfl #[.agg #[.int .i64 a0_0, .int .i64 a0_1, .int .i64 a0_2, .int .i64 a0_3, .int .i64 a0_4, .int .i64 a0_5, .int .i64 a0_6, .int .i64 a0_7, .int .i64 a0_8, .int .i64 a0_9, .int .i64 a0_10]] rfl (by (try simp only [List.map_toArray, List.map_cons, List.map_nil]); first | done | rfl | (simp only [List.length_drop, List.length_take]; rfl)) ?_; (with_reducible refine (gatelineref09_Is.calls k a0_0 a0_1 a0_2 a0_3 a0_4 a0_5 a0_6 a0_7 a0_8 a0_9 a0_10 false _ A4.out).mono ?_); rintro e w19 ⟨rfl, hb⟩; refine ⟨_, rfl, ?_⟩; have n0_ := Aside0.mk (blk_below (g := gb299) (o := .cells #[.int .i64 a0_0, .int .i64 a0_1, .int .i64 a0_2, .int .i64 a0_3, .int .i64 a0_4, .int .i64 a0_5, .int .i64 a0_6, .int .i64 a0_7, .int .i64 a0_8, .int .i64 a0_9, .int .i64 a0_10] 23 (0, 0)) (by (with_reducible repeat (first | refine blk_drewN ?_ _ | refine blk_drew ?_ | refine blk_alloc ?_ _)); exact BK299.out) hb); have n1_ := Aside0.mk (below_step (by repeat (first | (with_reducible first | exact HB.out | apply below_alloc | apply pw_below_drewN | apply below_drew1 | refine below_set ?_ GE299.out) | exact HB.out)) hb); clear BK299; clear HB; have BK299 := n0_; have HB := n1_; clear n0_ n1_; (try clear hb); (try clear hb2); (try clear hk); (try clear hi); (try clear A4)))
    go_ret2
    exact ⟨by first | rfl | (simp [errW_none, errW_some] <;> rfl) | (simp [*, errW_none, errW_some] <;> rfl), by repeat (first | (with_reducible first | exact HB.out | apply below_alloc | apply pw_below_drewN | apply below_drew1 | refine below_set ?_ GE299.out) | exact HB.out)⟩

end Go.Proofs.Ytdiijjdhofaodaa.PL
end
section
set_option linter.unusedSimpArgs false
namespace Go.Proofs.Ytdiijjdhofaodaa.Pure
open Go Go.RowKit Go.Proofs.Ytdiijjdhofaodaa.G Go.Proofs.Ytdiijjdhofaodaa.PL Go.Proofs.YtdiijjdhofaodaaW.PrintWords Go.Proofs.YtdiijjdhofaodaaW.PrintLast Go.Proofs.YtdiijjdhofaodaaW.PrintMore
section
variable (y0 y1 y2 y3 y4 y5 y6 y7 y8 y9 y10 l i : Int) (bk : Bool) (x0 x1 x2 x3 x4 x5 x6 x7 x8 x9 x10 : Int)
theorem ref24Is_f (k : Nat) : gatelineref24_Is.f (k + 3) y0 y1 y2 y3 y4 y5 y6 y7 y8 y9 y10 l i bk = some (jisB y0 y1 y2 y3 y4 y5 y6 y7 y8 y9 y10 l i) := by
  unfold gatelineref24_Is.f
  rw [refJis_f y0 y1 y2 y3 y4 y5 y6 y7 y8 y9 y10 l i k, Option.bind_some]
theorem not_same : (!(x0 == y0) || (!(x1 == y1) || (!(x2 == y2) || (!(x3 == y3) || (!(x4 == y4) || (!(x5 == y5) || (!(x6 == y6) || (!(x7 == y7) || (!(x8 == y8) || (!(x9 == y9) || (!(x10 == y10)))))))))))) = !(sameT y0 y1 y2 y3 y4 y5 y6 y7 y8 y9 y10 x0 x1 x2 x3 x4 x5 x6 x7 x8 x9 x10) := by
  unfold sameT
  simp only [Bool.not_and]
theorem ref25Same_f (k : Nat) : gatelineref25_Same.f (k + 3) y0 y1 y2 y3 y4 y5 y6 y7 y8 y9 y10 l i bk x0 x1 x2 x3 x4 x5 x6 x7 x8 x9 x10 = some (sameR y0 y1 y2 y3 y4 y5 y6 y7 y8 y9 y10 l i bk x0 x1 x2 x3 x4 x5 x6 x7 x8 x9 x10) := by
  unfold gatelineref25_Same.f sameR
  rw [ref24Is_f y0 y1 y2 y3 y4 y5 y6 y7 y8 y9 y10 l i bk k, Option.bind_some]
  cases hJ : jisB y0 y1 y2 y3 y4 y5 y6 y7 y8 y9 y10 l i
  · rw [if_neg (by decide), if_neg (by decide)]
  · rw [if_pos rfl, if_pos rfl]
    cases bk
    · rw [not_same]
      cases sameT y0 y1 y2 y3 y4 y5 y6 y7 y8 y9 y10 x0 x1 x2 x3 x4 x5 x6 x7 x8 x9 x10
      · rfl
      · rfl
    · rw [if_pos rfl, if_pos rfl]
theorem ref25Day_f (k : Nat) (day : Int) (out : Bool) : gatelineref25_Day.f (k + 1 + 1) x0 x1 x2 x3 x4 x5 x6 x7 x8 x9 x10 day out = some (dayR x0 x1 x2 x3 x4 x5 x6 x7 x8 x9 x10 day out) := by
  unfold gatelineref25_Day.f dayR
  rw [refIs_f k x0 x1 x2 x3 x4 x5 x6 x7 x8 x9 x10, Option.bind_some]
  cases hI : isB x0 x1 x2 x3 x4 x5 x6 x7 x8 x9 x10
  · rw [if_neg (by decide), if_neg (by decide)]
  · rw [if_pos rfl, if_pos rfl]
    have hd := isB_days hI
    cases out
    · rw [if_neg (by decide), if_neg (by decide), gatelineref25_Day.j0]
      by_cases h1 : day < x7
      · rw [decide_eq_true h1, if_pos rfl, if_pos h1]
      · rw [decide_eq_false h1, if_neg (by decide), if_neg h1, if_neg (by decide), w64 (x := x7 + x8) (by omega) (by omega)]
        by_cases h2 : day > x7 + x8 - 1
        · rw [if_pos h2, if_pos (by omega)]
        · rw [if_neg h2, if_neg (by omega)]
    · rw [if_pos rfl, if_pos rfl, gatelineref25_Day.j0, if_neg (by decide), if_pos rfl]
end
end Go.Proofs.Ytdiijjdhofaodaa.Pure
end
